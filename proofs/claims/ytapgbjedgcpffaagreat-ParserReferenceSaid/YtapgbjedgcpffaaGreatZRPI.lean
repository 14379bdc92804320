/-
The lexer of the reference: the same tokens. No condition.
-/
import Derived.Test.YtapgbjedgcpffaaGreatZRL1
import Derived.Test.YtapgbjedgcpffaaGreatZRPH
noncomputable section
namespace Go.Proofs.YtapgbjedgcpffaaGreat.pi_
open Go.R
set_option maxRecDepth 10000
set_option linter.unusedVariables false
set_option linter.unusedSimpArgs false
variable (ex:FuncId) {F:Fz} {H:Heap} {R:List Fp}
open w1 w3 l1 pt pa pb pc pd pe pf pg ph
abbrev cj:List Str:=[⟨[62,62,62]⟩,⟨[60,60]⟩,⟨[62,62]⟩,⟨[60,61]⟩,⟨[62,61]⟩,⟨[61,61]⟩,⟨[33,61]⟩]
abbrev zPI2:List UInt8:=[43,45,42,47,37,38,124,94,126,33,60,62,61,63,58,59,44,40,41,123,125,91,93]
theorem jP(s:List UInt8)(i j:Nat):(s.drop i).getD j 0=s.getD (i+j) 0:=by rw[a08,a08,a0F]
theorem gd{s:List UInt8}{i:Nat}:(s.drop i).getD 0 0=s.getD i 0:=jP s i 0
theorem wl_at{s:List UInt8}{i k:Nat}(O:i<=k/\k<=s.length)(E:((s.drop i).take (k-i)).all aR=true)(c:k<s.length->aR (s.getD k 0)=false):aW (s.drop i)=k-i:=
 (gP (by rw[a0a];omega) E (fun h=>by rw[a0a]at h;rw[jP,show i+(k-i)=k by omega];exact c M)).symm
theorem wl_step{s:List UInt8}{i k:Nat}(O:i<=k)(T:k<s.length)(E:((s.drop i).take (k-i)).all aR=true)(c:aR (s.getD k 0)=true):((s.drop i).take (k+1-i)).all aR=true:=by rw[show k+1-i=(k-i)+1 by omega,gB (by rw[a0a];omega),E,jP,show i+(k-i)=k by omega,c];rfl
theorem tk_ne{s:List UInt8}{i m:Nat}(T:aW (s.drop i)=m)(E:m≠0):(s.drop i).take m≠ []:=fun e=>by have:=congrArg List.length e;have O:=ia (s.drop i);rw[a0d,List.length_nil]at this;omega
theorem vn_pos{t:List UInt8}(h:t≠ []):da t=(dF t 9223372036854775808).isSome:=by
 rw[a0G,vn_iff h];unfold dF;split
 ·next q=>exact⟨fun _=>rfl,fun _=>q⟩
 next q=>exact⟨fun k=>absurd k q,fun k=>by cases k⟩
theorem fk_num{s:List UInt8}{i m:Nat}(O:aW (s.drop i)=m)(E:m≠0)(hd:bo (s.getD i 0)=true)(T:(dF ((s.drop i).take m) 9223372036854775808).isSome=true):aF (s.drop i)=(2,(s.drop i).take m,0):=by unfold aF;rw[O,if_neg E,gd,if_pos hd,if_pos (by rw[vn_pos (tk_ne O E)];exact T)]
theorem fk_bad{s:List UInt8}{i m:Nat}(O:aW (s.drop i)=m)(E:m≠0)(hd:bo (s.getD i 0)=true)(T:(dF ((s.drop i).take m) 9223372036854775808).isSome=false):aF (s.drop i)=(0,[],2):=by unfold aF;rw[O,if_neg E,gd,if_pos hd,if_neg (by rw[vn_pos (tk_ne O E),T];decide)]
theorem fk_long{s:List UInt8}{i m:Nat}(T:aW (s.drop i)=m)(E:m≠0)(hd:bo (s.getD i 0)=false)(O:16<m):aF (s.drop i)=(0,[],6):=by unfold aF;rw[T,if_neg E,gd,if_neg (by rw[hd];decide),if_pos O]
theorem fk_name{s:List UInt8}{i m:Nat}(T:aW (s.drop i)=m)(E:m≠0)(hd:bo (s.getD i 0)=false)(O: ¬16<m):aF (s.drop i)=(1,(s.drop i).take m,0):=by unfold aF;rw[T,if_neg E,gd,if_neg (by rw[hd];decide),if_neg O]
theorem wl_0{s:List UInt8}{i:Nat}(E:aR (s.getD i 0)=false):aW (s.drop i)=0:=by
 cases h:aW (s.drop i) with
 |zero=>rfl
 |succ n=>have:=(i0 (s:=s.drop i)).2 M;rw[gd,E]at this;cases this
theorem fk_sym{s:List UInt8}{i:Nat}(E:aR (s.getD i 0)=false)(h:(s.drop i).take (aV (s.drop i))≠ []):aF (s.drop i)=(3,(s.drop i).take (aV (s.drop i)),0):=by unfold aF;rw[wl_0 E,if_pos V,if_neg (fun e=>h (by rw[e];rfl))]
theorem fk_none{s:List UInt8}{i:Nat}(O:aR (s.getD i 0)=false)(h:(s.drop i).take (aV (s.drop i))=[]):aF (s.drop i)=(0,[],2):=by
 unfold aF;rw[wl_0 O,if_pos rfl];by_cases hi:i<s.length
 ·have E:=li (s:=s.drop i) (by rw[a0a];omega);have:=congrArg List.length h;rw[a0d,List.length_nil]at this;rw[if_pos M]
 rw[a1a M];rfl
theorem m6{s:List UInt8}{i A O:Nat}{l:List Token}{R:Sc}{U:Int}{tx:List UInt8}(h:i<s.length)(Y:i=A)(T:aF (s.drop i)=(U,tx,0))(Z:s.length-A<O)(E:preT l (dX O s A)=R):preT (l++[⟨U,⟨tx⟩,(i:Int)⟩]) (dX (O-1) s (i+tx.length+spl false (s.drop (i+tx.length))))=R:=by subst Y;have:=scan_step h Z (by rw[T]) E;rw[T]at this;exact this
theorem jD{s:List UInt8}{i A O:Nat}{l:List Token}{R:Sc}{kd e:Int}{tx:List UInt8}(h:i<s.length)(U:i=A)(T:aF (s.drop i)=(kd,tx,e))(Y:e≠0)(Z:s.length-A<O)(E:preT l (dX O s A)=R):R=([],e,(i:Int)):=by subst U;have:=na h Z (by rw[T];exact Y) E;rw[T]at this;exact this
theorem spl_at{s:List UInt8}{n:Nat}(h:n<=s.length):n+spl false (s.drop n)<=s.length:=by have:=j0 (s.drop n) false;rw[a0a]at this;omega
theorem spE'{A:Nat}{s:List UInt8}{n:Nat}(h: ¬n<s.length)(e:n+spl false (s.drop n)=A):n=A:=by rw[a1a M]at e;simpa[spl] using e
theorem spA'{A:Nat}{s:List UInt8}{n:Nat}(h:n<s.length)(c:s.getD n 0=32\/s.getD n 0=9\/s.getD n 0=10\/s.getD n 0=13)(e:n+spl false (s.drop n)=A):n+1+spl false (s.drop (n+1))=A:=by rw[jr h,spl,if_pos c]at e;omega
theorem spH'{A:Nat}{s:List UInt8}{n:Nat}(h:n<s.length)(c:s.getD n 0=35)(e:n+spl false (s.drop n)=A):n+spl true (s.drop n)=A:=by rw[jr h,spl,if_neg (by rw[c];decide),if_pos c]at e;rw[jr h,spl,if_neg (by rw[c];decide)];exact e
theorem spT'{A:Nat}{s:List UInt8}{n:Nat}(h:n<s.length)(c:s.getD n 0≠10)(e:n+spl true (s.drop n)=A):n+1+spl true (s.drop (n+1))=A:=by rw[jr h,spl,if_neg c]at e;omega
theorem spN'{A:Nat}{s:List UInt8}{n:Nat}(c:n<s.length->s.getD n 0=10)(e:n+spl true (s.drop n)=A):n+spl false (s.drop n)=A:=by
 by_cases h:n<s.length
 ·rw[jr h,spl,if_pos (c h)]at e;rw[jr h,spl,if_pos (.inr (.inr (.inl (c h))))];exact e
 rw[a1a M]at e⊢;exact e
theorem spX'{A:Nat}{s:List UInt8}{n:Nat}(h:n<s.length)(c: ¬(s.getD n 0=32\/s.getD n 0=9\/s.getD n 0=10\/s.getD n 0=13))(c2:s.getD n 0≠35)(e:n+spl false (s.drop n)=A):n=A:=by rw[jr h,spl,if_neg c,if_neg c2]at e;exact e
theorem rLetter_c(c:UInt8)(H:Heap):kKt ex 48 [(.int .u8 (c.toNat:Int))] H fun v H'=> ∃(r:Bool),H'=H/\v= .bool r/\r=bT c:=by refine av Tryz.func48 V V (ai 1 V (wr 2 [] 2 2 [] [(2,(.bool false))] trivial V V fun _=>wr 1 [] 2 20 [] [(2,(.bool ((((decide ((97:Int)<=(c.toNat:Int)))&&(decide ((c.toNat:Int)<=122)))||((decide ((65:Int)<=(c.toNat:Int)))&&(decide ((c.toNat:Int)<=90))))||((c.toNat:Int)==95))))] trivial V V fun _=>ae ⟨.inr V,_,V,_,V,V,(by simp[bT];grind)⟩))
theorem lA(c:UInt8)(H:Heap):kKt ex 48 [(.int .u8 (c.toNat:Int))] H fun v H'=>v=(.bool (bT c))/\H'=H:=
 cq (rLetter_c ex c H) (by rintro _ _ ⟨_,rfl,rfl,rfl⟩;exact⟨V,V⟩)
theorem rDigit_c(c:UInt8)(H:Heap):kKt ex 49 [(.int .u8 (c.toNat:Int))] H fun v H'=> ∃(r:Bool),H'=H/\v= .bool r/\r=bo c:=by refine av Tryz.func49 V V (ai 1 V (wr 2 [] 2 2 [] [(2,(.bool false))] trivial V V fun _=>wr 1 [] 2 8 [] [(2,(.bool ((decide ((48:Int)<=(c.toNat:Int)))&&(decide ((c.toNat:Int)<=57)))))] trivial V V fun _=>ae ⟨.inr V,_,V,_,V,V,(by simp[bo];grind)⟩))
theorem jK(c:UInt8)(H:Heap):kKt ex 49 [(.int .u8 (c.toNat:Int))] H fun v H'=>v=(.bool (bo c))/\H'=H:=
 cq (rDigit_c ex c H) (by rintro _ _ ⟨_,rfl,rfl,rfl⟩;exact⟨V,V⟩)
theorem rsymbol_c(s:List UInt8)(hs:HS (.of H []) F H [] R)(h0:0<s.length)(hl:s.length<4611686018427387904):kKt ex 51 [(tX s)] H fun v H'=> ∃(r:List UInt8) (F':Fz),Fz.le F F'/\HS (.of H []) F' H' [] R/\v=tX r/\r=s.take (aV s):=by
 refine av Tryz.func51 V V (ai 1 V (wr 2 [] 2 2 [] [(2,(tX []))] trivial V V fun _=>ab (zlo cj hs V j_ V fun a2 k2 p2 H3 O E=>za (sL a2 _ k2) ?_)));refine ah 3 V (wr 2 [] 1 0 [4] [(4,(.int _ 0))] trivial V V fun _=>aY (ai 2 V (wr 1 [] 8 11 [] [(11,(.bool true))] trivial V V fun _=>bn 4 V V V V ?_)));obtain⟨dn,a9⟩:=Sv.view (OS.sv O E (i:=0) V);refine wrDp 1 14 35 [] [(35,(.bool ((decide (((cj.getD 0 _).b.length:Int)<=(s.length:Int)))&&((s.take (cj.getD 0 default).b.length)==(cj.getD 0 _).b))))] (Ha_ (Sv.ix (OS.sv O E (i:=0) V) e_ (show(0:Int)<(7:Int) from by decide)) (Hl_ 5 (ql 9 0 (hc0 (vS (a9 0) (show 0<7 from by decide))) V V) (Ha_ (fun(T:_)=>(Sv.ix (OS.sv O E (i:=0) V) e_ (show(0:Int)<(7:Int) from by decide))) (Ho_ 13 (.o (tX (cj.getD 0 _).b)) (fun(T:_)=>(ql 9 0 (hc0 (vS (a9 0) (show 0<7 from by decide))) V V)) (Ha_ (fun(T:_)=>(vA (show(0:Int)<=((cj.getD 0 _).b.length:Int) from by(try simp only[BS]at T);(first|omega|(show _<23;omega)|(dsimp only;omega))) (show((cj.getD 0 _).b.length:Int)<=(((s:List UInt8).length:Nat):Int) from by(try simp only[BS]at T);(first|omega|(show _<23;omega)|(dsimp only;omega))))) (Ha_ (fun(T:_)=>(Sv.ix (OS.sv O E (i:=0) V) e_ (show(0:Int)<(7:Int) from by decide))) (Ho_ 19 (.o (tX (cj.getD 0 _).b)) (fun(T:_)=>(ql 9 0 (hc0 (vS (a9 0) (show 0<7 from by decide))) V V)) Hn_))))))) V V V fun _=>zi 1 2 (fun c9=>?_) fun c9=>?_
 ·try simp only[BS]at c9
  first|have nn:s.take 3=[_,_,_]:=(c9).2|have nn:s.take 2=[_,_]:=(c9).2
  obtain⟨ck,ba⟩:=Sv.view (OS.sv O E (i:=0) V);refine wrp 1 36 39 [2] [(2,(tX (cj.getD 0 _).b))] (Ha_ (Sv.ix (OS.sv O E (i:=0) V) e_ (show(0:Int)<(7:Int) from by decide)) (Hl_ 3 (ql 9 0 (vS (ba 0) (show 0<7 from by decide)) V V) Hn_)) V V fun _=>ae ⟨.inr V,_,V,_,_,fR,(HS.forget E),V,(by(rw[show aV s=3 by simp only[aV, *,↓reduceIte,true_or,or_true]];exact nn.symm))⟩
 try simp only[BS]at c9
 first|have nn:=tk3 c9|have nn:=tk2 c9
 refine wU 1 [] 12 13 [4] [(4,(iI 1))] (vi (n:=(1:Int))) V fun _=>aY (ai 2 V (wT 1 [] 8 11 [] [(11,(.bool true))] V fun _=>bn 4 (v:=true) V V V V ?_))
 obtain⟨cm,a1⟩:=Sv.view (OS.sv O E (i:=0) V);refine wrDp 1 14 35 [] [(35,(.bool ((decide (((cj.getD 1 default).b.length:Int)<=(s.length:Int)))&&((s.take (cj.getD 1 default).b.length)==(cj.getD 1 default).b))))] (Ha_ (Sv.ix (j:=1) (OS.sv O E (i:=0) V) e_ (show(1:Int)<(7:Int) from by decide)) (Hl_ 5 (ql 9 0 (hc0 (vS (a1 1) (show 1<7 from by decide))) V V) (Ha_ (fun(T:(decide (((cj.getD 1 default).b.length:Int)<=(s.length:Int)))=true)=>(Sv.ix (j:=1) (OS.sv O E (i:=0) V) e_ (show(1:Int)<(7:Int) from by decide))) (Ho_ 13 (.o (tX (cj.getD 1 default).b)) (fun(T:(decide (((cj.getD 1 default).b.length:Int)<=(s.length:Int)))=true)=>(ql 9 0 (hc0 (vS (a1 1) (show 1<7 from by decide))) V V)) (Ha_ (fun(T:(decide (((cj.getD 1 default).b.length:Int)<=(s.length:Int)))=true)=>(vA (show(0:Int)<=((cj.getD 1 default).b.length:Int) from by(try simp only[BS]at T);(first|omega|(show _<23;omega)|(dsimp only;omega))) (show((cj.getD 1 default).b.length:Int)<=(((s:List UInt8).length:Nat):Int) from by(try simp only[BS]at T);(first|omega|(show _<23;omega)|(dsimp only;omega))))) (Ha_ (fun(T:(decide (((cj.getD 1 default).b.length:Int)<=(s.length:Int)))=true)=>(Sv.ix (j:=1) (OS.sv O E (i:=0) V) e_ (show(1:Int)<(7:Int) from by decide))) (Ho_ 19 (.o (tX (cj.getD 1 default).b)) (fun(T:(decide (((cj.getD 1 default).b.length:Int)<=(s.length:Int)))=true)=>(ql 9 0 (hc0 (vS (a1 1) (show 1<7 from by decide))) V V)) Hn_))))))) V (by kernel_rfl) V fun _=>zi 1 2 (fun U=>?_) fun U=>?_
 ·try simp only[BS]at U
  first|have nn:s.take 3=[_,_,_]:=(U).2|have nn:s.take 2=[_,_]:=(U).2
  obtain⟨co,bb⟩:=Sv.view (OS.sv O E (i:=0) V);refine wrp 1 36 39 [2] [(2,(tX (cj.getD 1 default).b))] (Ha_ (Sv.ix (j:=1) (OS.sv O E (i:=0) V) e_ (show(1:Int)<(7:Int) from by decide)) (Hl_ 3 (ql 9 0 (vS (bb 1) (show 1<7 from by decide)) V V) Hn_)) (by kernel_rfl) V fun _=>ae ⟨.inr V,_,V,(cj.getD 1 default).b,_,fR,(HS.forget E),V,(by(rw[show aV s=2 by simp only[aV, *,↓reduceIte,true_or,or_true]];exact nn.symm))⟩
 try simp only[BS]at U
 first|have nn:=tk3 U|have nn:=tk2 U
 refine wU 1 [] 12 13 [4] [(4,(iI 2))] (vi (n:=(2:Int))) V fun _=>aY (ai 2 V (wT 1 [] 8 11 [] [(11,(.bool true))] V fun _=>bn 4 (v:=true) V V V V ?_))
 obtain⟨cw,a3⟩:=Sv.view (OS.sv O E (i:=0) V);refine wrDp 1 14 35 [] [(35,(.bool ((decide (((cj.getD 2 default).b.length:Int)<=(s.length:Int)))&&((s.take (cj.getD 2 default).b.length)==(cj.getD 2 default).b))))] (Ha_ (Sv.ix (j:=2) (OS.sv O E (i:=0) V) e_ (show(2:Int)<(7:Int) from by decide)) (Hl_ 5 (ql 9 0 (hc0 (vS (a3 2) (show 2<7 from by decide))) V V) (Ha_ (fun(T:(decide (((cj.getD 2 default).b.length:Int)<=(s.length:Int)))=true)=>(Sv.ix (j:=2) (OS.sv O E (i:=0) V) e_ (show(2:Int)<(7:Int) from by decide))) (Ho_ 13 (.o (tX (cj.getD 2 default).b)) (fun(T:(decide (((cj.getD 2 default).b.length:Int)<=(s.length:Int)))=true)=>(ql 9 0 (hc0 (vS (a3 2) (show 2<7 from by decide))) V V)) (Ha_ (fun(T:(decide (((cj.getD 2 default).b.length:Int)<=(s.length:Int)))=true)=>(vA (show(0:Int)<=((cj.getD 2 default).b.length:Int) from by(try simp only[BS]at T);(first|omega|(show _<23;omega)|(dsimp only;omega))) (show((cj.getD 2 default).b.length:Int)<=(((s:List UInt8).length:Nat):Int) from by(try simp only[BS]at T);(first|omega|(show _<23;omega)|(dsimp only;omega))))) (Ha_ (fun(T:(decide (((cj.getD 2 default).b.length:Int)<=(s.length:Int)))=true)=>(Sv.ix (j:=2) (OS.sv O E (i:=0) V) e_ (show(2:Int)<(7:Int) from by decide))) (Ho_ 19 (.o (tX (cj.getD 2 default).b)) (fun(T:(decide (((cj.getD 2 default).b.length:Int)<=(s.length:Int)))=true)=>(ql 9 0 (hc0 (vS (a3 2) (show 2<7 from by decide))) V V)) Hn_))))))) V (by kernel_rfl) V fun _=>zi 1 2 (fun Y=>?_) fun Y=>?_
 ·try simp only[BS]at Y
  first|have nn:s.take 3=[_,_,_]:=(Y).2|have nn:s.take 2=[_,_]:=(Y).2
  obtain⟨cL,bl⟩:=Sv.view (OS.sv O E (i:=0) V);refine wrp 1 36 39 [2] [(2,(tX (cj.getD 2 default).b))] (Ha_ (Sv.ix (j:=2) (OS.sv O E (i:=0) V) e_ (show(2:Int)<(7:Int) from by decide)) (Hl_ 3 (ql 9 0 (vS (bl 2) (show 2<7 from by decide)) V V) Hn_)) (by kernel_rfl) V fun _=>ae ⟨.inr V,_,V,(cj.getD 2 default).b,_,fR,(HS.forget E),V,(by(rw[show aV s=2 by simp only[aV, *,↓reduceIte,true_or,or_true]];exact nn.symm))⟩
 try simp only[BS]at Y
 first|have nn:=tk3 Y|have nn:=tk2 Y
 refine wU 1 [] 12 13 [4] [(4,(iI 3))] (vi (n:=(3:Int))) V fun _=>aY (ai 2 V (wT 1 [] 8 11 [] [(11,(.bool true))] V fun _=>bn 4 (v:=true) V V V V ?_))
 obtain⟨c0,a4⟩:=Sv.view (OS.sv O E (i:=0) V);refine wrDp 1 14 35 [] [(35,(.bool ((decide (((cj.getD 3 default).b.length:Int)<=(s.length:Int)))&&((s.take (cj.getD 3 default).b.length)==(cj.getD 3 default).b))))] (Ha_ (Sv.ix (j:=3) (OS.sv O E (i:=0) V) e_ (show(3:Int)<(7:Int) from by decide)) (Hl_ 5 (ql 9 0 (hc0 (vS (a4 3) (show 3<7 from by decide))) V V) (Ha_ (fun(T:(decide (((cj.getD 3 default).b.length:Int)<=(s.length:Int)))=true)=>(Sv.ix (j:=3) (OS.sv O E (i:=0) V) e_ (show(3:Int)<(7:Int) from by decide))) (Ho_ 13 (.o (tX (cj.getD 3 default).b)) (fun(T:(decide (((cj.getD 3 default).b.length:Int)<=(s.length:Int)))=true)=>(ql 9 0 (hc0 (vS (a4 3) (show 3<7 from by decide))) V V)) (Ha_ (fun(T:(decide (((cj.getD 3 default).b.length:Int)<=(s.length:Int)))=true)=>(vA (show(0:Int)<=((cj.getD 3 default).b.length:Int) from by(try simp only[BS]at T);(first|omega|(show _<23;omega)|(dsimp only;omega))) (show((cj.getD 3 default).b.length:Int)<=(((s:List UInt8).length:Nat):Int) from by(try simp only[BS]at T);(first|omega|(show _<23;omega)|(dsimp only;omega))))) (Ha_ (fun(T:(decide (((cj.getD 3 default).b.length:Int)<=(s.length:Int)))=true)=>(Sv.ix (j:=3) (OS.sv O E (i:=0) V) e_ (show(3:Int)<(7:Int) from by decide))) (Ho_ 19 (.o (tX (cj.getD 3 default).b)) (fun(T:(decide (((cj.getD 3 default).b.length:Int)<=(s.length:Int)))=true)=>(ql 9 0 (hc0 (vS (a4 3) (show 3<7 from by decide))) V V)) Hn_))))))) V (by kernel_rfl) V fun _=>zi 1 2 (fun Z=>?_) fun Z=>?_
 ·try simp only[BS]at Z
  first|have nn:s.take 3=[_,_,_]:=(Z).2|have nn:s.take 2=[_,_]:=(Z).2
  obtain⟨c3,b0⟩:=Sv.view (OS.sv O E (i:=0) V);refine wrp 1 36 39 [2] [(2,(tX (cj.getD 3 default).b))] (Ha_ (Sv.ix (j:=3) (OS.sv O E (i:=0) V) e_ (show(3:Int)<(7:Int) from by decide)) (Hl_ 3 (ql 9 0 (vS (b0 3) (show 3<7 from by decide)) V V) Hn_)) (by kernel_rfl) V fun _=>ae ⟨.inr V,_,V,(cj.getD 3 default).b,_,fR,(HS.forget E),V,(by(rw[show aV s=2 by simp only[aV, *,↓reduceIte,true_or,or_true]];exact nn.symm))⟩
 try simp only[BS]at Z
 first|have nn:=tk3 Z|have nn:=tk2 Z
 refine wU 1 [] 12 13 [4] [(4,(iI 4))] (vi (n:=(4:Int))) V fun _=>aY (ai 2 V (wT 1 [] 8 11 [] [(11,(.bool true))] V fun _=>bn 4 (v:=true) V V V V ?_))
 obtain⟨c4,a5⟩:=Sv.view (OS.sv O E (i:=0) V);refine wrDp 1 14 35 [] [(35,(.bool ((decide (((cj.getD 4 default).b.length:Int)<=(s.length:Int)))&&((s.take (cj.getD 4 default).b.length)==(cj.getD 4 default).b))))] (Ha_ (Sv.ix (j:=4) (OS.sv O E (i:=0) V) e_ (show(4:Int)<(7:Int) from by decide)) (Hl_ 5 (ql 9 0 (hc0 (vS (a5 4) (show 4<7 from by decide))) V V) (Ha_ (fun(T:(decide (((cj.getD 4 default).b.length:Int)<=(s.length:Int)))=true)=>(Sv.ix (j:=4) (OS.sv O E (i:=0) V) e_ (show(4:Int)<(7:Int) from by decide))) (Ho_ 13 (.o (tX (cj.getD 4 default).b)) (fun(T:(decide (((cj.getD 4 default).b.length:Int)<=(s.length:Int)))=true)=>(ql 9 0 (hc0 (vS (a5 4) (show 4<7 from by decide))) V V)) (Ha_ (fun(T:(decide (((cj.getD 4 default).b.length:Int)<=(s.length:Int)))=true)=>(vA (show(0:Int)<=((cj.getD 4 default).b.length:Int) from by(try simp only[BS]at T);(first|omega|(show _<23;omega)|(dsimp only;omega))) (show((cj.getD 4 default).b.length:Int)<=(((s:List UInt8).length:Nat):Int) from by(try simp only[BS]at T);(first|omega|(show _<23;omega)|(dsimp only;omega))))) (Ha_ (fun(T:(decide (((cj.getD 4 default).b.length:Int)<=(s.length:Int)))=true)=>(Sv.ix (j:=4) (OS.sv O E (i:=0) V) e_ (show(4:Int)<(7:Int) from by decide))) (Ho_ 19 (.o (tX (cj.getD 4 default).b)) (fun(T:(decide (((cj.getD 4 default).b.length:Int)<=(s.length:Int)))=true)=>(ql 9 0 (hc0 (vS (a5 4) (show 4<7 from by decide))) V V)) Hn_))))))) V (by kernel_rfl) V fun _=>zi 1 2 (fun c45=>?_) fun c45=>?_
 ·try simp only[BS]at c45
  first|have nn:s.take 3=[_,_,_]:=(c45).2|have nn:s.take 2=[_,_]:=(c45).2
  obtain⟨c5,b1⟩:=Sv.view (OS.sv O E (i:=0) V);refine wrp 1 36 39 [2] [(2,(tX (cj.getD 4 default).b))] (Ha_ (Sv.ix (j:=4) (OS.sv O E (i:=0) V) e_ (show(4:Int)<(7:Int) from by decide)) (Hl_ 3 (ql 9 0 (vS (b1 4) (show 4<7 from by decide)) V V) Hn_)) (by kernel_rfl) V fun _=>ae ⟨.inr V,_,V,(cj.getD 4 default).b,_,fR,(HS.forget E),V,(by(rw[show aV s=2 by simp only[aV, *,↓reduceIte,true_or,or_true]];exact nn.symm))⟩
 try simp only[BS]at c45
 first|have nn:=tk3 c45|have nn:=tk2 c45
 refine wU 1 [] 12 13 [4] [(4,(iI 5))] (vi (n:=(5:Int))) V fun _=>aY (ai 2 V (wT 1 [] 8 11 [] [(11,(.bool true))] V fun _=>bn 4 (v:=true) V V V V ?_))
 obtain⟨c6,a6⟩:=Sv.view (OS.sv O E (i:=0) V);refine wrDp 1 14 35 [] [(35,(.bool ((decide (((cj.getD 5 default).b.length:Int)<=(s.length:Int)))&&((s.take (cj.getD 5 default).b.length)==(cj.getD 5 default).b))))] (Ha_ (Sv.ix (j:=5) (OS.sv O E (i:=0) V) e_ (show(5:Int)<(7:Int) from by decide)) (Hl_ 5 (ql 9 0 (hc0 (vS (a6 5) (show 5<7 from by decide))) V V) (Ha_ (fun(T:(decide (((cj.getD 5 default).b.length:Int)<=(s.length:Int)))=true)=>(Sv.ix (j:=5) (OS.sv O E (i:=0) V) e_ (show(5:Int)<(7:Int) from by decide))) (Ho_ 13 (.o (tX (cj.getD 5 default).b)) (fun(T:(decide (((cj.getD 5 default).b.length:Int)<=(s.length:Int)))=true)=>(ql 9 0 (hc0 (vS (a6 5) (show 5<7 from by decide))) V V)) (Ha_ (fun(T:(decide (((cj.getD 5 default).b.length:Int)<=(s.length:Int)))=true)=>(vA (show(0:Int)<=((cj.getD 5 default).b.length:Int) from by(try simp only[BS]at T);(first|omega|(show _<23;omega)|(dsimp only;omega))) (show((cj.getD 5 default).b.length:Int)<=(((s:List UInt8).length:Nat):Int) from by(try simp only[BS]at T);(first|omega|(show _<23;omega)|(dsimp only;omega))))) (Ha_ (fun(T:(decide (((cj.getD 5 default).b.length:Int)<=(s.length:Int)))=true)=>(Sv.ix (j:=5) (OS.sv O E (i:=0) V) e_ (show(5:Int)<(7:Int) from by decide))) (Ho_ 19 (.o (tX (cj.getD 5 default).b)) (fun(T:(decide (((cj.getD 5 default).b.length:Int)<=(s.length:Int)))=true)=>(ql 9 0 (hc0 (vS (a6 5) (show 5<7 from by decide))) V V)) Hn_))))))) V (by kernel_rfl) V fun _=>zi 1 2 (fun al=>?_) fun al=>?_
 ·try simp only[BS]at al
  first|have nn:s.take 3=[_,_,_]:=(al).2|have nn:s.take 2=[_,_]:=(al).2
  obtain⟨c7,b2⟩:=Sv.view (OS.sv O E (i:=0) V);refine wrp 1 36 39 [2] [(2,(tX (cj.getD 5 default).b))] (Ha_ (Sv.ix (j:=5) (OS.sv O E (i:=0) V) e_ (show(5:Int)<(7:Int) from by decide)) (Hl_ 3 (ql 9 0 (vS (b2 5) (show 5<7 from by decide)) V V) Hn_)) (by kernel_rfl) V fun _=>ae ⟨.inr V,_,V,(cj.getD 5 default).b,_,fR,(HS.forget E),V,(by(rw[show aV s=2 by simp only[aV, *,↓reduceIte,true_or,or_true]];exact nn.symm))⟩
 try simp only[BS]at al
 first|have nn:=tk3 al|have nn:=tk2 al
 refine wU 1 [] 12 13 [4] [(4,(iI 6))] (vi (n:=(6:Int))) V fun _=>aY (ai 2 V (wT 1 [] 8 11 [] [(11,(.bool true))] V fun _=>bn 4 (v:=true) V V V V ?_))
 obtain⟨c8,a7⟩:=Sv.view (OS.sv O E (i:=0) V);refine wrDp 1 14 35 [] [(35,(.bool ((decide (((cj.getD 6 default).b.length:Int)<=(s.length:Int)))&&((s.take (cj.getD 6 default).b.length)==(cj.getD 6 default).b))))] (Ha_ (Sv.ix (j:=6) (OS.sv O E (i:=0) V) e_ (show(6:Int)<(7:Int) from by decide)) (Hl_ 5 (ql 9 0 (hc0 (vS (a7 6) (show 6<7 from by decide))) V V) (Ha_ (fun(T:(decide (((cj.getD 6 default).b.length:Int)<=(s.length:Int)))=true)=>(Sv.ix (j:=6) (OS.sv O E (i:=0) V) e_ (show(6:Int)<(7:Int) from by decide))) (Ho_ 13 (.o (tX (cj.getD 6 default).b)) (fun(T:(decide (((cj.getD 6 default).b.length:Int)<=(s.length:Int)))=true)=>(ql 9 0 (hc0 (vS (a7 6) (show 6<7 from by decide))) V V)) (Ha_ (fun(T:(decide (((cj.getD 6 default).b.length:Int)<=(s.length:Int)))=true)=>(vA (show(0:Int)<=((cj.getD 6 default).b.length:Int) from by(try simp only[BS]at T);(first|omega|(show _<23;omega)|(dsimp only;omega))) (show((cj.getD 6 default).b.length:Int)<=(((s:List UInt8).length:Nat):Int) from by(try simp only[BS]at T);(first|omega|(show _<23;omega)|(dsimp only;omega))))) (Ha_ (fun(T:(decide (((cj.getD 6 default).b.length:Int)<=(s.length:Int)))=true)=>(Sv.ix (j:=6) (OS.sv O E (i:=0) V) e_ (show(6:Int)<(7:Int) from by decide))) (Ho_ 19 (.o (tX (cj.getD 6 default).b)) (fun(T:(decide (((cj.getD 6 default).b.length:Int)<=(s.length:Int)))=true)=>(ql 9 0 (hc0 (vS (a7 6) (show 6<7 from by decide))) V V)) Hn_))))))) V (by kernel_rfl) V fun _=>zi 1 2 (fun an=>?_) fun an=>?_
 ·try simp only[BS]at an
  first|have nn:s.take 3=[_,_,_]:=(an).2|have nn:s.take 2=[_,_]:=(an).2
  obtain⟨dd,b3⟩:=Sv.view (OS.sv O E (i:=0) V);refine wrp 1 36 39 [2] [(2,(tX (cj.getD 6 default).b))] (Ha_ (Sv.ix (j:=6) (OS.sv O E (i:=0) V) e_ (show(6:Int)<(7:Int) from by decide)) (Hl_ 3 (ql 9 0 (vS (b3 6) (show 6<7 from by decide)) V V) Hn_)) (by kernel_rfl) V fun _=>ae ⟨.inr V,_,V,(cj.getD 6 default).b,_,fR,(HS.forget E),V,(by(rw[show aV s=2 by simp only[aV, *,↓reduceIte,true_or,or_true]];exact nn.symm))⟩
 try simp only[BS]at an
 first|have nn:=tk3 an|have nn:=tk2 an
 refine wU 1 [] 12 13 [4] [(4,(iI 7))] (vi (n:=(7:Int))) V fun _=>aY (ai 2 V (wT 1 [] 8 11 [] [(11,(.bool false))] V fun _=>gK 5 (v:=false) V V V V (wT 3 [] 1 0 [5] [(5,(tX [43,45,42,47,37,38,124,94,126,33,60,62,61,63,58,59,44,40,41,123,125,91,93]))] V fun _=>?_)))
 refine wT 2 [] 1 0 [6] [(6,(iI 0))] V fun _=>aq (fun(mm:Nat) f H'=> ∃(i:Nat),H'=H3/\aJ f [(0,(tX s)),(5,(tX [43,45,42,47,37,38,124,94,126,33,60,62,61,63,58,59,44,40,41,123,125,91,93])),(6,(iI (i:Int)))]/\mm=23-i/\(i<=23)/\(∀j,j<i->s.getD 0 0≠eC.getD j 0)) _ ⟨0,V,⟨V,V,V,trivial⟩,V,M,(by intro j hj;omega)⟩ ?_
 rintro dk dt H3 ⟨i,rfl,a8,rfl,h1,h2⟩ b4;refine az _ a8 (fun _=>?_);clear a8;refine ai 2 V (wT 1 [] 40 43 [] [(43,(.bool (decide ((i:Int)<23))))] V fun _=>zd 4 5 (fun b6=>?_) fun b6=>?_)
 ·have b8:=dD (s.getD 0 0);have b9:=dD (zPI2.getD i 0);refine wRD 1 [] 46 51 [] [(51,(.bool (((s.getD 0 0).toNat:Int)==((zPI2.getD i 0).toNat:Int))))] (vA (vA (show(0:Int)<=0 from by omega) (show(0:Int)<(((s:List UInt8).length:Nat):Int) from by omega)) (vA (vA (show(0:Int)<=(i:Int) from by omega) (show(i:Int)<((zPI2.length:Nat):Int) from by omega)) trivial)) V V fun _=>zi 1 2 (fun ax=>?_) fun ax=>?_
  ·try simp only[BS]at ax
   have ci:=ax;refine wU 1 [] 52 53 [2] [(2,(tX (s.take 1)))] (vA (show(0:Int)<=1 from by omega) (show(1:Int)<=(((s:List UInt8).length:Nat):Int) from by omega)) V fun _=>ae ⟨.inr V,_,V,s.take 1,_,fR,(HS.forget E),V,(by have ms:=sing_mem M ci;simp only[aV, *,↓reduceIte,or_self])⟩
  try simp only[BS]at ax
  have ci:=ax;refine wU 1 [] 44 45 [6] [(6,(iI ((i:Int)+1)))] (vi (n:=(i:Int)+1)) V fun _=>?_
  refine b4 _ _ _ ?_ ⟨i+1,V,⟨V,V,V,trivial⟩,V,M,(fun j hj=>sing_ne ci h2 hj)⟩;omega
 refine wT 1 [] 2 2 [] [(2,(tX []))] V fun _=>ae ⟨.inr V,_,V,[],_,fR,(HS.forget E),V,(by have ms:=sing_no (fun j hj=>h2 j M);simp only[aV, *,↓reduceIte,or_self,List.take_zero])⟩
set_option maxHeartbeats 800000 in
theorem rscan_c(s:List UInt8)(hs:HS (.of H []) F H [] R)(hl:s.length<4611686018427387904):kKt ex 21 [(tX s)] H fun v H'=> ∃(al:Option Addr) (kl:Nat) (l:List Token) (p:Fp) (e:ErrT) (F':Fz),Fz.le F F'/\HS (.of H []) F' H' [p] R/\v= .tuple ⟨[sL al l.length kl,.agg ⟨[iI e.why,iI e.at_]⟩]⟩/\OS F' (sL al l.length kl) l p/\in64 e.why/\in64 e.at_/\l=(aL s).1/\e=ErrT.mk (aL s).2.1 (aL s).2.2:=by
 refine av Tryz.func21 V V (ai 1 V (ab (za (sL _ 0 0) (zn hs V fun b1 H2 em=>ah 3 V ?_))));refine wr 1 [] 11 13 [] [(13,(.bool (decide ((20000:Int)<(s.length:Int)))))] trivial V V fun _=>zd 1 2 (fun c4=>?_) fun c4=>?_
 ·refine sgr 1 2 2 [14] [(2,(sL _ 0 0))] (Hr_ 2 0 Hn_) em V V fun h0 H5 et=>ae ⟨.inr V,_,(rT V (rC V (bS V V (h_ et V) V) rN)),_,0,_,[],(⟨6,20000⟩:ErrT),_,fR,(HS.cons (HS.forget et)),V,(OS.nil:OS _ _ _ []),M,M,(by(rw[aL,if_pos M];done)),(by(rw[aL,if_pos M];done))⟩
 refine wr 3 [] 1 0 [4] [(4,(sL _ 0 0))] trivial V V fun _=>wr 2 [] 1 0 [5] [(5,(.int _ 0))] trivial V V fun _=>?_
 have f4:=HS.snoc em;refine aq (fun(mm:Nat) f H'=> ∃(i:Nat) (l:List Token) (A:Nat) (fu:Nat) (Z:Option Addr) (an:Nat) (a6:Fp) (F':Fz),Fz.le F F'/\HS _ F' H' [[(b1,.cells [_,_] _ _)],a6] R/\OS F' (sL Z l.length an) l a6/\aJ f [(0,(tX s)),(3,(pT b1 0)),(4,(sL Z l.length an)),(5,(.int _ (i:Int)))]/\mm=s.length-i/\(i<=s.length)/\(i+spl false (s.drop i)=A)/\(A<=s.length)/\(s.length-A<fu)/\(preT l (dX fu s A)=aL s)/\(l.length<=i)) _ ⟨0,_,_,s.length+1,_,0,[],_,fR,f4,(OS.nil:OS _ _ _ []),⟨V,V,V,V,trivial⟩,V,M,(by simp),(j0 s false),M,(by rw[aL,if_neg M];(first|done|exact pre_nil _)),(a0l _)⟩ ?_;rintro h7 f8 H8 ⟨i,l,A,fu,Z,an,a6,F8,O,b7,E,d3,rfl,h1,ha,hA,hf,h2,h3⟩ b2;refine az _ d3 (fun _=>?_);clear d3;refine ai 2 V (wr 1 [] 15 18 [] [(18,(.bool (decide ((i:Int)<(s.length:Int)))))] trivial V V fun _=>zd 3 5 (fun d2=>?_) fun d2=>?_)
 ·have l3:=d2;have f9:=dD (s.getD i 0);refine wr 3 [] 19 21 [6] [(6,(.int .u8 ((s.getD i 0).toNat:Int)))] (vA (vA (show(0:Int)<=(i:Int) from by omega) (show(i:Int)<(((s:List UInt8).length:Nat):Int) from by omega)) trivial) V V fun _=>wr 1 [] 22 35 [] [(35,(.bool ((((((s.getD i 0).toNat:Int)==32)||(((s.getD i 0).toNat:Int)==9))||(((s.getD i 0).toNat:Int)==10))||(((s.getD i 0).toNat:Int)==13))))] trivial V V fun _=>zi 1 3 (fun a7=>?_) fun a7=>?_
  ·try simp only[BS]at a7
   have cb:=a7;refine wr 4 [] 36 37 [5] [(5,(.int _ _))] (vA (vi) trivial) V V fun _=>?_
   refine b2 _ _ _ ?_ ⟨i+1,l,A,fu,_,_,_,_,(O),b7,E,⟨V,V,V,V,trivial⟩,V,M,(spA' M (by rcases cb with((h|h)|h)|h;exact .inl (u8i (k:=32) M h);exact .inr (.inl (u8i (k:=9) M h));exact .inr (.inr (.inl (u8i (k:=10) M h)));exact .inr (.inr (.inr (u8i (k:=13) M h)))) ha),M,M,M,M⟩;omega
  try simp only[BS]at a7
  have cb:=a7;refine wr 1 [] 38 39 [] [(39,(.bool (((s.getD i 0).toNat:Int)==35)))] trivial V V fun _=>zi 2 2 (fun b6=>?_) fun b6=>?_
  ·try simp only[BS]at b6
   have a2:=b6;refine aq (fun(mm:Nat) f H'=> ∃(m:Nat),H'=H8/\aJ f [(0,(tX s)),(3,(pT b1 0)),(4,(sL _ _ _)),(5,(.int _ (m:Int)))]/\mm=s.length-m/\(i<=m/\m<=s.length)/\(m+spl _ (s.drop m)=A)) _ ⟨i,V,⟨V,V,V,V,trivial⟩,V,M,(spH' M (u8i (k:=35) M M) ha)⟩ ?_;rintro hp hW H8 ⟨m,rfl,b8,rfl,T,g2⟩ fd;refine az _ b8 (fun _=>?_);clear b8;refine ai 2 V ?_;have go:=dD (s.getD m 0);refine wr 1 [] 40 49 [] [(49,(.bool ((decide ((m:Int)<(s.length:Int)))&&(((s.getD m 0).toNat:Int) !=10))))] (vA (fun(T:_)=>(vA (show(0:Int)<=(m:Int) from by(try simp only[BS]at T);(first|omega|(dsimp only;omega)|(rw[a0a];omega))) (show(m:Int)<(((s:List UInt8).length:Nat):Int) from by(try simp only[BS]at T);(first|omega|(dsimp only;omega)|(rw[a0a];omega))))) trivial) V V fun _=>zi 2 7 (fun a8=>?_) fun a8=>?_
   ·try simp only[BS]at a8
    have cm:=a8;refine wr 2 [] 50 51 [5] [(5,(.int _ _))] (vA (vi) trivial) V V fun _=>?_
    refine fd _ _ _ ?_ ⟨m+1,V,⟨V,V,V,V,trivial⟩,V,M,(spT' M (fun h=>by have:=u8e 10 h;omega) g2)⟩;omega
   try simp only[BS]at a8
   have cm:=a8;have gm:i<m:=by
    rcases a0c i m with h|h
    ·exact h
    exfalso;have e:m=i:=M
    subst e;omega
   refine b2 _ _ _ ?_ ⟨m,l,A,fu,_,_,_,_,(O),b7,E,⟨V,V,V,V,trivial⟩,V,M,(spN' (fun h=>u8i (k:=10) M (by have:=cm;omega)) g2),M,M,M,M⟩;omega
  try simp only[BS]at b6
  have ar:i=A:=spX' M (by rintro(h|h|h|h)<;>(first|(have:=u8e 32 h;omega)|(have:=u8e 9 h;omega)|(have:=u8e 10 h;omega)|(have:=u8e 13 h;omega))) (fun h=>by have:=u8e 35 h;omega) ha;refine ab (dA 2 0 52 53 [] [(53,(aG [_,_,_]))] Hn_ V V fun _=>zn b7 V fun f2 hu e8=>sgo 1 3 1 0 [] [] (Hr_ 3 2 Hn_) e8 V V fun g6 a0 b4=>ah 3 V (wr 1 [(1,.o (.bool (bT (s.getD i 0)))),(4,.o (.bool (bo (s.getD i 0))))] 54 59 [] [(59,(.bool (bT (s.getD i 0)||bo (s.getD i 0))))] (vA (lA ex _ a0) (vA (fun(T:_)=>(jK ex _ a0)) trivial)) V V fun _=>?_));refine zi 1 0 (fun a1=>?_) fun a1=>?_
  ·try simp only[BS]at a1
   have cw:aR (s.getD i 0)=true:=by unfold aR;rw[a0C];exact a1
   refine wr 3 [] 60 60 [8] [(8,(.int _ _))] trivial V V fun _=>aq (fun(mm:Nat) f H'=> ∃(k:Nat),H'=a0/\aJ f [(0,(tX s)),(3,(pT b1 0)),(4,(sL _ _ _)),(5,(.int _ _)),(6,(.int .u8 _)),(7,(pT f2 0)),(8,(.int _ (k:Int)))]/\mm=s.length-k/\(i<=k/\k<=s.length)/\(((s.drop i).take (k-i)).all aR=true)) _ ⟨i,V,⟨V,V,V,V,V,V,V,trivial⟩,V,M,(by rw[a1U];rfl)⟩ ?_
   rintro hq hX a0 ⟨k,rfl,b9,rfl,T,g2⟩ fi;refine az _ b9 (fun _=>?_);clear b9;refine ai 2 V ?_;have g3:=dD (s.getD k 0);have g4:=dD (s.getD k 0);refine wr 1 [(8,.o (.bool (bT (s.getD k 0)))),(13,.o (.bool (bo (s.getD k 0))))] 61 76 [] [(76,(.bool ((decide ((k:Int)<(s.length:Int)))&&(bT (s.getD k 0)||bo (s.getD k 0)))))] (vA (fun(T:_)=>(vA (show(0:Int)<=(k:Int) from by(try simp only[BS]at T);(first|omega|(dsimp only;omega)|(rw[a0a];omega))) (show(k:Int)<(((s:List UInt8).length:Nat):Int) from by(try simp only[BS]at T);(first|omega|(dsimp only;omega)|(rw[a0a];omega))))) (vA (fun(T:_)=>(lA ex _ a0)) (vA (fun(T:_) (g2:_)=>(vA (show(0:Int)<=(k:Int) from by(try simp only[BS]at T g2);(first|omega|(dsimp only;omega)|(rw[a0a];omega))) (show(k:Int)<(((s:List UInt8).length:Nat):Int) from by(try simp only[BS]at T g2);(first|omega|(dsimp only;omega)|(rw[a0a];omega))))) (vA (fun(T:_) (g2:_)=>(jK ex _ a0)) trivial)))) V V fun _=>zi 2 5 (fun a2=>?_) fun a2=>?_
   ·try simp only[BS]at a2
    have ck:=a2;refine wr 2 [] 77 78 [8] [(8,(.int _ _))] (vA (vi) trivial) V V fun _=>?_
    refine fi _ _ _ ?_ ⟨k+1,V,⟨V,V,V,V,V,V,V,trivial⟩,V,M,(wl_step T.1 M g2 (by unfold aR;rw[a0C];exact ck.2))⟩;omega
   try simp only[BS]at a2
   have a4:=wl_at T g2 (fun h=>by have:=a2 M;unfold aR;rw[this.1,this.2];rfl);have b0:k-i≠0:=fun e=>by have:=i0.1 (a4.trans e);rw[gd,cw]at this;cases this
   have cv:(s.drop i).take (k-i)≠ []:=tk_ne a4 b0;refine sgr 2 79 83 [] [] (Ha_ (vA (show(0:Int)<=(i:Int) from by omega) (vA (show(i:Int)<=(k:Int) from by omega) (show(k:Int)<=(((s:List UInt8).length:Nat):Int) from by omega))) (Hr_ 5 2 Hn_)) b4 V V fun g7 hv fb=>sgr 2 84 84 [] [] (Hr_ 1 2 Hn_) fb V V fun g8 fk U=>wr 1 [(1,.o (.bool (bo (s.getD i 0))))] 85 86 [] [(86,(.bool (bo (s.getD i 0))))] (vA (jK ex _ fk) trivial) V V fun _=>zi 1 1 (fun a9=>?_) fun a9=>?_
   ·try simp only[BS]at a9
    have cd:bo (s.getD i 0)=true:=a9;refine sgr 2 87 87 [] [] (Hr_ 1 2 Hn_) U V V fun g9 fl Y=>cP 2 88 93 [9,10] [(10,(.bool (dF _ _).isSome))] (Hr_ 1 2 (Hc_ 2 (w3.my ex ((s.drop i).take (k-i)) 9223372036854775808 fl e_) Hn_)) Y V V fun _=>wr 1 [] 94 95 [] [(95,(.bool (!(dF _ _).isSome)))] trivial V V fun _=>zi 1 3 (fun ba=>?_) fun ba=>?_
    ·try simp only[BS]at ba
     have hk:=fk_bad a4 b0 cd ba;refine sgr 1 96 97 [2] [(2,(sL _ 0 0))] (Hr_ 3 0 Hn_) Y V V fun he hw ch=>ae ⟨.inr V,_,(rT V (rC V (bS V V (h_ ch V) V) rN)),_,0,_,[],(⟨2,(i:Int)⟩:ErrT),_,(O),(HS.cons (HS.forget ch)),V,(OS.nil:OS _ _ _ []),M,M,(by(rw[jD M ar hk e_ hf h2];done)),(by(rw[jD M ar hk e_ hf h2];done))⟩
    try simp only[BS]at ba
    have hk:=fk_num a4 b0 cd ba;refine cP 1 109 111 [] [(111,(.bool (((s.drop i).take (k-i))==([]:List UInt8))))] (Hr_ 1 2 Hn_) Y V V fun _=>zi 1 2 (fun bb=>?_) fun bb=>?_
    ·try simp only[BS]at bb
     have df:=bb;refine sgr 1 112 113 [2] [(2,(sL _ 0 0))] (Hr_ 3 0 Hn_) Y V V fun hg hx ci=>ae ⟨.inr V,_,(rT V (rC V (bS V V (h_ ci V) V) rN)),_,0,([]:List Token),[],(⟨2,(i:Int)⟩:ErrT),_,(O),(HS.cons (HS.forget ci)),V,(OS.nil:OS _ _ _ []),M,M,(absurd df cv),(absurd df cv)⟩
    try simp only[BS]at bb
    have ht:=(a1q.2 bb)
    have i9:((s.drop i).take (k-i)).length<=s.length-i:=by rw[a0d,a0a];omega
    refine ab (fQ 2 0 114 115 [] [(114,(sL _ _ _)),(115,(aG [_,(tX ((s.drop i).take (k-i))),_]))] (Hr_ 1 2 Hn_) Y V V fun _=>zlo ([(⟨2,_,(i:Int)⟩:Token)]:List Token) Y V (RL.cs ⟨V,by(dsimp only;omega),by(dsimp only;omega)⟩ RL.nl) V fun hS h4 h8 hy e2 co=>zao 1 E co (OS.sv e2 co (i:=3) V) V V V M fun dn ez f5 hz e3 cL=>za (sL dn _ ez) (ah 1 V ?_));refine cP 2 118 122 [5] [(5,(.int _ ((i:Int)+(((s.drop i).take (k-i)).length:Int))))] (Hr_ 2 2 (Ha_ (vi (n:=(i:Int)+(((s.drop i).take (k-i)).length:Int))) Hn_)) cL V V fun _=>?_
    refine b2 _ _ _ ?_ ⟨_,_,_,_,dn,ez,f5,_,(O),(HS.sub cL (a05 _ _)),e3,⟨V,V,V,V,trivial⟩,V,M,k_,(by(refine spl_at ?_;omega)),(by(refine a1u (a1T (a1y _ _) _) ?_;omega)),(m6 M ar hk hf h2),(by(rw[a00,List.length_singleton];omega))⟩;omega
   try simp only[BS]at a9
   have cd:bo (s.getD i 0)=false:=a9;refine wr 1 [] 98 101 [] [(101,(.bool (decide ((16:Int)<(k:Int)-(i:Int)))))] (vA (vi) trivial) V V fun _=>zd 1 3 (fun f3=>?_) fun f3=>?_
   ·have hk:=fk_long a4 b0 cd M;refine sgr 1 102 103 [2] [(2,(sL _ 0 0))] (Hr_ 3 0 Hn_) U V V fun hh hB c0=>ae ⟨.inr V,_,(rT V (rC V (bS V V (h_ c0 V) V) rN)),_,0,_,[],(⟨6,(i:Int)⟩:ErrT),_,(O),(HS.cons (HS.forget c0)),V,(OS.nil:OS _ _ _ []),M,M,(by(rw[jD M ar hk e_ hf h2];done)),(by(rw[jD M ar hk e_ hf h2];done))⟩
   have hk:=fk_name a4 b0 cd M;refine cP 1 109 111 [] [(111,(.bool (((s.drop i).take (k-i))==([]:List UInt8))))] (Hr_ 1 2 Hn_) U V V fun _=>zi 1 2 (fun bl=>?_) fun bl=>?_
   ·try simp only[BS]at bl
    have df:=bl;refine sgr 1 112 113 [2] [(2,(sL _ 0 0))] (Hr_ 3 0 Hn_) U V V fun hj hD c3=>ae ⟨.inr V,_,(rT V (rC V (bS V V (h_ c3 V) V) rN)),_,0,([]:List Token),[],(⟨2,(i:Int)⟩:ErrT),_,(O),(HS.cons (HS.forget c3)),V,(OS.nil:OS _ _ _ []),M,M,(absurd df cv),(absurd df cv)⟩
   try simp only[BS]at bl
   have ht:=(a1q.2 bl)
   have i9:((s.drop i).take (k-i)).length<=s.length-i:=by rw[a0d,a0a];omega
   refine ab (fQ 2 0 114 115 [] [(114,(sL _ _ _)),(115,(aG [_,(tX ((s.drop i).take (k-i))),_]))] (Hr_ 1 2 Hn_) U V V fun _=>zlo ([(⟨1,_,(i:Int)⟩:Token)]:List Token) U V (RL.cs ⟨V,by(dsimp only;omega),by(dsimp only;omega)⟩ RL.nl) V fun hT h5 h9 hE e4 c5=>zao 1 E c5 (OS.sv e4 c5 (i:=3) V) V V V M fun dt e0 f6 hF e5 c6=>za (sL dt _ e0) (ah 1 V ?_));refine cP 2 118 122 [5] [(5,(.int _ ((i:Int)+(((s.drop i).take (k-i)).length:Int))))] (Hr_ 2 2 (Ha_ (vi (n:=(i:Int)+(((s.drop i).take (k-i)).length:Int))) Hn_)) c6 V V fun _=>?_
   refine b2 _ _ _ ?_ ⟨_,_,_,_,dt,e0,f6,_,(O),(HS.sub c6 (a05 _ _)),e5,⟨V,V,V,V,trivial⟩,V,M,k_,(by(refine spl_at ?_;omega)),(by(refine a1u (a1T (a1y _ _) _) ?_;omega)),(m6 M ar hk hf h2),(by(rw[a00,List.length_singleton];omega))⟩;omega
  try simp only[BS]at a1
  have cw:aR (s.getD i 0)=false:=by unfold aR;rw[(a1).1,(a1).2];rfl
  refine ab (dA 3 0 104 106 [] [(106,(tX (s.drop i)))] (Ha_ (vA (show(0:Int)<=(i:Int) from by omega) (show(i:Int)<=(((s:List UInt8).length:Nat):Int) from by omega)) Hn_) (by kernel_rfl) V fun _=>zc (rsymbol_c ex (s.drop i) (HS.call b4) (by(rw[a0a];omega)) (by(rw[a0a];omega))) ?_);rintro _ hG ⟨ik,hr,b3,b5,rfl,rfl⟩;replace b5:=HS.back b4 V b5;replace E:=E.mono b3;refine sgo 2 4 108 108 [] [] (Hr_ 5 2 Hn_) b5 V V fun hm hH a5=>ah 3 V (cP 1 109 111 [] [(111,(.bool (((s.drop i).take (aV (s.drop i)))==([]:List UInt8))))] (Hr_ 1 2 Hn_) a5 V V fun _=>zi 1 2 (fun a3=>?_) fun a3=>?_)
  ·try simp only[BS]at a3
   have hk:=fk_none cw a3;refine sgr 1 112 113 [2] [(2,(sL none 0 0))] (Hr_ 3 0 Hn_) a5 V V fun hn hI c7=>ae ⟨.inr V,_,(rT V (rC V (bS V V (h_ c7 V) V) rN)),none,0,([]:List Token),[],(⟨2,(i:Int)⟩:ErrT),_,(fT (O) b3),(HS.cons (HS.forget c7)),V,(OS.nil:OS _ _ _ []),M,M,(by(rw[jD M ar hk e_ hf h2];done)),(by(rw[jD M ar hk e_ hf h2];done))⟩
  try simp only[BS]at a3
  have hk:=fk_sym cw a3;have ht:=(a1q.2 a3)
  have i9:((s.drop i).take (aV (s.drop i))).length<=s.length-i:=by rw[a0d,a0a];omega
  refine ab (fQ 2 0 114 115 [] [(114,(sL Z l.length an)),(115,(aG [(iI 3),(tX ((s.drop i).take (aV (s.drop i)))),(iI (i:Int))]))] (Hr_ 1 2 Hn_) a5 V V fun _=>zlo ([(⟨3,⟨(s.drop i).take (aV (s.drop i))⟩,(i:Int)⟩:Token)]:List Token) a5 V (RL.cs ⟨V,by(dsimp only;omega),by(dsimp only;omega)⟩ RL.nl) V fun hV h6 ib hJ e6 c8=>zao 1 E c8 (OS.sv e6 c8 (i:=3) V) V V V M fun d1 e1 f7 hK e7 c9=>za (sL d1 (l++([(⟨3,⟨(s.drop i).take (aV (s.drop i))⟩,(i:Int)⟩:Token)]:List Token)).length e1) (ah 1 V ?_));refine cP 2 118 122 [5] [(5,(iI ((i:Int)+(((s.drop i).take (aV (s.drop i))).length:Int))))] (Hr_ 2 2 (Ha_ (vi (n:=(i:Int)+(((s.drop i).take (aV (s.drop i))).length:Int))) Hn_)) c9 V V fun _=>?_
  refine b2 _ _ _ ?_ ⟨i+((s.drop i).take (aV (s.drop i))).length,l++([(⟨3,⟨(s.drop i).take (aV (s.drop i))⟩,(i:Int)⟩:Token)]:List Token),i+((s.drop i).take (aV (s.drop i))).length+spl false (s.drop (i+((s.drop i).take (aV (s.drop i))).length)),fu-1,d1,e1,f7,_,(fT (O) b3),(HS.sub c9 (a05 _ _)),e7,⟨V,V,V,V,trivial⟩,V,M,k_,(by(refine spl_at ?_;omega)),(by(refine a1u (a1T (a1y _ _) _) ?_;omega)),(m6 M ar hk hf h2),(by(rw[a00,List.length_singleton];omega))⟩;omega
 have l3:=spE' M ha;refine sgr 1 123 124 [2] [(2,(sL _ _ _))] (Hr_ 3 0 Hn_) b7 V V fun ho hQ dd=>ae ⟨.inr V,_,(rT V (rC V (bS V V (h_ dd V) V) rN)),_,_,l,_,(⟨0,0⟩:ErrT),_,(O),(HS.only dd (i:=1) V),V,E,M,M,(by(rw[kO M h2];done)),(by(rw[kO M h2];done))⟩
end Go.Proofs.YtapgbjedgcpffaaGreat.pi_
