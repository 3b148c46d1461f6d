/-
  Contracts of the verifier's 'Facts', 'Effects', 'Tasks', and of 'Same'.
-/
import Derived.Test.YtmapkjoefdgjfaaGreatDoorMW16E
set_option linter.unusedSimpArgs false
set_option linter.unusedVariables false
set_option maxRecDepth 8000
set_option maxHeartbeats 16000000
open List Nat
namespace Go.Proofs.YtmapkjoefdgjfaaGreatDoor
open Go.Sl Go
variable {w0:World}
attribute [local irreducible] vc opsW opsD opV opW PureV ReadV Thn Blk
theorem J2 {f g:Value}{A B:List bp}(j:RS aq w0 f A)(k:RS aq w0 g B) :
  Calls ai 51 #[f,g] w0 fun e w'=>(∃ r,e=.returned (.bool r)/\(r=true↔A=B))/\Z w0 w' []:=by
 have l:=j.bU;have n:=k.bU;have Y:=Z.start w0;refine bA an Tryz.func51 ?_;refine aB ?_ ?_<;>intro h1
 ·refine O ?_
  exact bf (v:=.bool false) rfl rfl ⟨⟨false,rfl,cL fun e=>by rw[e]at h1;omega⟩,Y.aY⟩
 refine O ?_;refine cP [4,5,13,25] (G:=Nat) (fun i=>[(13,E i)]) (fun i w=>i<=A.length/\(∀ m,m<i->A.getD m aq.dflt=B.getD m aq.dflt)/\Z w0 w []) (fun i=>A.length-i) 0 (fun _=>rfl) ⟨rfl,az⟩ ⟨bu _,fun i h=>absurd h (dr _),Y.aY⟩ ?_;clear Y;rintro t i w ⟨h,a,Y⟩;refine aB ?_ ?_<;>intro u
 ·have o:i<A.length:=U
  refine fm ?_;intro w Y;refine eY rfl (J3 (us:=[(A.getD i aq.dflt).var,(A.getD i aq.dflt).val]) (zs:=[(B.getD i aq.dflt).var,(B.getD i aq.dflt).val]) rfl rfl rfl rfl) ?_;by_cases b:A.getD i aq.dflt=B.getD i aq.dflt
  ·have c:decide ([(A.getD i aq.dflt).var,(A.getD i aq.dflt).val]=[(B.getD i aq.dflt).var,(B.getD i aq.dflt).val])=true:=dy (by rw[b])
   refine oC ?_;simp only[c,nH];refine O ?_;refine⟨i+1,⟨rfl,az⟩,aU,⟨U,fun m hm=>?_,Y.aY⟩,U⟩;by_cases e:m=i
   ·subst e;exact b
   exact a m U
  have c:decide ([(A.getD i aq.dflt).var,(A.getD i aq.dflt).val]=[(B.getD i aq.dflt).var,(B.getD i aq.dflt).val])=false:=dU fun e=>b (by
   injection e with q d
   injection d with d _
   exact Pc q d)
  refine oC ?_;simp only[c,q6];refine O ?_;exact bf (v:=.bool false) rfl rfl ⟨⟨false,rfl,cL fun e=>b (by rw[e])⟩,Y.aY⟩
 have b:i=A.length:=U;subst b;refine O ?_;exact bf (v:=.bool true) rfl rfl ⟨⟨true,rfl,im (Bl U a)⟩,Y.aY⟩
theorem Xa {x y:Value}{b c:List jQ}{A B:List kP}(l:j8 w0 x b A)(n:j8 w0 y c B) :
  Calls ai 52 #[x,y] w0 fun e w'=>(∃ r,e=.returned (.bool r)/\(r=true↔A=B))/\Z w0 w' []:=by
 have o:=l.rs;have q:=n.rs;have t:=l.len;have L:=n.len;have N:=o.bU;have P:=q.bU;have Y:=Z.start w0;refine bA an Tryz.func52 ?_;refine aB ?_ ?_<;>intro h1
 ·refine O ?_
  exact bf (v:=.bool false) rfl rfl ⟨⟨false,rfl,cL fun e=>by rw[e]at t;omega⟩,Y.aY⟩
 refine O ?_;refine cP [4,5,13,54] (G:=Nat) (fun i=>[(13,E i)]) (fun i w=>i<=A.length/\(∀ m,m<i->A.getD m bE=B.getD m bE)/\Z w0 w []) (fun i=>A.length-i) 0 (fun _=>rfl) ⟨rfl,az⟩ ⟨bu _,fun i z=>absurd z (dr _),Y.aY⟩ ?_;clear Y;rintro Q i w ⟨z,h,Y⟩;refine aB ?_ ?_<;>intro R
 ·have u:i<A.length:=U
  have d:=l.dJ i u;have f:=n.dJ i U;have C:=d.var;have D:=f.var;have F:=d.val;have H:=f.val;by_cases j:(au aV b i).var=(au aV c i).var;rotate_left
  ·have a:decide ((au aV b i).var=(au aV c i).var)=false:=dU j
   refine O ?_;refine fz (pl [0,1,2,3,4,5,6,7,8,9,10,11,12,13,14,15,16,17,18,19,20,21,22,23,24,25,26,27,28,29,30,31,32,33,34,35,36,37] []) Y kr ?_;clear Y;intro w Y;refine O ?_
   try simp only[a];refine dI ?_
   refine O ?_;exact bf (v:=.bool false) rfl rfl ⟨⟨false,rfl,cL fun e=>j (by rw[C,D,e])⟩,Y.aY⟩
  have a:decide ((au aV b i).var=(au aV c i).var)=true:=dy j;by_cases k:(au aV b i).val=(au aV c i).val;rotate_left
  ·have g:decide ((au aV b i).val=(au aV c i).val)=false:=dU k
   refine O ?_;refine fz (pl [0,1,2,3,4,5,6,7,8,9,10,11,12,13,14,15,16,17,18,19,20,21,22,23,24,25,26,27,28,29,30,31,32,33,34,35,36,37] []) Y kr ?_;clear Y;intro w Y;refine O ?_
   try simp only[a,g];refine dI ?_
   refine O ?_;exact bf (v:=.bool false) rfl rfl ⟨⟨false,rfl,cL fun e=>k (by rw[F,H,e])⟩,Y.aY⟩
  have g:decide ((au aV b i).val=(au aV c i).val)=true:=dy k;refine O ?_;refine fz (pl [0,1,2,3,4,5,6,7,8,9,10,11,12,13,14,15,16,17,18,19,20,21,22,23,24,25,26,27,28,29,30,31,32,33,34,35,36,37] []) Y kr ?_;clear Y;intro w Y;refine O ?_
  try simp only[a,g];refine dI ?_
  refine O ?_;refine aL rfl (J2 (d.bO.at Y) (f.bO.at Y)) ?_;rintro _ w' ⟨⟨r,rfl,K⟩,al⟩;refine aA ?_;clear al Y;intro Y;cases r
  ·refine O ?_
   exact bf (v:=.bool false) rfl rfl ⟨⟨false,rfl,cL fun e=>by cases K.2 (by rw[e])⟩,Y.aY⟩
  refine O ?_;refine⟨i+1,⟨rfl,az⟩,aU,⟨U,fun m hm=>?_,Y.aY⟩,U⟩;by_cases e:m=i
  ·subst e;exact Pd (by rw[<-C,<-D,j]) (by rw[<-F,<-H,k]) (K.1 rfl)
  exact h m U
 have a:i=A.length:=U;subst a;refine O ?_;exact bf (v:=.bool true) rfl rfl ⟨⟨true,rfl,im (Bl U h)⟩,Y.aY⟩
theorem Gw {a b c d a2 l c2 d2:Value}{vs us:List iW}{t u:aa}(k:bn w0 a b c d vs t)(hu:bn w0 a2 l c2 d2 us u) :
  Calls ai 26 #[.agg #[a,b,c,d],.agg #[a2,l,c2,d2]] w0 fun e w'=>(∃ r,e=.returned (.bool r)/\(r=true↔t=u))/\Z w0 w' []:=by
 have y:=k.M.rs;have z:=hu.M.rs;have A:=k.M.len;have S:=hu.M.len;have T:=y.bU;have V:=z.bU;have Y:=Z.start w0;refine bA an Tryz.func26 ?_;refine uI ?_;refine tm ?_;refine xU ?_;clear Y;intro B w Y;refine xU ?_;clear Y;intro C w Y;replace Y:Z w0 w [ak C 26 [a2,l,c2,d2],ak B 26 [a,b,c,d]]:=Y;refine O ?_;refine aL rfl (Pe (k.vars.at Y) (hu.vars.at Y)) ?_;rintro _ w' ⟨⟨r,rfl,f⟩,al⟩;refine aA ?_;clear al Y;intro Y;cases r
 ·refine O ?_
  exact bf (v:=.bool false) rfl rfl ⟨⟨false,rfl,cL fun e=>by cases f.2 (by rw[e])⟩,gm Y⟩
 have h1:=f.1 rfl;clear f;refine O ?_;refine aL rfl (Pe (k.cC.at Y) (hu.cC.at Y)) ?_;rintro _ w' ⟨⟨r,rfl,f⟩,al⟩;refine aA ?_;clear al Y;intro Y;cases r
 ·refine O ?_
  exact bf (v:=.bool false) rfl rfl ⟨⟨false,rfl,cL fun e=>by cases f.2 (by rw[e])⟩,gm Y⟩
 have h2:=f.1 rfl;clear f;refine O ?_;refine aL rfl (J2 (k.aH.at Y) (hu.aH.at Y)) ?_;rintro _ w' ⟨⟨r,rfl,f⟩,al⟩;refine aA ?_;clear al Y;intro Y;cases r
 ·refine O ?_
  exact bf (v:=.bool false) rfl rfl ⟨⟨false,rfl,cL fun e=>by cases f.2 (by rw[e])⟩,gm Y⟩
 have h3:=f.1 rfl;clear f;by_cases D:(vs.length:Int)=(us.length:Int)
 rotate_left
 ·have F:decide ((vs.length:Int)=(us.length:Int))=false:=dU D
  refine O ?_
  try simp only[F];refine dI ?_
  refine O ?_;exact bf (v:=.bool false) rfl rfl ⟨⟨false,rfl,cL fun e=>D (by rw[e]at A;omega)⟩,gm Y⟩
 have F:decide ((vs.length:Int)=(us.length:Int))=true:=dy D;refine O ?_
 try simp only[F];refine dI ?_
 refine O ?_;refine cP [4,7,42,83] (G:=Nat) (fun i=>[(42,E i)]) (fun i w=>i<=t.M.length/\(∀ m,m<i->t.M.getD m bj=u.M.getD m bj)/\Z w0 w [ak C 26 [a2,l,c2,d2],ak B 26 [a,b,c,d]]) (fun i=>t.M.length-i) 0 (fun _=>rfl) ⟨rfl,az⟩ ⟨bu _,fun i L=>absurd L (dr _),Y⟩ ?_;clear Y;rintro σ i w ⟨L,n,Y⟩;refine aB ?_ ?_<;>intro h5
 ·have H:i<t.M.length:=U
  have hx:=k.M.dJ i H;have o:=hu.M.dJ i U;have ax:=hx.one;have ay:=o.one;refine O ?_;refine sh [6,7,45,54] (G:=Addr × Addr) (fun g=>[(6,.pointer (some g.1)),(7,.pointer (some g.2))]) (fun g w=>Z w0 w [ak g.1 44 (cd.enc (au cd vs i)),ak g.2 44 (cd.enc (au cd us i)),ak C 26 [a2,l,c2,d2],ak B 26 [a,b,c,d]]) (fun _=>rfl) ?_ ?_
  ·refine wu (.s [0,2,5,7,1,3,4,6,8,9] (.d 10 [1,4,6,9] (.c 11 [1,4,6,9] (.c 12 [6,9] (.s [13] (.jE [])))) (.d 11 [1,4,6,9] (.c 10 [1,4,6,9] (.c 12 [6,9] (.s [13] (.jE [])))) (.stop)))) Y kr kr ?_;clear Y;intro w Y
   repeat' (first|refine du ?_|(refine gX ?_;clear Y;intro p w Y)|(refine tq ?_;clear Y;intro w Y)|refine jq ?_ ?_|exact pZ)
   all_goals exact⟨(_,_),⟨rfl,rfl,az⟩,aU,by first|exact Y|exact Y.swap⟩
  clear Y;rintro j' ⟨p6,p7⟩ w Y;simp only at Y;have N:=hx.name;have P:=o.name;have Q:=hx.aN;have R:=o.aN;have px:=hx.pre;have py:=o.pre;obtain⟨ex,hex⟩:=hx.aJ;obtain⟨ey,K⟩:=o.aJ;by_cases q:(au cd vs i).name=(au cd us i).name;rotate_left
  ·have h:decide ((au cd vs i).name=(au cd us i).name)=false:=dU q
   refine O ?_;refine eY rfl (J4 (a:=(au cd vs i).name) (b:=(au cd us i).name) rfl rfl) ?_;refine O ?_
   try simp only[h];refine dI ?_
   refine O ?_;exact bf (v:=.bool false) rfl rfl ⟨⟨false,rfl,cL fun e=>q (by rw[N,P,e])⟩,gm Y⟩
  have h:decide ((au cd vs i).name=(au cd us i).name)=true:=dy q;by_cases x:(au cd vs i).aN=(au cd us i).aN;rotate_left
  ·have j:decide ((au cd vs i).aN=(au cd us i).aN)=false:=dU x
   refine O ?_;refine eY rfl (J4 (a:=(au cd vs i).name) (b:=(au cd us i).name) rfl rfl) ?_;refine O ?_
   try simp only[h,j];refine dI ?_
   refine O ?_;exact bf (v:=.bool false) rfl rfl ⟨⟨false,rfl,cL fun e=>x (by rw[Q,R,e])⟩,gm Y⟩
  have j:decide ((au cd vs i).aN=(au cd us i).aN)=true:=dy x;refine O ?_;refine eY rfl (J4 (a:=(au cd vs i).name) (b:=(au cd us i).name) rfl rfl) ?_;refine O ?_
  try simp only[h,j];refine dI ?_
  refine O ?_;refine aL rfl (J2 (px.at Y) (py.at Y)) ?_;rintro _ w' ⟨⟨r,rfl,f⟩,al⟩;refine aA ?_;clear al Y;intro Y;cases r
  ·refine O ?_
   exact bf (v:=.bool false) rfl rfl ⟨⟨false,rfl,cL fun e=>by cases f.2 (by rw[e])⟩,gm Y⟩
  have q3:=f.1 rfl;clear f;refine O ?_;refine aL rfl (Xa (Gx hex Y) (Gx K Y)) ?_;rintro _ w' ⟨⟨r,rfl,f⟩,al⟩;refine aA ?_;clear al Y;intro Y;cases r
  ·refine O ?_
   exact bf (v:=.bool false) rfl rfl ⟨⟨false,rfl,cL fun e=>by cases f.2 (by rw[e])⟩,gm Y⟩
  have q4:=f.1 rfl;clear f;refine O ?_;refine⟨i+1,⟨rfl,az⟩,aU,⟨U,fun m hm=>?_,Y.tail.tail⟩,U⟩;by_cases e:m=i
  ·subst e;exact Pf (by rw[<-N,<-P,q]) (by rw[<-Q,<-R,x]) q3 q4
  exact n m U
 have h:i=t.M.length:=U;subst h;refine O ?_;exact bf (v:=.bool true) rfl rfl ⟨⟨true,rfl,im (Pg h1 h2 h3 (Bl U n))⟩,gm Y⟩
end Go.Proofs.YtmapkjoefdgjfaaGreatDoor
