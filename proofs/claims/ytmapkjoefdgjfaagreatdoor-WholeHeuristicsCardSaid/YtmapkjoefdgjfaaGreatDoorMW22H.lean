/- Several texts. -/
import Derived.Test.YtmapkjoefdgjfaaGreatDoorMW21H
set_option linter.unusedSimpArgs false
set_option linter.unusedVariables false
set_option linter.defProp false
set_option maxRecDepth 8000
set_option maxHeartbeats 16000000
open List Nat
namespace Go.Proofs.YtmapkjoefdgjfaaGreatDoor
open Go.Sl
variable {w0:World}{s:J}{a b c d:Value}{p:Addr}{vs:List kq}
section
open Go.Sl Go

end
section
open Go.Sl Go
attribute [local irreducible] vc opsW opsD opV opW PureV ReadV Thn Blk
def qu7 {t:aa}{L cs:J}(I:aJ t)(h:¬(0<cs.length/\cs.length≠t.M.length)/\¬∃ x∈cs,oL x)(e:dh t L=0):jH t L cs=0:=by
 unfold jH;rw[aM (by rw[(tE t).2 I];decide),aM h.1,aM h.2,e]
structure jb (t:aa) (Ls:List J):Prop where
 jQ:fx t
 len:Ls.length<=32
 inv:∀ i,i<Ls.length->jX t.vars (Ls.getD i [])
 EX:∀ i,i<Ls.length->bG t.vars (Ls.getD i [])<=512
 full:0<Ls.length->¬j8 Ls.length (tJ Ls.length (gX t Ls Ls.length))
def Z5 {n:Nat}{N:Nat->Nat}(h:n<=12):¬j8 n N:=by
 rintro⟨e,f,g,hm⟩;have i:=Lv f (M':=List.range (2 ^ n)) fun C k=>mem_range.2 (hm C k).lt;rw[E8]at i;have:2 ^ n<=2 ^ 12:=zA dc h;omega
section
variable {t:aa}{Ls j Cs:List J}
def jb.Pl (h:jb t Ls):ir t Ls=0:=by
 unfold ir;rw[aM (by rw[(tE t).2 h.jQ.dJ];decide),ba fun i e=>(h.inv i e).rM]
def jb.GQ (h:jb t Ls):eL t Ls=0:=by
 unfold eL;rw[aM (by simp[h.Pl]),aM (by have:=h.len;omega),aM (fun e=>h.full e.1 e.2)]
def jb.GZ (h:jb t Ls):∀ i,i<Ls.length->dh t (Ls.getD i [])=0:=fun i e=>(Ez h.jQ (h.inv i e)).1
def jb.Df (h:jb t Ls){i:Nat}(hi:i<Ls.length):jH t (Ls.getD i []) []=0:=qu7 h.jQ.dJ ⟨sm,sm⟩ (h.GZ i hi)
structure gz (t:aa) (Ls j Cs:List J):Prop where
 o5:jb t Ls
 dl:j.length=Ls.length
 cl:Cs.length<=4096
 zero:Ls=[]->Cs=[]
 uN:Ls≠[]->mb Ls.length (tJ Ls.length (gX t Ls Ls.length)) Cs
 cr:∀ i,i<Ls.length->db (cm t (Ls.getD i [])) (ao t) (gg t (Ls.getD i [])) (bG t.vars (Ls.getD i [])).toNat (j.getD i [])
def gz.ci (h:gz t Ls j Cs):∀ l∈Cs,∀ i∈l,0<=i/\i<Ls.length:=fun l f i g=>by
 by_cases e:Ls=[]
 ·rw[h.zero e]at f;simp at f
 obtain⟨C,_,rfl⟩:=(h.uN e l).1 f;obtain⟨v,hv,_,rfl⟩:=GA.1 g;omega
def gz.can (h:gz t Ls j Cs):∃ f,l7 t Ls j (tJ Ls.length (gX t Ls Ls.length)) f/\∀ s,iu t Ls j Cs s=iu t Ls j f s:=by
 have g:=O8 t Ls;by_cases e:Ls=[]
 ·refine⟨[[]],⟨h.o5.jQ.dJ,h.o5.inv,h.o5.EX,h.o5.len,h.cr,g.gr,g.add,?_⟩,fun s=>?_⟩
  ·have k:Ls.length=0:=by rw[e];rfl
   rw[k];intro l;constructor
   ·intro i
    rw[fU]at i;subst i;exact⟨0,⟨fun v hv=>by grind,fun u v hu=>by grind,fun u hu=>absurd hu (eo _)⟩,rfl⟩
   rintro⟨C,_,rfl⟩;exact fU.2 rfl
  rw[h.zero e];unfold iu ie;rfl
 exact⟨Cs,⟨h.o5.jQ.dJ,h.o5.inv,h.o5.EX,h.o5.len,h.cr,g.gr,g.add,h.uN e⟩,fun _=>rfl⟩
def gz.et (h:gz t Ls j Cs)(e:aj t.vars s):0<=iu t Ls j Cs s/\iu t Ls j Cs s<=bZ:=by
 obtain⟨f,h1,g⟩:=h.can;rw[g];exact h1.Pf e
def gz.step (h:gz t Ls j Cs){s:J}{op:Nat}(g:aj t.vars s)(i:op<t.M.length)(k:jZ t s op)(f:iu t Ls j Cs (cD t s op)<bZ):iu t Ls j Cs s<bZ/\iu t Ls j Cs s<=(ao t).getD op W.dflt+iu t Ls j Cs (cD t s op):=by
 obtain⟨l,h1,e⟩:=h.can;rw[e]at f;rw[e,e];have:=h1.step g i k f;omega
def gz.aF (h:gz t Ls j Cs){s:J}(e:aj t.vars s)(I:cE s t.aF):iu t Ls j Cs s=0:=by
 obtain⟨f,h1,g⟩:=h.can;rw[g];exact h1.aF e I
end
def qwC {s:Value}{t:aa}{ss:List Value}{Ls:List J}(g:bR w0 a b c d vs t)(i:tT w0 s ss Ls)(l:nc w0)(f:jb t Ls) :
  Calls ak 56 #[.agg #[a,b,c,d],s] w0 fun e w'=>∃ p j Cs,e=.returned (.tuple #[.pointer (some p),.nilIface])/\gz t Ls j Cs/\Z w0 w' [bA fun w=>qQ w p t Ls j Cs]:=by
 refine(Ra g i l).mono fun e w' h=>?_;rcases h with ⟨h,_⟩|⟨_,⟨k,hk,_,n,_⟩,_⟩|⟨_,_,_,_,p,j,Cs,he,h1,o,q,r,u,hk⟩
 ·exact absurd f.GQ h
 ·exact absurd (f.Df hk) n
 exact⟨p,j,Cs,he,⟨f,r,q,h1,o,u⟩,hk⟩
open Classical in
noncomputable def lZ (t:aa)(Ls j Cs:List J)(s:J):Int:=if aj t.vars s then iu t Ls j Cs s else 0
def Kc {t:aa}{Ls j Cs:List J}(h:aj t.vars s):lZ t Ls j Cs s=iu t Ls j Cs s:=ba h
def WB {t:aa}{size:Int}(e:fx t):ir t (dx t size)=0:=by
 unfold ir;rw[aM (by rw[(tE t).2 e.dJ];decide),ba fun i f=>(Aa f).rM]
def qAn {t:aa}{size:Int}(e:fx t):eL t (dx t size)=10\/(eL t (dx t size)=0/\jb t (dx t size)):=by
 have h:=D1 t size;by_cases f:0<(dx t size).length/\j8 (dx t size).length (tJ (dx t size).length (gX t (dx t size) (dx t size).length))
 ·left
  unfold eL;rw[aM (by rw[WB e];decide),aM U,ba f]
 right;refine⟨?_,e,h,fun i g=>Aa g,fun i g=>uJ (D2 e.dJ.pos (Aa g)) e.many,fun k hq=>f ⟨k,hq⟩⟩;unfold eL;rw[aM (by rw[WB e];decide),aM U,aM f]
section
variable {t:aa}{Ls j Cs:List J}
def gz.bX (h:gz t Ls j Cs):CQ t (lZ t Ls j Cs):=by
 have key:∀ s,0<=lZ t Ls j Cs s/\lZ t Ls j Cs s<=bZ:=fun s=>by
  unfold lZ;split
  ·rename_i e;exact h.et e
  exact⟨iq _,dc⟩
 exact⟨h.o5.jQ.dJ,fun y=>(key y).1,fun y=>(key y).2⟩
def gz.cons (h:gz t Ls j Cs):vw t (lZ t Ls j Cs):=fun s op e f i=>by
 have I:=h.o5.jQ.dJ;have g:=sb I e f;rw[Kc e,Kc g];have l:=x6 I f;have h1:=(h.et e).2;by_cases k:iu t Ls j Cs (cD t s op)<bZ
 ·have:=(h.step e f i k).2
  have n:(t.M.getD op bz).aT=oF t op:=rfl;rw[tD f]at this;omega
 omega
def gz.Dg (h:gz t Ls j Cs){y q:J}{d:Int}(g:mg t y q d):lZ t Ls j Cs y<bZ/\lZ t Ls j Cs y<=d:=by
 have e:bZ=1125899906842624:=rfl;have I:=h.o5.jQ.dJ;have o:=g.nn I;by_cases f:aj t.vars y
 ·rw[Kc f]
  induction g with
  | aF r=>rw[h.aF f r];omega
  | @step y op q d i u g v =>
   have k:=g.nn I;have l:=sb I f i;obtain⟨h1,x⟩:=v k l;have n:=h.step f i u h1;rw[tD i]at n;refine⟨n.1,?_⟩;have z:(t.M.getD op bz).aT=oF t op:=rfl;omega
 have:lZ t Ls j Cs y=0:=aM f;omega
end
def qQ.at {w0 w:World}{Γ:List HP}{p:Addr}{t:aa}{Ls j Cs:List J}(h:qQ w0 p t Ls j Cs)(Y:Z w0 w Γ):qQ w p t Ls j Cs:=by
 obtain⟨e,f,g,i,k,h1,l,n,o,q⟩:=h;exact⟨e,f,g,i,k,h1.at Y,l.at Y,n.at Y,o.at Y,q.at Y⟩
def qoy {t:aa}{Ls j Cs:List J}{sv:Value}(g:qQ w0 p t Ls j Cs)(f:gz t Ls j Cs)(h:RS W w0 sv s)(bX:aj t.vars s) :
  Calls ak 326 #[.pointer (some p),sv] w0 fun e w'=>e=.returned (E (iu t Ls j Cs s))/\Z w0 w' []:=by
 rw[<-Rb bX];exact Y0 g f.o5.len f.dl f.cl f.ci f.o5.GZ f.cr h
def qxm {w:World}{t:aa}{Ls j Cs:List J}(h:qQ w p t Ls j Cs)(f:gz t Ls j Cs):gW w (.iface 105 (.pointer (some p))) t (lZ t Ls j Cs) :=
 ⟨_,_,_,_,rfl,Jj _,inferInstance,fun _ _ _ _ Y e bX=>by
  rw[Kc bX]
  exact qoy (h.at Y) f e bX⟩
def qm3 {h v:Value}{T:Nat} :
  Calls ak 37 #[.agg #[a,b,c,d],h,.iface T v] w0 fun e w'=>e=.returned (.tuple #[.pointer none,.iface T v])/\Z w0 w' []:=by
 have Y:=Z.start w0;refine bI ar Tryz.func37 ?_;refine ep ?_;intro p w Y;exact dw (v:=.pointer none) (v':=.iface T v) rfl rfl rfl ⟨rfl,iH Y⟩
def Z6 {t:aa}{size:Int}(g:bR w0 a b c d vs t)(k:fx t)(q:nc w0) :
  Calls ak 30 #[.agg #[a,b,c,d],E size] w0 fun e w'=>(eL t (dx t size)=10/\e=.returned (.tuple #[.pointer none,bS 10])/\Z w0 w' [])\/∃ p j Cs,e=.returned (.tuple #[.pointer (some p),.nilIface])/\gz t (dx t size) j Cs/\Z w0 w' [bA fun w=>cF w p t (lZ t (dx t size) j Cs)]:=by
 have I:=k.dJ;have Y:=Z.start w0;refine bI ar Tryz.func30 ?_;refine dj ?_;intro x w Y;refine aR rfl (WC (g.at Y) k) ?_;rintro _ w' ⟨y,rfl,aw⟩;refine aO ?_;clear aw Y;intro Y;refine O ?_;obtain⟨os,f⟩:=Y.dQ 0 rfl;rcases qAn (size:=size) k with r|⟨r,z⟩
 ·refine aR rfl (Ra (g.at Y) f (q.at Y)) ?_
  rintro _ w' (⟨h1,rfl,aw⟩|⟨h1,_⟩|⟨h1,_⟩);rotate_left
  ·omega
  ·omega
  refine aL ?_;clear aw Y;intro Y;rw[r,c9 (show (10:Int)≠0 by decide)];refine O ?_;refine aR rfl qm3 ?_;rintro _ w' ⟨rfl,aw⟩;refine aL ?_;clear aw Y;intro Y;refine O ?_;exact dw (v:=.pointer none) (v':=.iface 57 (E 10)) rfl rfl rfl (.inl ⟨rfl,rfl,iH Y⟩)
 refine aR rfl (qwC (g.at Y) f (q.at Y) z) ?_;rintro _ w' ⟨l,j,Cs,rfl,u,aw⟩;refine aO ?_;clear aw Y;intro Y;refine O ?_;refine aR rfl (zT (h:=.iface 105 (.pointer (some l))) (H:=lZ t (dx t size) j Cs) (g.at Y) I ⟨_,_,rfl⟩) ?_;rintro _ w' ⟨i,rfl,aw⟩;refine aO ?_;clear aw Y;intro Y;refine O ?_;have n:Z w0 w' (([bA fun w=>gW w (.iface 105 (.pointer (some l))) t (lZ t (dx t size) j Cs)->cF w i t (lZ t (dx t size) j Cs),bA fun w=>qQ w l t (dx t size) j Cs]:List HP)++[bA fun w=>∃ A,tT w y A (dx t size),am x 26 [a,b,c,d]]):=Y;have o:=Z.rd (φ:=fun w=>cF w i t (lZ t (dx t size) j Cs)) (fun _ w h=>(h.dQ 0 rfl) (qxm (h.dQ 1 rfl) u)) n;exact dw (v:=.pointer (some i)) (v':=.nilIface) rfl rfl rfl (.inr ⟨i,j,Cs,rfl,u,o.only⟩)
def qou {t:aa}{Ls j m:List J}{c:J}{sv:Value}(x:BV w0 p t Ls j m)(y:uM t Ls c j m)(T:Ls.length<=32)(F:∀ i,i<Ls.length->dh t (Ls.getD i [])=0)(H:RS W w0 sv s) :
  Calls ak 329 #[.pointer (some p),sv] w0 fun e w'=>e=.returned (E (ic t Ls j s))/\Z w0 w' []:=by
 obtain⟨V,dv,pv,qs,ps,h1,N,h3,K,h5,h6⟩:=x;have P:=K.1;have Q:=y.dl;have Y:=Z.start w0;refine bI ar Tryz.func329 ?_;refine O ?_;refine aR rfl (zW N (H.at Y)) ?_;rintro _ w' ⟨⟨r,rfl,x⟩,aw⟩;refine aL ?_;clear aw Y;intro Y;cases r
 ·rw[X6 (fun h=>by have:=x.2 h;cases this)]
  refine O ?_;exact bo (v:=E 1125899906842624) rfl rfl ⟨rfl,Y⟩
 have bX:=x.1 rfl;have l:∀ k,k<Ls.length->0<=bT t Ls j s k/\bT t Ls j s k<=1125899906842624:=fun k hk=>H5 (HM (F k hk)).2.1 (y.cr k hk) bX;refine O ?_;refine de [4,5,7,8,23,35] (G:=Nat) (fun k=>[(23,E k),(5,E (kz (bT t Ls j s) k))]) (fun k w=>k<=Ls.length/\(∀ i,i<k->bT t Ls j s i≠1125899906842624)/\Z w0 w []) (fun k=>Ls.length-k) 0 (fun _=>rfl) ⟨rfl,rfl,az⟩ ⟨bC _,fun i z=>absurd z (eo _),Y⟩ ?_;clear Y;rintro σ k w ⟨hk,o,Y⟩;refine aC ?_ ?_<;>intro h7
 ·have g:k<Ls.length:=U
  obtain⟨q,hq,A⟩:=K.2 k U;have C:=KQ (F k g) (y.cr k g);have u:yx (pT t (Ls.getD k []) (j.getD k [])) s=bT t Ls j s k:=KK bX;have R:=l k g;have S:=Qr (n:=k) (f:=bT t Ls j s) (B:=1125899906842624) fun i z=>l i U;have D:=x7 (bT t Ls j s) k;refine O ?_;rw[hq];refine aR rfl (Qh (A.at Y) C (H.at Y)) ?_;rintro _ w' ⟨rfl,aw⟩;replace Y:=Y.cH aw;clear aw;rw[u];refine⟨_,rfl,?_⟩;refine aC ?_ ?_<;>intro L
  ·rw[Qt bX g L]
   refine O ?_;exact bo (v:=E 1125899906842624) rfl rfl ⟨rfl,Y⟩
  refine O ?_;refine⟨k+1,⟨rfl,by rw[D];rfl,az⟩,aX,⟨U,fun i z=>?_,Y⟩,U⟩;by_cases e:i=k
  ·subst e;exact L
  exact o i U
 have g:k=Ls.length:=U;subst g;rw[Qu bX o];refine O ?_;exact bo (v:=E (kz (bT t Ls j s) Ls.length)) rfl rfl ⟨rfl,Y⟩
open Classical in
noncomputable def l5 (t:aa)(Ls j:List J)(s:J):Int:=if aj t.vars s then ic t Ls j s else 0
def Kd {t:aa}{Ls j:List J}(h:aj t.vars s):l5 t Ls j s=ic t Ls j s:=ba h
def RB {t:aa}{size:Int}{j m:List J}(e:fx t)(f:uM t (dx t size) (ao t) j m):pD t (dx t size) j m :=
 ⟨f,e.dJ,fun _ hk=>Aa hk,fun _ hk=>uJ (D2 e.dJ.pos (Aa hk)) e.many,D1 t size⟩
section
variable {t:aa}{Ls j m:List J}
def pD.bX (h:pD t Ls j m):CQ t (l5 t Ls j):=by
 have key:∀ s,0<=l5 t Ls j s/\l5 t Ls j s<=bZ:=fun s=>by
  unfold l5;split
  ·rename_i e;exact(h.qE e).2.2
  exact⟨iq _,dc⟩
 exact⟨h.dJ,fun y=>(key y).1,fun y=>(key y).2⟩
def pD.cons (h:pD t Ls j m):vw t (l5 t Ls j):=fun s op e f i=>by
 have g:=sb h.dJ e f;rw[Kd e,Kd g];have l:=x6 h.dJ f;have h1:=(h.qE e).2.2.2;by_cases k:ic t Ls j (cD t s op)<bZ
 ·have:=(h.step e f i k).2
  rw[tD f]at this;exact this
 omega
def pD.Dg (h:pD t Ls j m){y q:J}{d:Int}(g:mg t y q d):l5 t Ls j y<bZ/\l5 t Ls j y<=d:=by
 have e:bZ=1125899906842624:=rfl;have o:=g.nn h.dJ;by_cases f:aj t.vars y
 ·rw[Kd f]
  induction g with
  | aF r=>rw[h.aF f r];omega
  | @step y op q d i u g v =>
   have k:=g.nn h.dJ;have l:=sb h.dJ f i;obtain⟨h1,x⟩:=v k l;have n:=h.step f i u h1;rw[tD i]at n;refine⟨n.1,?_⟩;have z:(t.M.getD op bz).aT=oF t op:=rfl;omega
 have:l5 t Ls j y=0:=aM f;omega
end
def qxE {t:aa}{size:Int}(e:fx t):qB t (dx t size)=0:=by
 have I:=(tE t).2 e.dJ;have g:=D1 t size;unfold qB;rw[aM (by rw[I];decide),aM (fun⟨i,f,h⟩=>h (Aa f).rM),aM U]
def qxF {w:World}{t:aa}{size:Int}{j m:List J}(f:fx t)(h:BV w p t (dx t size) j m)(g:uM t (dx t size) (ao t) j m):gW w (.iface 108 (.pointer (some p))) t (l5 t (dx t size) j) :=
 ⟨_,_,_,_,rfl,Jj _,inferInstance,fun _ _ _ _ Y e bX=>by
  rw[Kd bX]
  exact qou (h.at Y) g (D1 t size) (fun _ i=>WD f i) e⟩
def Z8 {t:aa}{size:Int}(l:bR w0 a b c d vs t)(f:fx t) :
  Calls ak 31 #[.agg #[a,b,c,d],E size] w0 fun e w'=>∃ p j m,e=.returned (.tuple #[.pointer (some p),.nilIface])/\uM t (dx t size) (ao t) j m/\Z w0 w' [bA fun w=>cF w p t (l5 t (dx t size) j)]:=by
 have I:=f.dJ;have Y:=Z.start w0;refine bI ar Tryz.func31 ?_;refine dj ?_;intro u w Y;refine aR rfl (WC (l.at Y) f) ?_;rintro _ w' ⟨x,rfl,aw⟩;refine aO ?_;clear aw Y;intro Y;obtain⟨os,g⟩:=Y.dQ 0 rfl;refine O ?_;obtain⟨os,g⟩:=Y.dQ 0 rfl;refine aR rfl (qye (l.at Y) g (fun _ _ _ i y=>WD f y)) ?_;rintro _ w' (⟨h1,_⟩|⟨_,_,_,_,n,j,m,rfl,r,aw⟩)
 ·exact absurd (qxE f) h1
 refine aO ?_;clear aw Y;intro Y;refine O ?_;refine aR rfl (zT (h:=.iface 108 (.pointer (some n))) (H:=l5 t (dx t size) j) (l.at Y) I ⟨_,_,rfl⟩) ?_;rintro _ w' ⟨k,rfl,aw⟩;refine aO ?_;clear aw Y;intro Y;refine O ?_;have o:Z w0 w' (([bA fun w=>gW w (.iface 108 (.pointer (some n))) t (l5 t (dx t size) j)->cF w k t (l5 t (dx t size) j),bA fun w=>BV w n t (dx t size) j m]:List HP)++[bA fun w=>∃ z,tT w x z (dx t size),am u 26 [a,b,c,d]]):=Y;have q:=Z.rd (φ:=fun w=>cF w k t (l5 t (dx t size) j)) (fun _ w h=>(h.dQ 0 rfl) (qxF f (h.dQ 1 rfl) r)) o;exact dw (v:=.pointer (some k)) (v':=.nilIface) rfl rfl rfl ⟨k,j,m,rfl,r,q.only⟩
end
end Go.Proofs.YtmapkjoefdgjfaaGreatDoor
