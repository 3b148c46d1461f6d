/- Several texts. -/
import Derived.Test.YtmapkjoefdgjfaaGreatDoorMW21D
set_option linter.unusedSimpArgs false
set_option linter.unusedVariables false
set_option linter.defProp false
set_option maxRecDepth 8000
set_option maxHeartbeats 16000000
open List Nat
namespace Go.Proofs.YtmapkjoefdgjfaaGreatDoor
open Go.Sl
variable {w0:World}{s:J}{a b c d:Value}{p:Addr}{vs:List iX}
section
open Go.Sl Go

end
section
open Go.Sl Go
attribute [local irreducible] vc opsW opsD opV opW PureV ReadV Thn Blk
def Ÿ {t:aa}{L cs:J}(I:aC t)(h:¬(0<cs.length/\cs.length≠t.Z.length)/\¬∃ x∈cs,mQ x)(e:cO t L=0):iE t L cs=0:=by
 unfold iE;rw[aH (by rw[(rQ t).2 I];decide),aH h.1,aH h.2,e]
structure iO (t:aa) (Ls:List J):Prop where
 jb:fA t
 len:Ls.length<=32
 inv:∀ i,i<Ls.length->jr t.vars (Ls.getD i [])
 Dg:∀ i,i<Ls.length->bp t.vars (Ls.getD i [])<=512
 full:0<Ls.length->¬j1 Ls.length (rU Ls.length (gd t Ls Ls.length))
section
variable {t:aa}{Ls j Cs:List J}
def iO.MX (h:iO t Ls):gp t Ls=0:=by
 unfold gp;rw[aH (by rw[(rQ t).2 h.jb.da];decide),aP fun i e=>(h.inv i e).pW]
def iO.MY (h:iO t Ls):dJ t Ls=0:=by
 unfold dJ;rw[aH (by simp[h.MX]),aH (by have:=h.len;omega),aH (fun e=>h.full e.1 e.2)]
def iO.EW (h:iO t Ls):∀ i,i<Ls.length->cO t (Ls.getD i [])=0:=fun i e=>(K5 h.jb (h.inv i e)).1
def iO.BO (h:iO t Ls){i:Nat}(hi:i<Ls.length):iE t (Ls.getD i []) []=0:=Ÿ h.jb.da ⟨sm,sm⟩ (h.EW i hi)
structure gk (t:aa) (Ls j Cs:List J):Prop where
 nV:iO t Ls
 dl:j.length=Ls.length
 cl:Cs.length<=4096
 zero:Ls=[]->Cs=[]
 tl:Ls≠[]->kJ Ls.length (rU Ls.length (gd t Ls Ls.length)) Cs
 bN:∀ i,i<Ls.length->cH (bM t (Ls.getD i [])) (am t) (fx t (Ls.getD i [])) (bp t.vars (Ls.getD i [])).toNat (j.getD i [])
def gk.ci (h:gk t Ls j Cs):∀ l∈Cs,∀ i∈l,0<=i/\i<Ls.length:=fun l f i g=>by
 by_cases e:Ls=[]
 ·rw[h.zero e]at f;simp at f
 obtain⟨C,_,rfl⟩:=(h.tl e l).1 f;obtain⟨v,hv,_,rfl⟩:=Ew.1 g;omega
def gk.can (h:gk t Ls j Cs):∃ f,kF t Ls j (rU Ls.length (gd t Ls Ls.length)) f/\∀ s,gC t Ls j Cs s=gC t Ls j f s:=by
 have g:=MH t Ls;by_cases e:Ls=[]
 ·refine⟨[[]],⟨h.nV.jb.da,h.nV.inv,h.nV.Dg,h.nV.len,h.bN,g.gr,g.add,?_⟩,fun s=>?_⟩
  ·have k:Ls.length=0:=by rw[e];rfl
   rw[k];intro l;constructor
   ·intro i
    rw[dp]at i;subst i;exact⟨0,⟨fun v hv=>by simp[ib]at hv,fun u v hu=>by simp[ib]at hu,fun u hu=>absurd hu (dx _)⟩,rfl⟩
   rintro⟨C,_,rfl⟩;exact dp.2 rfl
  rw[h.zero e];unfold gC fN;rfl
 exact⟨Cs,⟨h.nV.jb.da,h.nV.inv,h.nV.Dg,h.nV.len,h.bN,g.gr,g.add,h.tl e⟩,fun _=>rfl⟩
def gk.dC (h:gk t Ls j Cs)(e:ab t.vars s):0<=gC t Ls j Cs s/\gC t Ls j Cs s<=bD:=by
 obtain⟨f,h1,g⟩:=h.can;rw[g];exact h1.MQ e
def gk.step (h:gk t Ls j Cs){s:J}{op:Nat}(g:ab t.vars s)(i:op<t.Z.length)(k:iT t s op)(f:gC t Ls j Cs (cd t s op)<bD):gC t Ls j Cs s<bD/\gC t Ls j Cs s<=(am t).getD op O.dflt+gC t Ls j Cs (cd t s op):=by
 obtain⟨l,h1,e⟩:=h.can;rw[e]at f;rw[e,e];have:=h1.step g i k f;exact⟨U,U⟩
def gk.aG (h:gk t Ls j Cs){s:J}(e:ab t.vars s)(I:bZ s t.aG):gC t Ls j Cs s=0:=by
 obtain⟨f,h1,g⟩:=h.can;rw[g];exact h1.aG e I
end
def Ź {s:Value}{t:aa}{ss:List Value}{Ls:List J}(g:bz w0 a b c d vs t)(i:sh w0 s ss Ls)(l:la w0)(f:iO t Ls) :
  Calls aj 56 #[.agg #[a,b,c,d],s] w0 fun e w'=>∃ p j Cs,e=.returned (.tuple #[.pointer (some p),.nilIface])/\gk t Ls j Cs/\M w0 w' [bj fun w=>oH w p t Ls j Cs]:=by
 refine(OL g i l).mono fun e w' h=>?_;rcases h with ⟨h,_⟩|⟨_,⟨k,hk,_,n,_⟩,_⟩|⟨_,_,_,_,p,j,Cs,he,h1,o,q,r,u,hk⟩
 ·exact absurd f.MY h
 ·exact absurd (f.BO hk) n
 exact⟨p,j,Cs,he,⟨f,r,q,h1,o,u⟩,hk⟩
open Classical in
noncomputable def lZ (t:aa)(Ls j Cs:List J)(s:J):Int:=if ab t.vars s then gC t Ls j Cs s else 0
def TG {t:aa}{Ls j Cs:List J}(h:ab t.vars s):lZ t Ls j Cs s=gC t Ls j Cs s:=aP h
def TH {t:aa}{size:Int}(e:fA t):gp t (db t size)=0:=by
 unfold gp;rw[aH (by rw[(rQ t).2 e.da];decide),aP fun i f=>(BA f).pW]
def ź {t:aa}{size:Int}(e:fA t):dJ t (db t size)=10\/(dJ t (db t size)=0/\iO t (db t size)):=by
 have h:=EC t size;by_cases f:0<(db t size).length/\j1 (db t size).length (rU (db t size).length (gd t (db t size) (db t size).length))
 ·left
  unfold dJ;rw[aH (by rw[TH e];decide),aH U,aP f]
 right;refine⟨?_,e,h,fun i g=>BA g,fun i g=>rO (HA e.da.pos (BA g)) e.many,fun k hq=>f ⟨k,hq⟩⟩;unfold dJ;rw[aH (by rw[TH e];decide),aH U,aH f]
section
variable {t:aa}{Ls j Cs:List J}
def gk.bI (h:gk t Ls j Cs):Bs t (lZ t Ls j Cs):=by
 have key:∀ s,0<=lZ t Ls j Cs s/\lZ t Ls j Cs s<=bD:=fun s=>by
  unfold lZ;split
  ·rename_i e;exact h.dC e
  exact⟨du _,dc⟩
 exact⟨h.nV.jb.da,fun y=>(key y).1,fun y=>(key y).2⟩
def gk.BP (h:gk t Ls j Cs){y q:J}{d:Int}(g:lu t y q d):lZ t Ls j Cs y<bD/\lZ t Ls j Cs y<=d:=by
 have e:bD=1125899906842624:=rfl;have I:=h.nV.jb.da;have o:=g.nn I;by_cases f:ab t.vars y
 ·rw[TG f]
  induction g with
  | aG r=>rw[h.aG f r];omega
  | @step y op q d i u g v =>
   have k:=g.nn I;have l:=r6 I f i;obtain⟨h1,x⟩:=v k l;have n:=h.step f i u h1;rw[tC i]at n;refine⟨n.1,?_⟩;have z:(t.Z.getD op bf).aO=qu t op:=rfl;omega
 have:lZ t Ls j Cs y=0:=aH f;omega
end
def oH.at {w0 w:World}{Γ:List HP}{p:Addr}{t:aa}{Ls j Cs:List J}(h:oH w0 p t Ls j Cs)(Y:M w0 w Γ):oH w p t Ls j Cs:=by
 obtain⟨e,f,g,i,k,h1,l,n,o,q⟩:=h;exact⟨e,f,g,i,k,h1.at Y,l.at Y,n.at Y,o.at Y,q.at Y⟩
def Ż {t:aa}{Ls j Cs:List J}{sv:Value}(g:oH w0 p t Ls j Cs)(f:gk t Ls j Cs)(h:RS O w0 sv s)(bI:ab t.vars s) :
  Calls aj 326 #[.pointer (some p),sv] w0 fun e w'=>e=.returned (E (gC t Ls j Cs s))/\M w0 w' []:=by
 rw[<-OM bI];exact V0 g f.nV.len f.dl f.cl f.ci f.nV.EW f.bN h
def ż {w:World}{t:aa}{Ls j Cs:List J}(h:oH w p t Ls j Cs)(f:gk t Ls j Cs):gb w (.iface 105 (.pointer (some p))) t (lZ t Ls j Cs) :=
 ⟨_,_,_,_,rfl,Hv _,inferInstance,fun _ _ _ _ Y e bI=>by
  rw[TG bI]
  exact Ż (h.at Y) f e bI⟩
def Ž {h v:Value}{T:Nat} :
  Calls aj 37 #[.agg #[a,b,c,d],h,.iface T v] w0 fun e w'=>e=.returned (.tuple #[.pointer none,.iface T v])/\M w0 w' []:=by
 have Y:=M.start w0;refine bB ao Tryz.func37 ?_;refine eB ?_;intro p w Y;exact cX (v:=.pointer none) (v':=.iface T v) rfl rfl rfl ⟨rfl,iY Y⟩
def ũ {t:aa}{size:Int}(g:bz w0 a b c d vs t)(k:fA t)(q:la w0) :
  Calls aj 30 #[.agg #[a,b,c,d],E size] w0 fun e w'=>(dJ t (db t size)=10/\e=.returned (.tuple #[.pointer none,bO 10])/\M w0 w' [])\/∃ p j Cs,e=.returned (.tuple #[.pointer (some p),.nilIface])/\gk t (db t size) j Cs/\M w0 w' [bj fun w=>cy w p t (lZ t (db t size) j Cs)]:=by
 have I:=k.da;have Y:=M.start w0;refine bB ao Tryz.func30 ?_;refine c9 ?_;intro x w Y;refine aU rfl (TJ (g.at Y) k) ?_;rintro _ w' ⟨y,rfl,an⟩;refine aL ?_;clear an Y;intro Y;refine W ?_;obtain⟨os,f⟩:=Y.cU 0 rfl;rcases ź (size:=size) k with r|⟨r,z⟩
 ·refine aU rfl (OL (g.at Y) f (q.at Y)) ?_
  rintro _ w' (⟨h1,rfl,an⟩|⟨h1,_⟩|⟨h1,_⟩);rotate_left
  ·omega
  ·omega
  refine aI ?_;clear an Y;intro Y;rw[r,dq (show (10:Int)≠0 by decide)];refine W ?_;refine aU rfl Ž ?_;rintro _ w' ⟨rfl,an⟩;refine aI ?_;clear an Y;intro Y;refine W ?_;exact cX (v:=.pointer none) (v':=.iface 57 (E 10)) rfl rfl rfl (.inl ⟨rfl,rfl,iY Y⟩)
 refine aU rfl (Ź (g.at Y) f (q.at Y) z) ?_;rintro _ w' ⟨l,j,Cs,rfl,u,an⟩;refine aL ?_;clear an Y;intro Y;refine W ?_;refine aU rfl (yf (h:=.iface 105 (.pointer (some l))) (H:=lZ t (db t size) j Cs) (g.at Y) I ⟨_,_,rfl⟩) ?_;rintro _ w' ⟨i,rfl,an⟩;refine aL ?_;clear an Y;intro Y;refine W ?_;have n:M w0 w' (([bj fun w=>gb w (.iface 105 (.pointer (some l))) t (lZ t (db t size) j Cs)->cy w i t (lZ t (db t size) j Cs),bj fun w=>oH w l t (db t size) j Cs]:List HP)++[bj fun w=>∃ A,sh w y A (db t size),ak x 26 [a,b,c,d]]):=Y;have o:=M.rd (φ:=fun w=>cy w i t (lZ t (db t size) j Cs)) (fun _ w h=>(h.cU 0 rfl) (ż (h.cU 1 rfl) u)) n;exact cX (v:=.pointer (some i)) (v':=.nilIface) rfl rfl rfl (.inr ⟨i,j,Cs,rfl,u,o.only⟩)
def ž {t:aa}{Ls j m:List J}{c:J}{sv:Value}(x:Au w0 p t Ls j m)(y:tk t Ls c j m)(T:Ls.length<=32)(F:∀ i,i<Ls.length->cO t (Ls.getD i [])=0)(H:RS O w0 sv s) :
  Calls aj 329 #[.pointer (some p),sv] w0 fun e w'=>e=.returned (E (gj t Ls j s))/\M w0 w' []:=by
 obtain⟨V,dv,pv,qs,ps,h1,N,h3,K,h5,h6⟩:=x;have P:=K.1;have Q:=y.dl;have Y:=M.start w0;refine bB ao Tryz.func329 ?_;refine W ?_;refine aU rfl (yi N (H.at Y)) ?_;rintro _ w' ⟨⟨r,rfl,x⟩,an⟩;refine aI ?_;clear an Y;intro Y;cases r
 ·rw[U4 (fun h=>by have:=x.2 h;cases this)]
  refine W ?_;exact bk (v:=E 1125899906842624) rfl rfl ⟨rfl,Y⟩
 have bI:=x.1 rfl;have l:∀ k,k<Ls.length->0<=bG t Ls j s k/\bG t Ls j s k<=1125899906842624:=fun k hk=>Gb (FM (F k hk)).2.1 (y.bN k hk) bI;refine W ?_;refine cN [4,5,7,8,23,35] (G:=Nat) (fun k=>[(23,E k),(5,E (ju (bG t Ls j s) k))]) (fun k w=>k<=Ls.length/\(∀ i,i<k->bG t Ls j s i≠1125899906842624)/\M w0 w []) (fun k=>Ls.length-k) 0 (fun _=>rfl) ⟨rfl,rfl,au⟩ ⟨br _,fun i z=>absurd z (dx _),Y⟩ ?_;clear Y;rintro σ k w ⟨hk,o,Y⟩;refine aA ?_ ?_<;>intro h7
 ·have g:k<Ls.length:=U
  obtain⟨q,hq,A⟩:=K.2 k U;have C:=IY (F k g) (y.bN k g);have u:wO (nG t (Ls.getD k []) (j.getD k [])) s=bG t Ls j s k:=IS bI;have R:=l k g;have S:=N0 (n:=k) (f:=bG t Ls j s) (B:=1125899906842624) fun i z=>l i U;have D:=wu (bG t Ls j s) k;refine W ?_;rw[hq];refine aU rfl (NP (A.at Y) C (H.at Y)) ?_;rintro _ w' ⟨rfl,an⟩;replace Y:=Y.cr an;clear an;rw[u];refine⟨_,rfl,?_⟩;refine aA ?_ ?_<;>intro L
  ·rw[N1 bI g L]
   refine W ?_;exact bk (v:=E 1125899906842624) rfl rfl ⟨rfl,Y⟩
  refine W ?_;refine⟨k+1,⟨rfl,by rw[D];rfl,au⟩,aV,⟨U,fun i z=>?_,Y⟩,U⟩;by_cases e:i=k
  ·subst e;exact L
  exact o i U
 have g:k=Ls.length:=U;subst g;rw[N2 bI o];refine W ?_;exact bk (v:=E (ju (bG t Ls j s) Ls.length)) rfl rfl ⟨rfl,Y⟩
open Classical in
noncomputable def lq (t:aa)(Ls j:List J)(s:J):Int:=if ab t.vars s then gj t Ls j s else 0
def TK {t:aa}{Ls j:List J}(h:ab t.vars s):lq t Ls j s=gj t Ls j s:=aP h
def ů {t:aa}{size:Int}{j m:List J}(e:fA t)(f:tk t (db t size) (am t) j m):n0 t (db t size) j m :=
 ⟨f,e.da,fun _ hk=>BA hk,fun _ hk=>rO (HA e.da.pos (BA hk)) e.many,EC t size⟩
section
variable {t:aa}{Ls j m:List J}
def n0.bI (h:n0 t Ls j m):Bs t (lq t Ls j):=by
 have key:∀ s,0<=lq t Ls j s/\lq t Ls j s<=bD:=fun s=>by
  unfold lq;split
  ·rename_i e;exact(h.ow e).2.2
  exact⟨du _,dc⟩
 exact⟨h.da,fun y=>(key y).1,fun y=>(key y).2⟩
def n0.BP (h:n0 t Ls j m){y q:J}{d:Int}(g:lu t y q d):lq t Ls j y<bD/\lq t Ls j y<=d:=by
 have e:bD=1125899906842624:=rfl;have o:=g.nn h.da;by_cases f:ab t.vars y
 ·rw[TK f]
  induction g with
  | aG r=>rw[h.aG f r];omega
  | @step y op q d i u g v =>
   have k:=g.nn h.da;have l:=r6 h.da f i;obtain⟨h1,x⟩:=v k l;have n:=h.step f i u h1;rw[tC i]at n;refine⟨n.1,?_⟩;have z:(t.Z.getD op bf).aO=qu t op:=rfl;omega
 have:lq t Ls j y=0:=aH f;omega
end
def ſ {t:aa}{size:Int}(e:fA t):nW t (db t size)=0:=by
 have I:=(rQ t).2 e.da;have g:=EC t size;unfold nW;rw[aH (by rw[I];decide),aH (fun⟨i,f,h⟩=>h (BA f).pW),aH U]
def Α {w:World}{t:aa}{size:Int}{j m:List J}(f:fA t)(h:Au w p t (db t size) j m)(g:tk t (db t size) (am t) j m):gb w (.iface 108 (.pointer (some p))) t (lq t (db t size) j) :=
 ⟨_,_,_,_,rfl,Hv _,inferInstance,fun _ _ _ _ Y e bI=>by
  rw[TK bI]
  exact ž (h.at Y) g (EC t size) (fun _ i=>TL f i) e⟩
def ŭ {t:aa}{size:Int}(l:bz w0 a b c d vs t)(f:fA t) :
  Calls aj 31 #[.agg #[a,b,c,d],E size] w0 fun e w'=>∃ p j m,e=.returned (.tuple #[.pointer (some p),.nilIface])/\tk t (db t size) (am t) j m/\M w0 w' [bj fun w=>cy w p t (lq t (db t size) j)]:=by
 have I:=f.da;have Y:=M.start w0;refine bB ao Tryz.func31 ?_;refine c9 ?_;intro u w Y;refine aU rfl (TJ (l.at Y) f) ?_;rintro _ w' ⟨x,rfl,an⟩;refine aL ?_;clear an Y;intro Y;obtain⟨os,g⟩:=Y.cU 0 rfl;refine W ?_;obtain⟨os,g⟩:=Y.cU 0 rfl;refine aU rfl (Β (l.at Y) g (fun _ _ _ i y=>TL f y)) ?_;rintro _ w' (⟨h1,_⟩|⟨_,_,_,_,n,j,m,rfl,r,an⟩)
 ·exact absurd (ſ f) h1
 refine aL ?_;clear an Y;intro Y;refine W ?_;refine aU rfl (yf (h:=.iface 108 (.pointer (some n))) (H:=lq t (db t size) j) (l.at Y) I ⟨_,_,rfl⟩) ?_;rintro _ w' ⟨k,rfl,an⟩;refine aL ?_;clear an Y;intro Y;refine W ?_;have o:M w0 w' (([bj fun w=>gb w (.iface 108 (.pointer (some n))) t (lq t (db t size) j)->cy w k t (lq t (db t size) j),bj fun w=>Au w n t (db t size) j m]:List HP)++[bj fun w=>∃ z,sh w x z (db t size),ak u 26 [a,b,c,d]]):=Y;have q:=M.rd (φ:=fun w=>cy w k t (lq t (db t size) j)) (fun _ w h=>(h.cU 0 rfl) (Α f (h.cU 1 rfl) r)) o;exact cX (v:=.pointer (some k)) (v':=.nilIface) rfl rfl rfl ⟨k,j,m,rfl,r,q.only⟩
end
end Go.Proofs.YtmapkjoefdgjfaaGreatDoor
