/- Several texts. -/
import Derived.Test.YtmapkjoefdgjfaaGreatDoorMW21E
set_option linter.unusedSimpArgs false
set_option linter.unusedVariables false
set_option linter.defProp false
set_option maxRecDepth 8000
set_option maxHeartbeats 16000000
open List Nat
namespace Go.Proofs.YtmapkjoefdgjfaaGreatDoor
open Go.Sl
variable {w0:World}{s:J}{a b c d:Value}{p:Addr}{vs:List iW}
section
open Go.Sl Go

end
section
open Go.Sl Go
attribute [local irreducible] vc opsW opsD opV opW PureV ReadV Thn Blk
def Υ {t:aa}{L cs:J}(I:aG t)(h:¬(0<cs.length/\cs.length≠t.M.length)/\¬∃ x∈cs,mT x)(e:cT t L=0):iG t L cs=0:=by
 unfold iG;rw[aC (by rw[(oz t).2 I];decide),aC h.1,aC h.2,e]
structure iP (t:aa) (Ls:List J):Prop where
 iZ:fy t
 len:Ls.length<=32
 inv:∀ i,i<Ls.length->jp t.vars (Ls.getD i [])
 Dp:∀ i,i<Ls.length->br t.vars (Ls.getD i [])<=512
 full:0<Ls.length->¬j2 Ls.length (r5 Ls.length (ga t Ls Ls.length))
section
variable {t:aa}{Ls j Cs:List J}
def iP.Nd (h:iP t Ls):gp t Ls=0:=by
 unfold gp;rw[aC (by rw[(oz t).2 h.iZ.cZ];decide),aM fun i e=>(h.inv i e).qd]
def iP.Nf (h:iP t Ls):dN t Ls=0:=by
 unfold dN;rw[aC (by simp[h.Nd]),aC (by have:=h.len;omega),aC (fun e=>h.full e.1 e.2)]
def iP.E9 (h:iP t Ls):∀ i,i<Ls.length->cT t (Ls.getD i [])=0:=fun i e=>(Ln h.iZ (h.inv i e)).1
def iP.BW (h:iP t Ls){i:Nat}(hi:i<Ls.length):iG t (Ls.getD i []) []=0:=Υ h.iZ.cZ ⟨sm,sm⟩ (h.E9 i hi)
structure gi (t:aa) (Ls j Cs:List J):Prop where
 nV:iP t Ls
 dl:j.length=Ls.length
 cl:Cs.length<=4096
 zero:Ls=[]->Cs=[]
 tl:Ls≠[]->kG Ls.length (r5 Ls.length (ga t Ls Ls.length)) Cs
 bT:∀ i,i<Ls.length->cN (bS t (Ls.getD i [])) (ar t) (fq t (Ls.getD i [])) (br t.vars (Ls.getD i [])).toNat (j.getD i [])
def gi.ci (h:gi t Ls j Cs):∀ l∈Cs,∀ i∈l,0<=i/\i<Ls.length:=fun l f i g=>by
 by_cases e:Ls=[]
 ·rw[h.zero e]at f;simp at f
 obtain⟨C,_,rfl⟩:=(h.tl e l).1 f;obtain⟨v,hv,_,rfl⟩:=EH.1 g;omega
def gi.can (h:gi t Ls j Cs):∃ f,kD t Ls j (r5 Ls.length (ga t Ls Ls.length)) f/\∀ s,gB t Ls j Cs s=gB t Ls j f s:=by
 have g:=MX t Ls;by_cases e:Ls=[]
 ·refine⟨[[]],⟨h.nV.iZ.cZ,h.nV.inv,h.nV.Dp,h.nV.len,h.bT,g.gr,g.add,?_⟩,fun s=>?_⟩
  ·have k:Ls.length=0:=by rw[e];rfl
   rw[k];intro l;constructor
   ·intro i
    rw[dp]at i;subst i;exact⟨0,⟨fun v hv=>by simp[ib]at hv,fun u v hu=>by simp[ib]at hu,fun u hu=>absurd hu (dr _)⟩,rfl⟩
   rintro⟨C,_,rfl⟩;exact dp.2 rfl
  rw[h.zero e];unfold gB fP;rfl
 exact⟨Cs,⟨h.nV.iZ.cZ,h.nV.inv,h.nV.Dp,h.nV.len,h.bT,g.gr,g.add,h.tl e⟩,fun _=>rfl⟩
def gi.dK (h:gi t Ls j Cs)(e:ab t.vars s):0<=gB t Ls j Cs s/\gB t Ls j Cs s<=bH:=by
 obtain⟨f,h1,g⟩:=h.can;rw[g];exact h1.M6 e
def gi.step (h:gi t Ls j Cs){s:J}{op:Nat}(g:ab t.vars s)(i:op<t.M.length)(k:jU t s op)(f:gB t Ls j Cs (cB t s op)<bH):gB t Ls j Cs s<bH/\gB t Ls j Cs s<=(ar t).getD op W.dflt+gB t Ls j Cs (cB t s op):=by
 obtain⟨l,h1,e⟩:=h.can;rw[e]at f;rw[e,e];have:=h1.step g i k f;exact⟨U,U⟩
def gi.aH (h:gi t Ls j Cs){s:J}(e:ab t.vars s)(I:cp s t.aH):gB t Ls j Cs s=0:=by
 obtain⟨f,h1,g⟩:=h.can;rw[g];exact h1.aH e I
end
def Φ {s:Value}{t:aa}{ss:List Value}{Ls:List J}(g:bn w0 a b c d vs t)(i:sk w0 s ss Ls)(l:lc w0)(f:iP t Ls) :
  Calls ai 56 #[.agg #[a,b,c,d],s] w0 fun e w'=>∃ p j Cs,e=.returned (.tuple #[.pointer (some p),.nilIface])/\gi t Ls j Cs/\Z w0 w' [aZ fun w=>oK w p t Ls j Cs]:=by
 refine(OZ g i l).mono fun e w' h=>?_;rcases h with ⟨h,_⟩|⟨_,⟨k,hk,_,n,_⟩,_⟩|⟨_,_,_,_,p,j,Cs,he,h1,o,q,r,u,hk⟩
 ·exact absurd f.Nf h
 ·exact absurd (f.BW hk) n
 exact⟨p,j,Cs,he,⟨f,r,q,h1,o,u⟩,hk⟩
open Classical in
noncomputable def lX (t:aa)(Ls j Cs:List J)(s:J):Int:=if ab t.vars s then gB t Ls j Cs s else 0
def TU {t:aa}{Ls j Cs:List J}(h:ab t.vars s):lX t Ls j Cs s=gB t Ls j Cs s:=aM h
def TV {t:aa}{size:Int}(e:fy t):gp t (df t size)=0:=by
 unfold gp;rw[aC (by rw[(oz t).2 e.cZ];decide),aM fun i f=>(BJ f).qd]
def Χ {t:aa}{size:Int}(e:fy t):dN t (df t size)=10\/(dN t (df t size)=0/\iP t (df t size)):=by
 have h:=EN t size;by_cases f:0<(df t size).length/\j2 (df t size).length (r5 (df t size).length (ga t (df t size) (df t size).length))
 ·left
  unfold dN;rw[aC (by rw[TV e];decide),aC U,aM f]
 right;refine⟨?_,e,h,fun i g=>BJ g,fun i g=>rU (HL e.cZ.pos (BJ g)) e.many,fun k hq=>f ⟨k,hq⟩⟩;unfold dN;rw[aC (by rw[TV e];decide),aC U,aC f]
section
variable {t:aa}{Ls j Cs:List J}
def gi.bL (h:gi t Ls j Cs):BB t (lX t Ls j Cs):=by
 have key:∀ s,0<=lX t Ls j Cs s/\lX t Ls j Cs s<=bH:=fun s=>by
  unfold lX;split
  ·rename_i e;exact h.dK e
  exact⟨dt _,dc⟩
 exact⟨h.nV.iZ.cZ,fun y=>(key y).1,fun y=>(key y).2⟩
def gi.BX (h:gi t Ls j Cs){y q:J}{d:Int}(g:mL t y q d):lX t Ls j Cs y<bH/\lX t Ls j Cs y<=d:=by
 have e:bH=1125899906842624:=rfl;have I:=h.nV.iZ.cZ;have o:=g.nn I;by_cases f:ab t.vars y
 ·rw[TU f]
  induction g with
  | aH r=>rw[h.aH f r];omega
  | @step y op q d i u g v =>
   have k:=g.nn I;have l:=uR I f i;obtain⟨h1,x⟩:=v k l;have n:=h.step f i u h1;rw[vZ i]at n;refine⟨n.1,?_⟩;have z:(t.M.getD op bj).aN=qz t op:=rfl;omega
 have:lX t Ls j Cs y=0:=aC f;omega
end
def oK.at {w0 w:World}{Γ:List HP}{p:Addr}{t:aa}{Ls j Cs:List J}(h:oK w0 p t Ls j Cs)(Y:Z w0 w Γ):oK w p t Ls j Cs:=by
 obtain⟨e,f,g,i,k,h1,l,n,o,q⟩:=h;exact⟨e,f,g,i,k,h1.at Y,l.at Y,n.at Y,o.at Y,q.at Y⟩
def Ψ {t:aa}{Ls j Cs:List J}{sv:Value}(g:oK w0 p t Ls j Cs)(f:gi t Ls j Cs)(h:RS W w0 sv s)(bL:ab t.vars s) :
  Calls ai 326 #[.pointer (some p),sv] w0 fun e w'=>e=.returned (E (gB t Ls j Cs s))/\Z w0 w' []:=by
 rw[<-O0 bL];exact WA g f.nV.len f.dl f.cl f.ci f.nV.E9 f.bT h
def Ω {w:World}{t:aa}{Ls j Cs:List J}(h:oK w p t Ls j Cs)(f:gi t Ls j Cs):fB w (.iface 105 (.pointer (some p))) t (lX t Ls j Cs) :=
 ⟨_,_,_,_,rfl,HH _,inferInstance,fun _ _ _ _ Y e bL=>by
  rw[TU bL]
  exact Ψ (h.at Y) f e bL⟩
def γ {h v:Value}{T:Nat} :
  Calls ai 37 #[.agg #[a,b,c,d],h,.iface T v] w0 fun e w'=>e=.returned (.tuple #[.pointer none,.iface T v])/\Z w0 w' []:=by
 have Y:=Z.start w0;refine bA an Tryz.func37 ?_;refine eE ?_;intro p w Y;exact cR (v:=.pointer none) (v':=.iface T v) rfl rfl rfl ⟨rfl,gm Y⟩
def Β {t:aa}{size:Int}(g:bn w0 a b c d vs t)(k:fy t)(q:lc w0) :
  Calls ai 30 #[.agg #[a,b,c,d],E size] w0 fun e w'=>(dN t (df t size)=10/\e=.returned (.tuple #[.pointer none,bI 10])/\Z w0 w' [])\/∃ p j Cs,e=.returned (.tuple #[.pointer (some p),.nilIface])/\gi t (df t size) j Cs/\Z w0 w' [aZ fun w=>bK w p t (lX t (df t size) j Cs)]:=by
 have I:=k.cZ;have Y:=Z.start w0;refine bA an Tryz.func30 ?_;refine db ?_;intro x w Y;refine aL rfl (TW (g.at Y) k) ?_;rintro _ w' ⟨y,rfl,al⟩;refine aI ?_;clear al Y;intro Y;refine O ?_;obtain⟨os,f⟩:=Y.ct 0 rfl;rcases Χ (size:=size) k with r|⟨r,z⟩
 ·refine aL rfl (OZ (g.at Y) f (q.at Y)) ?_
  rintro _ w' (⟨h1,rfl,al⟩|⟨h1,_⟩|⟨h1,_⟩);rotate_left
  ·omega
  ·omega
  refine aA ?_;clear al Y;intro Y;rw[r,cS (show (10:Int)≠0 by decide)];refine O ?_;refine aL rfl γ ?_;rintro _ w' ⟨rfl,al⟩;refine aA ?_;clear al Y;intro Y;refine O ?_;exact cR (v:=.pointer none) (v':=.iface 57 (E 10)) rfl rfl rfl (.inl ⟨rfl,rfl,gm Y⟩)
 refine aL rfl (Φ (g.at Y) f (q.at Y) z) ?_;rintro _ w' ⟨l,j,Cs,rfl,u,al⟩;refine aI ?_;clear al Y;intro Y;refine O ?_;refine aL rfl (xO (h:=.iface 105 (.pointer (some l))) (H:=lX t (df t size) j Cs) (g.at Y) I ⟨_,_,rfl⟩) ?_;rintro _ w' ⟨i,rfl,al⟩;refine aI ?_;clear al Y;intro Y;refine O ?_;have n:Z w0 w' (([aZ fun w=>fB w (.iface 105 (.pointer (some l))) t (lX t (df t size) j Cs)->bK w i t (lX t (df t size) j Cs),aZ fun w=>oK w l t (df t size) j Cs]:List HP)++[aZ fun w=>∃ A,sk w y A (df t size),ak x 26 [a,b,c,d]]):=Y;have o:=Z.rd (φ:=fun w=>bK w i t (lX t (df t size) j Cs)) (fun _ w h=>(h.ct 0 rfl) (Ω (h.ct 1 rfl) u)) n;exact cR (v:=.pointer (some i)) (v':=.nilIface) rfl rfl rfl (.inr ⟨i,j,Cs,rfl,u,o.only⟩)
def δ {t:aa}{Ls j m:List J}{c:J}{sv:Value}(x:AB w0 p t Ls j m)(y:tk t Ls c j m)(T:Ls.length<=32)(F:∀ i,i<Ls.length->cT t (Ls.getD i [])=0)(H:RS W w0 sv s) :
  Calls ai 329 #[.pointer (some p),sv] w0 fun e w'=>e=.returned (E (gh t Ls j s))/\Z w0 w' []:=by
 obtain⟨V,dv,pv,qs,ps,h1,N,h3,K,h5,h6⟩:=x;have P:=K.1;have Q:=y.dl;have Y:=Z.start w0;refine bA an Tryz.func329 ?_;refine O ?_;refine aL rfl (xR N (H.at Y)) ?_;rintro _ w' ⟨⟨r,rfl,x⟩,al⟩;refine aA ?_;clear al Y;intro Y;cases r
 ·rw[Vr (fun h=>by have:=x.2 h;cases this)]
  refine O ?_;exact bf (v:=E 1125899906842624) rfl rfl ⟨rfl,Y⟩
 have bL:=x.1 rfl;have l:∀ k,k<Ls.length->0<=bJ t Ls j s k/\bJ t Ls j s k<=1125899906842624:=fun k hk=>Gn (FY (F k hk)).2.1 (y.bT k hk) bL;refine O ?_;refine cP [4,5,7,8,23,35] (G:=Nat) (fun k=>[(23,E k),(5,E (js (bJ t Ls j s) k))]) (fun k w=>k<=Ls.length/\(∀ i,i<k->bJ t Ls j s i≠1125899906842624)/\Z w0 w []) (fun k=>Ls.length-k) 0 (fun _=>rfl) ⟨rfl,rfl,az⟩ ⟨bu _,fun i z=>absurd z (dr _),Y⟩ ?_;clear Y;rintro σ k w ⟨hk,o,Y⟩;refine aB ?_ ?_<;>intro h7
 ·have g:k<Ls.length:=U
  obtain⟨q,hq,A⟩:=K.2 k U;have C:=Jh (F k g) (y.bT k g);have u:wQ (nF t (Ls.getD k []) (j.getD k [])) s=bJ t Ls j s k:=Jb bL;have R:=l k g;have S:=Ob (n:=k) (f:=bJ t Ls j s) (B:=1125899906842624) fun i z=>l i U;have D:=ww (bJ t Ls j s) k;refine O ?_;rw[hq];refine aL rfl (N0 (A.at Y) C (H.at Y)) ?_;rintro _ w' ⟨rfl,al⟩;replace Y:=Y.cy al;clear al;rw[u];refine⟨_,rfl,?_⟩;refine aB ?_ ?_<;>intro L
  ·rw[Oc bL g L]
   refine O ?_;exact bf (v:=E 1125899906842624) rfl rfl ⟨rfl,Y⟩
  refine O ?_;refine⟨k+1,⟨rfl,by rw[D];rfl,az⟩,aU,⟨U,fun i z=>?_,Y⟩,U⟩;by_cases e:i=k
  ·subst e;exact L
  exact o i U
 have g:k=Ls.length:=U;subst g;rw[Od bL o];refine O ?_;exact bf (v:=E (js (bJ t Ls j s) Ls.length)) rfl rfl ⟨rfl,Y⟩
open Classical in
noncomputable def lu (t:aa)(Ls j:List J)(s:J):Int:=if ab t.vars s then gh t Ls j s else 0
def TX {t:aa}{Ls j:List J}(h:ab t.vars s):lu t Ls j s=gh t Ls j s:=aM h
def Κ {t:aa}{size:Int}{j m:List J}(e:fy t)(f:tk t (df t size) (ar t) j m):ot t (df t size) j m :=
 ⟨f,e.cZ,fun _ hk=>BJ hk,fun _ hk=>rU (HL e.cZ.pos (BJ hk)) e.many,EN t size⟩
section
variable {t:aa}{Ls j m:List J}
def ot.bL (h:ot t Ls j m):BB t (lu t Ls j):=by
 have key:∀ s,0<=lu t Ls j s/\lu t Ls j s<=bH:=fun s=>by
  unfold lu;split
  ·rename_i e;exact(h.pQ e).2.2
  exact⟨dt _,dc⟩
 exact⟨h.cZ,fun y=>(key y).1,fun y=>(key y).2⟩
def ot.BX (h:ot t Ls j m){y q:J}{d:Int}(g:mL t y q d):lu t Ls j y<bH/\lu t Ls j y<=d:=by
 have e:bH=1125899906842624:=rfl;have o:=g.nn h.cZ;by_cases f:ab t.vars y
 ·rw[TX f]
  induction g with
  | aH r=>rw[h.aH f r];omega
  | @step y op q d i u g v =>
   have k:=g.nn h.cZ;have l:=uR h.cZ f i;obtain⟨h1,x⟩:=v k l;have n:=h.step f i u h1;rw[vZ i]at n;refine⟨n.1,?_⟩;have z:(t.M.getD op bj).aN=qz t op:=rfl;omega
 have:lu t Ls j y=0:=aC f;omega
end
def ε {t:aa}{size:Int}(e:fy t):nW t (df t size)=0:=by
 have I:=(oz t).2 e.cZ;have g:=EN t size;unfold nW;rw[aC (by rw[I];decide),aC (fun⟨i,f,h⟩=>h (BJ f).qd),aC U]
def ζ {w:World}{t:aa}{size:Int}{j m:List J}(f:fy t)(h:AB w p t (df t size) j m)(g:tk t (df t size) (ar t) j m):fB w (.iface 108 (.pointer (some p))) t (lu t (df t size) j) :=
 ⟨_,_,_,_,rfl,HH _,inferInstance,fun _ _ _ _ Y e bL=>by
  rw[TX bL]
  exact δ (h.at Y) g (EN t size) (fun _ i=>TY f i) e⟩
def Θ {t:aa}{size:Int}(l:bn w0 a b c d vs t)(f:fy t) :
  Calls ai 31 #[.agg #[a,b,c,d],E size] w0 fun e w'=>∃ p j m,e=.returned (.tuple #[.pointer (some p),.nilIface])/\tk t (df t size) (ar t) j m/\Z w0 w' [aZ fun w=>bK w p t (lu t (df t size) j)]:=by
 have I:=f.cZ;have Y:=Z.start w0;refine bA an Tryz.func31 ?_;refine db ?_;intro u w Y;refine aL rfl (TW (l.at Y) f) ?_;rintro _ w' ⟨x,rfl,al⟩;refine aI ?_;clear al Y;intro Y;obtain⟨os,g⟩:=Y.ct 0 rfl;refine O ?_;obtain⟨os,g⟩:=Y.ct 0 rfl;refine aL rfl (η (l.at Y) g (fun _ _ _ i y=>TY f y)) ?_;rintro _ w' (⟨h1,_⟩|⟨_,_,_,_,n,j,m,rfl,r,al⟩)
 ·exact absurd (ε f) h1
 refine aI ?_;clear al Y;intro Y;refine O ?_;refine aL rfl (xO (h:=.iface 108 (.pointer (some n))) (H:=lu t (df t size) j) (l.at Y) I ⟨_,_,rfl⟩) ?_;rintro _ w' ⟨k,rfl,al⟩;refine aI ?_;clear al Y;intro Y;refine O ?_;have o:Z w0 w' (([aZ fun w=>fB w (.iface 108 (.pointer (some n))) t (lu t (df t size) j)->bK w k t (lu t (df t size) j),aZ fun w=>AB w n t (df t size) j m]:List HP)++[aZ fun w=>∃ z,sk w x z (df t size),ak u 26 [a,b,c,d]]):=Y;have q:=Z.rd (φ:=fun w=>bK w k t (lu t (df t size) j)) (fun _ w h=>(h.ct 0 rfl) (ζ f (h.ct 1 rfl) r)) o;exact cR (v:=.pointer (some k)) (v':=.nilIface) rfl rfl rfl ⟨k,j,m,rfl,r,q.only⟩
end
end Go.Proofs.YtmapkjoefdgjfaaGreatDoor
