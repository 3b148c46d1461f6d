/- Several texts. -/
import Derived.Test.YtmapkjoefdgjfaaGreatDoorMW20E
set_option linter.unusedSimpArgs false
set_option linter.unusedVariables false
set_option linter.defProp false
set_option maxRecDepth 8000
set_option maxHeartbeats 16000000
open List Nat
namespace Go.Proofs.YtmapkjoefdgjfaaGreatDoor
section
open Go.Sl Go
attribute [local irreducible] vc opsW opsD opV opW PureV ReadV Thn Blk
def oK (w:World)(p:Addr)(t:aa)(Ls m Cs:List J):Prop:=∃ a b c d e,dL w p [a,b,c]/\RS W w a t.vars/\RS ap w b d/\kQ t Ls d m w/\sk w c e Cs
open Classical in
noncomputable def dN (t:aa)(Ls:List J):Int:=if gp t Ls≠0 then gp t Ls else if 32<Ls.length then 5 else if 0<Ls.length/\j2 Ls.length (r5 Ls.length (ga t Ls Ls.length)) then 10 else 0
def Wt {t:aa}{Ls:List J}(h:gp t Ls≠0):dN t Ls=gp t Ls:=by rw[dN,aM h]
def Wu {t:aa}{Ls:List J}(h:gp t Ls=0)(h1:32<Ls.length):dN t Ls=5:=by rw[dN,aC (by simp[h]),aM h1]
def Wv {t:aa}{Ls:List J}(h:gp t Ls=0)(a:0<Ls.length)(h1:Ls.length<=32)(b:j2 Ls.length (r5 Ls.length (ga t Ls Ls.length))):dN t Ls=10:=by rw[dN,aC (by simp[h]),aC U,aM ⟨a,b⟩]
def Ww {t:aa}{Ls:List J}(h:gp t Ls=0)(a:Ls.length=0):dN t Ls=0:=by rw[dN,aC (by simp[h]),aC U,aC U]
def Wx {n:Nat}{N:Nat->Nat}{Cs:List J}(a:kG n N Cs)(g:Cs.length<=4096):¬j2 n N:=by
 rintro⟨b,c,d,hm⟩;have h1:=Ox c hm;have e:=OY h1 (M':=Cs) fun x hx=>by
  obtain⟨C,f,rfl⟩:=iS.1 hx;exact(a _).2 ⟨C,hm C f,rfl⟩
 rw[iz]at e;omega
def Wy {t:aa}{Ls Cs:List J}(h:gp t Ls=0)(h1:Ls.length<=32)(a:kG Ls.length (r5 Ls.length (ga t Ls Ls.length)) Cs)(b:Cs.length<=4096):dN t Ls=0:=by rw[dN,aC (by simp[h]),aC U,aC (fun c=>Wx a b c.2)]
def OZ {w0:World}{a b c d s:Value}{vs:List iW}{t:aa}{ss:List Value}{Ls:List J}(ht:bn w0 a b c d vs t)(hl:sk w0 s ss Ls)(hT:lc w0) :
  Calls ai 56 #[.agg #[a,b,c,d],s] w0 fun e w' =>
   (dN t Ls≠0/\e=.returned (.tuple #[.pointer none,bI (dN t Ls)])/\Z w0 w' []) \/
   (dN t Ls=0/\(∃ k,k<Ls.length/\(∀ i,i<k->iG t (Ls.getD i []) []=0)/\iG t (Ls.getD k []) []≠0/\e=.returned (.tuple #[.pointer none,bI (iG t (Ls.getD k []) [])]))/\Z w0 w' []) \/
   (dN t Ls=0/\gp t Ls=0/\Ls.length<=32/\(∀ i,i<Ls.length->iG t (Ls.getD i []) []=0)/\∃ p m Cs,e=.returned (.tuple #[.pointer (some p),.nilIface])/\(Ls=[]->Cs=[])/\(Ls≠[]->kG Ls.length (r5 Ls.length (ga t Ls Ls.length)) Cs)/\Cs.length<=4096/\m.length=Ls.length/\(∀ i,i<Ls.length->cN (bS t (Ls.getD i [])) (uD t []) (fq t (Ls.getD i [])) (br t.vars (Ls.getD i [])).toNat (m.getD i []))/\Z w0 w' [aZ fun w=>oK w p t Ls m Cs]):=by
 have H':=ht;obtain⟨ha,P,hc,hd⟩:=ht;have _d:=hl.rs;have _g:=hl.len;have _h:=_d.bU;have Y:=Z.start w0;refine bA an Tryz.func56 ?_;refine eE ?_;intro pt w Y;refine aL rfl (VU (H'.at Y) (hl.at Y) (hT.at Y)) ?_;rintro _ w' hR;rcases hR with ⟨hk,rfl,al⟩|⟨hk,u,rfl,al⟩|⟨hk,hz,rfl,al⟩|⟨hk,h0,u,hF,rfl,al⟩|⟨hk,h0,u,B,K,Cs,rfl,_f,_c,j',al⟩
 ·have l:=Wt hk
  replace Y:=Y.cy al;refine⟨_,rfl,?_⟩;rw[l,cS hk];refine O ?_;exact cR (v:=.pointer none) (v':=.iface 57 (E (gp t Ls))) rfl rfl rfl (.inl ⟨hk,rfl,Y.aY⟩)
 ·have l:=Wu hk u
  replace Y:=Y.cy al;refine⟨_,rfl,?_⟩;rw[l];refine O ?_;exact cR (v:=.pointer none) (v':=bI 5) rfl rfl rfl (.inl ⟨dc,rfl,Y.aY⟩)
 ·have l:=Ww hk hz
  have u:Ls.length<=32:=U;replace Y:=((Y.cy al).nil (T:=ap) (e:=22)).qK (T:=W) (e:=3);clear al;refine⟨_,rfl,?_⟩
  have I:aG t:=(oz t).1 (by
   by_cases h:bM t=0
   ·exact h
   exact absurd hk (by rw[gp,aM h];exact h))
  have J':t.vars.length<=1099511627776:=by have:=I.vars;omega
  refine O ?_;refine aL rfl (ns (ha.at Y) J') ?_;rintro _ w' ⟨f,rfl,al⟩;refine aI ?_;clear al Y;intro Y;have P':=(Y.rs 0 rfl).one;have R':=(Y.rs 2 rfl).one;refine O ?_;refine zH (v1:=f) (v2:=nS) rfl rfl rfl (by simp only[eD,eN,P',R'];rfl) ?_;refine yo (vs:=[f,nS,nS]) rfl Y ?_;clear Y;intro pp w Y;refine O ?_;have g:Z w0 w [aZ (kQ t Ls [] []),X ap 149 (nS) [],ak pp 148 [f,nS,nS],X W 3 f t.vars,aj W 3 [] [],X ap 22 (nS) [],ak pt 26 [a,b,c,d]]:=by
   have C:Z w0 w [ak pp 148 [f,nS,nS],X W 3 f t.vars,aj W 3 [] [],X ap 22 (nS) [],ak pt 26 [a,b,c,d]]:=Y;have F:=Z.pR (φ:=kQ t Ls [] []) (fun w=>⟨rfl,fun i j=>absurd j (dr _)⟩) (C.nil (T:=ap) (e:=149));exact F.aY
  clear Y;refine cP [4,5,10,12,30,53] (G:=Nat × Value × List Value × List J) (fun x=>[(30,E x.1)]) (fun x w=>x.1<=Ls.length/\x.2.2.1.length=x.1/\x.2.2.2.length=x.1/\(∀ i,i<x.1->iG t (Ls.getD i []) []=0/\cN (bS t (Ls.getD i [])) (uD t []) (fq t (Ls.getD i [])) (br t.vars (Ls.getD i [])).toNat (x.2.2.2.getD i []))/\Z w0 w [aZ (kQ t Ls x.2.2.1 x.2.2.2),X ap 149 x.2.1 x.2.2.1,ak pp 148 [f,x.2.1,nS],X W 3 f t.vars,aj W 3 [] [],X ap 22 (nS) [],ak pt 26 [a,b,c,d]]) (fun x=>Ls.length-x.1) (0,nS,[],[]) (fun _=>rfl) ⟨rfl,az⟩ ⟨bu _,rfl,rfl,fun i j=>absurd j (dr _),g⟩ ?_;clear g;rintro σ ⟨k,Q,r,m⟩ w ⟨T',R,n,S,Y⟩;simp only at T' R n S Y;refine aB ?_ ?_<;>intro h1
  ·have V:k<Ls.length:=U
   have V':=hl.dJ k V;refine O ?_;refine aL rfl (Ji (kv:=nS) (vp:=cG ss k) (L:=Ls.getD k []) (cs:=[]) (H'.at Y) (V'.at Y) RS.nil) ?_;rintro _ w' (⟨P,rfl,al⟩|⟨P,hp,_,_,q,D,rfl,_a,al⟩)
   ·replace Y:=Y.cy al
    clear al;refine⟨_,rfl,?_⟩;rw[cS P];refine O ?_;exact cR (v:=.pointer none) (v':=.iface 57 (E (iG t (Ls.getD k []) []))) rfl rfl rfl (.inr (.inl ⟨l,⟨k,V,fun i j=>(S i j).1,P,by rw[cS P]⟩,Y.aY⟩))
   replace Y:=Y.mu al;clear al;refine⟨_,rfl,?_⟩;have _e:r.length<=32:=U
   repeat (first|refine du ?_|(refine qB ?_;clear Y;intro w Y)|(refine fA ?_;clear Y;intro s w Y))
   obtain⟨H,rfl⟩:=À s;have g:Z w0 w [rZ q (nF t (Ls.getD k []) D),aZ (kQ t Ls r m),X ap 149 H (r++[.pointer (some q)]),ak pp 148 [f,H,nS],X W 3 f t.vars,aj W 3 [] [],X ap 22 (nS) [],ak pt 26 [a,b,c,d]]:=Y.tail;have F:=Z.Bh (χ:=kQ t Ls (r++[.pointer (some q)]) (m++[D])) (fun w h1 h2=>h2.eQ (by rw[n];exact h1)) (Z.rd (Δ:=[rZ q (nF t (Ls.getD k []) D)]) (φ:=fun w=>v7 w q (nF t (Ls.getD k []) D)) (fun _ _ h=>rH h 0 rfl) g);refine⟨(k+1,H,r++[.pointer (some q)],m++[D]),⟨rfl,az⟩,aU,⟨U,by simp[R],by simp[n],fun i j=>?_,F.aY⟩,by simp only;omega⟩;by_cases h:i=k
   ·subst h
    refine⟨P,?_⟩;rw[show (m++[D]).getD i []=D by simp[List.getD,Gm,n]];exact _a
   have:=S i U;rw[show (m++[D]).getD i []=m.getD i [] by simp[List.getD,Gm,show i<m.length by omega]];exact this
  have _b:k=Ls.length:=U;subst _b;refine O ?_;have g:Z w0 w [aZ (kQ t Ls r m),X ap 149 Q r,ak pp 148 [f,Q,nS],X W 3 f t.vars,aj W 3 [] [],X ap 22 (nS) []]:=Y.aY;have C:=Z.rd (Δ:=[aZ (kQ t Ls r m),X ap 149 Q r,ak pp 148 [f,Q,nS],X W 3 f t.vars,aj W 3 [] [],X ap 22 (nS) []]) (Γ:=[]) (φ:=fun w=>oK w pp t Ls m []) (fun _ w h=>⟨f,Q,nS,r,[],h.gn 2 rfl,h.rs 3 rfl,h.rs 1 rfl,h.ct 0 rfl,h.rs 5 rfl,(h.bQ 4 rfl).cb,fun i j=>(h.bQ 4 rfl).row j⟩) g;exact cR (v:=.pointer (some pp)) (v':=.nilIface) rfl rfl rfl (.inr (.inr ⟨l,hk,u,fun i j=>(S i j).1,pp,m,[],rfl,fun _=>rfl,fun h=>absurd (n0 hz) h,bu _,n,fun i j=>(S i j).2,C⟩))
 ·have l:=Wv hk h0 u hF
  replace Y:=Y.cy al;refine⟨_,rfl,?_⟩;rw[l];refine O ?_;exact cR (v:=.pointer none) (v':=bI 10) rfl rfl rfl (.inl ⟨dc,rfl,Y.aY⟩)
 have l:=Wy hk u _c j';refine iM ?_;clear al Y;intro Y
 have I:aG t:=(oz t).1 (by
  by_cases h:bM t=0
  ·exact h
  exact absurd hk (by rw[gp,aM h];exact h))
 have J':t.vars.length<=1099511627776:=by have:=I.vars;omega
 refine O ?_;refine aL rfl (ns (ha.at Y) J') ?_;rintro _ w' ⟨f,rfl,al⟩;refine aI ?_;clear al Y;intro Y;have P':=(Y.rs 0 rfl).one;have R':=(Y.rs 2 rfl).one;refine O ?_;refine zH (v1:=f) (v2:=B) rfl rfl rfl (by simp only[eD,eN,P',R'];rfl) ?_;refine yo (vs:=[f,nS,B]) rfl Y ?_;clear Y;intro pp w Y;refine O ?_;have g:Z w0 w [aZ (kQ t Ls [] []),X ap 149 (nS) [],ak pp 148 [f,nS,B],X W 3 f t.vars,aj W 3 K Cs,X ap 22 B K,ak pt 26 [a,b,c,d]]:=by
  have C:Z w0 w [ak pp 148 [f,nS,B],X W 3 f t.vars,aj W 3 K Cs,X ap 22 B K,ak pt 26 [a,b,c,d]]:=Y;have F:=Z.pR (φ:=kQ t Ls [] []) (fun w=>⟨rfl,fun i j=>absurd j (dr _)⟩) (C.nil (T:=ap) (e:=149));exact F.aY
 clear Y;refine cP [4,5,10,12,30,53] (G:=Nat × Value × List Value × List J) (fun x=>[(30,E x.1)]) (fun x w=>x.1<=Ls.length/\x.2.2.1.length=x.1/\x.2.2.2.length=x.1/\(∀ i,i<x.1->iG t (Ls.getD i []) []=0/\cN (bS t (Ls.getD i [])) (uD t []) (fq t (Ls.getD i [])) (br t.vars (Ls.getD i [])).toNat (x.2.2.2.getD i []))/\Z w0 w [aZ (kQ t Ls x.2.2.1 x.2.2.2),X ap 149 x.2.1 x.2.2.1,ak pp 148 [f,x.2.1,B],X W 3 f t.vars,aj W 3 K Cs,X ap 22 B K,ak pt 26 [a,b,c,d]]) (fun x=>Ls.length-x.1) (0,nS,[],[]) (fun _=>rfl) ⟨rfl,az⟩ ⟨bu _,rfl,rfl,fun i j=>absurd j (dr _),g⟩ ?_;clear g;rintro σ ⟨k,Q,r,m⟩ w ⟨T',R,n,S,Y⟩;simp only at T' R n S Y;refine aB ?_ ?_<;>intro h1
 ·have V:k<Ls.length:=U
  have V':=hl.dJ k V;refine O ?_;refine aL rfl (Ji (kv:=nS) (vp:=cG ss k) (L:=Ls.getD k []) (cs:=[]) (H'.at Y) (V'.at Y) RS.nil) ?_;rintro _ w' (⟨P,rfl,al⟩|⟨P,hp,_,_,q,D,rfl,_a,al⟩)
  ·replace Y:=Y.cy al
   clear al;refine⟨_,rfl,?_⟩;rw[cS P];refine O ?_;exact cR (v:=.pointer none) (v':=.iface 57 (E (iG t (Ls.getD k []) []))) rfl rfl rfl (.inr (.inl ⟨l,⟨k,V,fun i j=>(S i j).1,P,by rw[cS P]⟩,Y.aY⟩))
  replace Y:=Y.mu al;clear al;refine⟨_,rfl,?_⟩;have _e:r.length<=32:=U
  repeat (first|refine du ?_|(refine qB ?_;clear Y;intro w Y)|(refine fA ?_;clear Y;intro s w Y))
  obtain⟨H,rfl⟩:=À s;have g:Z w0 w [rZ q (nF t (Ls.getD k []) D),aZ (kQ t Ls r m),X ap 149 H (r++[.pointer (some q)]),ak pp 148 [f,H,B],X W 3 f t.vars,aj W 3 K Cs,X ap 22 B K,ak pt 26 [a,b,c,d]]:=Y.tail;have F:=Z.Bh (χ:=kQ t Ls (r++[.pointer (some q)]) (m++[D])) (fun w h1 h2=>h2.eQ (by rw[n];exact h1)) (Z.rd (Δ:=[rZ q (nF t (Ls.getD k []) D)]) (φ:=fun w=>v7 w q (nF t (Ls.getD k []) D)) (fun _ _ h=>rH h 0 rfl) g);refine⟨(k+1,H,r++[.pointer (some q)],m++[D]),⟨rfl,az⟩,aU,⟨U,by simp[R],by simp[n],fun i j=>?_,F.aY⟩,by simp only;omega⟩;by_cases h:i=k
  ·subst h
   refine⟨P,?_⟩;rw[show (m++[D]).getD i []=D by simp[List.getD,Gm,n]];exact _a
  have:=S i U;rw[show (m++[D]).getD i []=m.getD i [] by simp[List.getD,Gm,show i<m.length by omega]];exact this
 have _b:k=Ls.length:=U;subst _b;refine O ?_;have g:Z w0 w [aZ (kQ t Ls r m),X ap 149 Q r,ak pp 148 [f,Q,B],X W 3 f t.vars,aj W 3 K Cs,X ap 22 B K]:=Y.aY;have C:=Z.rd (Δ:=[aZ (kQ t Ls r m),X ap 149 Q r,ak pp 148 [f,Q,B],X W 3 f t.vars,aj W 3 K Cs,X ap 22 B K]) (Γ:=[]) (φ:=fun w=>oK w pp t Ls m Cs) (fun _ w h=>⟨f,Q,B,r,K,h.gn 2 rfl,h.rs 3 rfl,h.rs 1 rfl,h.ct 0 rfl,h.rs 5 rfl,(h.bQ 4 rfl).cb,fun i j=>(h.bQ 4 rfl).row j⟩) g;exact cR (v:=.pointer (some pp)) (v':=.nilIface) rfl rfl rfl (.inr (.inr ⟨l,hk,u,fun i j=>(S i j).1,pp,m,Cs,rfl,fun h=>absurd (show Ls.length=0 by rw[h];rfl) U,fun _=>_c,j',n,fun i j=>(S i j).2,C⟩))
open Classical in
noncomputable def BN (t:aa)(Ls m Cs:List J)(s:J):Int:=if ab t.vars s then gB t Ls m Cs s else 1125899906842624
def Wz {t:aa}{Ls m Cs:List J}{s:J}(h:¬ab t.vars s):BN t Ls m Cs s=1125899906842624:=aC h
def O0 {t:aa}{Ls m Cs:List J}{s:J}(h:ab t.vars s):BN t Ls m Cs s=gB t Ls m Cs s:=aM h
def WA {w0:World}{p:Addr}{t:aa}{Ls m Cs:List J}{sv:Value}{s:J}(K:oK w0 p t Ls m Cs)(hl:Ls.length<=32)(L:m.length=Ls.length)(J':Cs.length<=4096)(g:∀ l∈Cs,∀ i∈l,0<=i/\i<Ls.length)(V:∀ i,i<Ls.length->cT t (Ls.getD i [])=0)(hD:∀ i,i<Ls.length->cN (bS t (Ls.getD i [])) (ar t) (fq t (Ls.getD i [])) (br t.vars (Ls.getD i [])).toNat (m.getD i []))(hs:RS W w0 sv s) :
  Calls ai 326 #[.pointer (some p),sv] w0 fun e w'=>e=.returned (E (BN t Ls m Cs s))/\Z w0 w' []:=by
 obtain⟨vv,dv,cv,qs,fs,h1,h2,h3,h4,P⟩:=K;have Q:=h4.1.trans L;have P':=P.len;have R':=P.rs;have Y:=Z.start w0;refine bA an Tryz.func326 ?_;refine O ?_;refine aL rfl (xR h2 (hs.at Y)) ?_;rintro _ w' ⟨⟨r,rfl,K⟩,al⟩;refine aA ?_;clear al Y;intro Y;cases r
 ·rw[Wz (fun h=>by have:=K.2 h;cases this)]
  refine O ?_;exact bf (v:=E 1125899906842624) rfl rfl ⟨rfl,Y⟩
 have bL:=K.1 rfl;rw[O0 bL];have u:∀ k,k<Ls.length->0<=(bJ t Ls m s) k/\(bJ t Ls m s) k<=1125899906842624:=fun k hk=>Gn (FY (V k hk)).2.1 (hD k hk) bL;refine l7 ?_;intro s w Y;obtain⟨c,rfl⟩:=À s;rw[Q,jo,<-JT _ (bJ t Ls m s)]at Y;refine cP [6,7,34,45] (G:=Nat) (fun k=>[(34,E k)]) (fun k w=>k<=Ls.length/\Z w0 w [X W 3 c (eF Ls.length (bJ t Ls m s) k)]) (fun k=>Ls.length-k) 0 (fun _=>rfl) ⟨rfl,az⟩ ⟨bu _,Y⟩ ?_;clear Y;rintro σ k w ⟨hk,Y⟩;have j':=DD Ls.length (bJ t Ls m s) k;refine aB ?_ ?_<;>intro h7
 ·have a:k<Ls.length:=U
  obtain⟨q,hq,j⟩:=h4.2 k U;have B:=Jh (V k a) (hD k a);have d:wQ (nF t (Ls.getD k []) (m.getD k [])) s=(bJ t Ls m s) k:=Jb bL;refine O ?_;rw[hq];refine aL rfl (N0 (j.at Y) B (hs.at Y)) ?_;rintro _ w' ⟨rfl,al⟩;replace Y:=Y.cy al;clear al;rw[d];refine⟨_,rfl,?_⟩;refine fm ?_;intro w Y;rw[show (eF Ls.length (bJ t Ls m s) k).set k ((bJ t Ls m s) k)=eF Ls.length (bJ t Ls m s) (k+1) from JU]at Y;exact⟨k+1,⟨rfl,az⟩,aU,⟨U,Y⟩,U⟩
 have d:k=Ls.length:=U;subst d;refine O ?_;refine dQ [8,8,10,11,13,13,51,72] (G:=Nat) (H:=Int) (fun k b=>[(51,E k),(8,E b)]) (fun k b w=>k<=Cs.length/\b=fP (bJ t Ls m s) (Cs.take k)/\Z w0 w [X W 3 c (eF Ls.length (bJ t Ls m s) Ls.length)]) (fun k _=>Cs.length-k) 0 0 (fun _ _=>rfl) ⟨rfl,rfl,az⟩ ⟨bu _,rfl,Y⟩ ?_;clear Y;rintro σ k b w ⟨hk,R,Y⟩;refine aB ?_ ?_<;>intro h8
 ·have a:k<Cs.length:=U
  have B:=P.dJ k a;obtain⟨C,S⟩:=À (Cs.getD k []);have D:C∈Cs:=by rw[S];exact cH [] a
  rw[<-S]at B;have T':=B.bU;refine O ?_;refine dQ [11,11,13,13,57,68] (G:=Nat) (H:=Int) (fun j x=>[(57,E j),(11,E x)]) (fun j x w=>j<=C.length/\x=mj (bJ t Ls m s) (C.take j)/\Z w0 w [X W 3 c (eF Ls.length (bJ t Ls m s) Ls.length)]) (fun j _=>C.length-j) 0 0 (fun _ _=>rfl) ⟨rfl,rfl,az⟩ ⟨bu _,rfl,Y⟩ ?_;clear Y;rintro V' j x w ⟨hj,hx,Y⟩;refine aB ?_ ?_<;>intro h9
  ·have F:j<C.length:=U
   have H':=g C D _ (cH W.dflt F);have T:=O1 (n:=Ls.length) (f:=(bJ t Ls m s)) (k:=Ls.length) (i:=(C.getD j W.dflt).toNat) U U;have _a:=u (C.getD j W.dflt).toNat U;have _b:=WB (f:=(bJ t Ls m s)) (l:=C.take j) fun i hi=>(u i.toNat (by have:=g C D i (pO hi);omega)).1;have e2:bH=1125899906842624:=rfl;refine O ?_;refine⟨j+1,_,⟨rfl,rfl,az⟩,aU,⟨U,?_,Y⟩,U⟩;rw[eC W.dflt F,O2,T,hx];split<;>omega
  have F:j=C.length:=U;subst F;refine O ?_;refine⟨k+1,_,⟨rfl,rfl,az⟩,aU,⟨U,?_,Y⟩,U⟩;rw[eC [] a,JV,R,hx,<-S,kV];split<;>omega
 have d:k=Cs.length:=U;subst d;rw[kV]at R;refine O ?_;exact bf (v:=E b) rfl rfl ⟨by rw[R];rfl,gm Y⟩
end
section
open Go.Sl Go
section
variable {t:aa}{Ls m Cs z y o:List J}{N A:Nat->Nat}
end
section
variable {t:aa}
variable {m Cs:List J}{N:Nat->Nat}
end
structure MW (t:aa) (Ls:List J) (N:Nat->Nat):Prop where
 gr:Gr Ls.length N
 add:∀ u v,u<Ls.length->v<Ls.length->(ib (N u) v↔u≠v/\mX t (Ls.getD u []) (Ls.getD v []))
def MX (t:aa)(Ls:List J):MW t Ls (r5 Ls.length (ga t Ls Ls.length)) :=
 ⟨Oz JW,fun u v hu hv=>by rw[DE JW,WC hu hv]⟩
end
section
open Go.Sl Go
attribute [local irreducible] vc opsW opsD opV opW PureV ReadV Thn Blk

end
end Go.Proofs.YtmapkjoefdgjfaaGreatDoor
