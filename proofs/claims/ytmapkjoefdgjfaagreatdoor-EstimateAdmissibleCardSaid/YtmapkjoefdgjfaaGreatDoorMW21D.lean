/- Several texts. -/
import Derived.Test.YtmapkjoefdgjfaaGreatDoorMW20D
set_option linter.unusedSimpArgs false
set_option linter.unusedVariables false
set_option linter.defProp false
set_option maxRecDepth 8000
set_option maxHeartbeats 16000000
open List Nat
namespace Go.Proofs.YtmapkjoefdgjfaaGreatDoor
section
open Go.Sl Go
attribute [local irreducible] vc opsW opsD opV opW PureV ReadV Thn Blk
def oH (w:World)(p:Addr)(t:aa)(Ls m Cs:List J):Prop:=∃ a b c d e,dO w p [a,b,c]/\RS O w a t.vars/\RS ar w b d/\kR t Ls d m w/\sh w c e Cs
open Classical in
noncomputable def dJ (t:aa)(Ls:List J):Int:=if gp t Ls≠0 then gp t Ls else if 32<Ls.length then 5 else if 0<Ls.length/\j1 Ls.length (rU Ls.length (gd t Ls Ls.length)) then 10 else 0
def VT {t:aa}{Ls:List J}(h:gp t Ls≠0):dJ t Ls=gp t Ls:=by rw[dJ,aP h]
def VU {t:aa}{Ls:List J}(h:gp t Ls=0)(h1:32<Ls.length):dJ t Ls=5:=by rw[dJ,aH (by simp[h]),aP h1]
def VV {t:aa}{Ls:List J}(h:gp t Ls=0)(a:0<Ls.length)(h1:Ls.length<=32)(b:j1 Ls.length (rU Ls.length (gd t Ls Ls.length))):dJ t Ls=10:=by rw[dJ,aH (by simp[h]),aH U,aP ⟨a,b⟩]
def VW {t:aa}{Ls:List J}(h:gp t Ls=0)(a:Ls.length=0):dJ t Ls=0:=by rw[dJ,aH (by simp[h]),aH U,aH U]
def VX {n:Nat}{N:Nat->Nat}{Cs:List J}(a:kJ n N Cs)(g:Cs.length<=4096):¬j1 n N:=by
 rintro⟨b,c,d,hm⟩;have h1:=Oh c hm;have e:=OK h1 (M':=Cs) fun x hx=>by
  obtain⟨C,f,rfl⟩:=iQ.1 hx;exact(a _).2 ⟨C,hm C f,rfl⟩
 rw[iW]at e;omega
def VY {t:aa}{Ls Cs:List J}(h:gp t Ls=0)(h1:Ls.length<=32)(a:kJ Ls.length (rU Ls.length (gd t Ls Ls.length)) Cs)(b:Cs.length<=4096):dJ t Ls=0:=by rw[dJ,aH (by simp[h]),aH U,aH (fun c=>VX a b c.2)]
def OL {w0:World}{a b c d s:Value}{vs:List iX}{t:aa}{ss:List Value}{Ls:List J}(ht:bz w0 a b c d vs t)(hl:sh w0 s ss Ls)(hT:la w0) :
  Calls aj 56 #[.agg #[a,b,c,d],s] w0 fun e w' =>
   (dJ t Ls≠0/\e=.returned (.tuple #[.pointer none,bO (dJ t Ls)])/\M w0 w' []) \/
   (dJ t Ls=0/\(∃ k,k<Ls.length/\(∀ i,i<k->iE t (Ls.getD i []) []=0)/\iE t (Ls.getD k []) []≠0/\e=.returned (.tuple #[.pointer none,bO (iE t (Ls.getD k []) [])]))/\M w0 w' []) \/
   (dJ t Ls=0/\gp t Ls=0/\Ls.length<=32/\(∀ i,i<Ls.length->iE t (Ls.getD i []) []=0)/\∃ p m Cs,e=.returned (.tuple #[.pointer (some p),.nilIface])/\(Ls=[]->Cs=[])/\(Ls≠[]->kJ Ls.length (rU Ls.length (gd t Ls Ls.length)) Cs)/\Cs.length<=4096/\m.length=Ls.length/\(∀ i,i<Ls.length->cH (bM t (Ls.getD i [])) (uy t []) (fx t (Ls.getD i [])) (bp t.vars (Ls.getD i [])).toNat (m.getD i []))/\M w0 w' [bj fun w=>oH w p t Ls m Cs]):=by
 have H':=ht;obtain⟨ha,P,hc,hd⟩:=ht;have _d:=hl.rs;have _g:=hl.len;have _h:=_d.bT;have Y:=M.start w0;refine bB ao Tryz.func56 ?_;refine eB ?_;intro pt w Y;refine aU rfl (Vm (H'.at Y) (hl.at Y) (hT.at Y)) ?_;rintro _ w' hR;rcases hR with ⟨hk,rfl,an⟩|⟨hk,u,rfl,an⟩|⟨hk,hz,rfl,an⟩|⟨hk,h0,u,hF,rfl,an⟩|⟨hk,h0,u,B,K,Cs,rfl,_f,_c,j',an⟩
 ·have l:=VT hk
  replace Y:=Y.cr an;refine⟨_,rfl,?_⟩;rw[l,dq hk];refine W ?_;exact cX (v:=.pointer none) (v':=.iface 57 (E (gp t Ls))) rfl rfl rfl (.inl ⟨hk,rfl,Y.bb⟩)
 ·have l:=VU hk u
  replace Y:=Y.cr an;refine⟨_,rfl,?_⟩;rw[l];refine W ?_;exact cX (v:=.pointer none) (v':=bO 5) rfl rfl rfl (.inl ⟨dc,rfl,Y.bb⟩)
 ·have l:=VW hk hz
  have u:Ls.length<=32:=U;replace Y:=((Y.cr an).nil (T:=ar) (e:=22)).qH (T:=O) (e:=3);clear an;refine⟨_,rfl,?_⟩
  have I:aC t:=(rQ t).1 (by
   by_cases h:bX t=0
   ·exact h
   exact absurd hk (by rw[gp,aP h];exact h))
  have J':t.vars.length<=1099511627776:=by have:=I.vars;omega
  refine W ?_;refine aU rfl (nH (ha.at Y) J') ?_;rintro _ w' ⟨f,rfl,an⟩;refine aL ?_;clear an Y;intro Y;have P':=(Y.rs 0 rfl).one;have R':=(Y.rs 2 rfl).one;refine W ?_;refine zA (v1:=f) (v2:=nS) rfl rfl rfl (by simp only[ew,eN,P',R'];rfl) ?_;refine yj (vs:=[f,nS,nS]) rfl Y ?_;clear Y;intro pp w Y;refine W ?_;have g:M w0 w [bj (kR t Ls [] []),X ar 149 (nS) [],ak pp 148 [f,nS,nS],X O 3 f t.vars,ai O 3 [] [],X ar 22 (nS) [],ak pt 26 [a,b,c,d]]:=by
   have C:M w0 w [ak pp 148 [f,nS,nS],X O 3 f t.vars,ai O 3 [] [],X ar 22 (nS) [],ak pt 26 [a,b,c,d]]:=Y;have F:=M.pN (φ:=kR t Ls [] []) (fun w=>⟨rfl,fun i j=>absurd j (dx _)⟩) (C.nil (T:=ar) (e:=149));exact F.bb
  clear Y;refine cN [4,5,10,12,30,53] (G:=Nat × Value × List Value × List J) (fun x=>[(30,E x.1)]) (fun x w=>x.1<=Ls.length/\x.2.2.1.length=x.1/\x.2.2.2.length=x.1/\(∀ i,i<x.1->iE t (Ls.getD i []) []=0/\cH (bM t (Ls.getD i [])) (uy t []) (fx t (Ls.getD i [])) (bp t.vars (Ls.getD i [])).toNat (x.2.2.2.getD i []))/\M w0 w [bj (kR t Ls x.2.2.1 x.2.2.2),X ar 149 x.2.1 x.2.2.1,ak pp 148 [f,x.2.1,nS],X O 3 f t.vars,ai O 3 [] [],X ar 22 (nS) [],ak pt 26 [a,b,c,d]]) (fun x=>Ls.length-x.1) (0,nS,[],[]) (fun _=>rfl) ⟨rfl,au⟩ ⟨br _,rfl,rfl,fun i j=>absurd j (dx _),g⟩ ?_;clear g;rintro σ ⟨k,Q,r,m⟩ w ⟨T',R,n,S,Y⟩;simp only at T' R n S Y;refine aA ?_ ?_<;>intro h1
  ·have V:k<Ls.length:=U
   have V':=hl.dK k V;refine W ?_;refine aU rfl (IZ (kv:=nS) (vp:=cF ss k) (L:=Ls.getD k []) (cs:=[]) (H'.at Y) (V'.at Y) RS.nil) ?_;rintro _ w' (⟨P,rfl,an⟩|⟨P,hp,_,_,q,D,rfl,_a,an⟩)
   ·replace Y:=Y.cr an
    clear an;refine⟨_,rfl,?_⟩;rw[dq P];refine W ?_;exact cX (v:=.pointer none) (v':=.iface 57 (E (iE t (Ls.getD k []) []))) rfl rfl rfl (.inr (.inl ⟨l,⟨k,V,fun i j=>(S i j).1,P,by rw[dq P]⟩,Y.bb⟩))
   replace Y:=Y.mu an;clear an;refine⟨_,rfl,?_⟩;have _e:r.length<=32:=U
   repeat (first|refine dB ?_|(refine qx ?_;clear Y;intro w Y)|(refine fR ?_;clear Y;intro s w Y))
   obtain⟨H,rfl⟩:=À s;have g:M w0 w [rT q (nG t (Ls.getD k []) D),bj (kR t Ls r m),X ar 149 H (r++[.pointer (some q)]),ak pp 148 [f,H,nS],X O 3 f t.vars,ai O 3 [] [],X ar 22 (nS) [],ak pt 26 [a,b,c,d]]:=Y.tail;have F:=M.Ba (χ:=kR t Ls (r++[.pointer (some q)]) (m++[D])) (fun w h1 h2=>h2.fe (by rw[n];exact h1)) (M.rd (Δ:=[rT q (nG t (Ls.getD k []) D)]) (φ:=fun w=>v6 w q (nG t (Ls.getD k []) D)) (fun _ _ h=>rD h 0 rfl) g);refine⟨(k+1,H,r++[.pointer (some q)],m++[D]),⟨rfl,au⟩,aV,⟨U,by simp[R],by simp[n],fun i j=>?_,F.bb⟩,by simp only;omega⟩;by_cases h:i=k
   ·subst h
    refine⟨P,?_⟩;rw[show (m++[D]).getD i []=D by simp[List.getD,Ga,n]];exact _a
   have:=S i U;rw[show (m++[D]).getD i []=m.getD i [] by simp[List.getD,Ga,show i<m.length by omega]];exact this
  have _b:k=Ls.length:=U;subst _b;refine W ?_;have g:M w0 w [bj (kR t Ls r m),X ar 149 Q r,ak pp 148 [f,Q,nS],X O 3 f t.vars,ai O 3 [] [],X ar 22 (nS) []]:=Y.bb;have C:=M.rd (Δ:=[bj (kR t Ls r m),X ar 149 Q r,ak pp 148 [f,Q,nS],X O 3 f t.vars,ai O 3 [] [],X ar 22 (nS) []]) (Γ:=[]) (φ:=fun w=>oH w pp t Ls m []) (fun _ w h=>⟨f,Q,nS,r,[],h.gB 2 rfl,h.rs 3 rfl,h.rs 1 rfl,h.cU 0 rfl,h.rs 5 rfl,(h.bJ 4 rfl).bP,fun i j=>(h.bJ 4 rfl).row j⟩) g;exact cX (v:=.pointer (some pp)) (v':=.nilIface) rfl rfl rfl (.inr (.inr ⟨l,hk,u,fun i j=>(S i j).1,pp,m,[],rfl,fun _=>rfl,fun h=>absurd (nY hz) h,br _,n,fun i j=>(S i j).2,C⟩))
 ·have l:=VV hk h0 u hF
  replace Y:=Y.cr an;refine⟨_,rfl,?_⟩;rw[l];refine W ?_;exact cX (v:=.pointer none) (v':=bO 10) rfl rfl rfl (.inl ⟨dc,rfl,Y.bb⟩)
 have l:=VY hk u _c j';refine iL ?_;clear an Y;intro Y
 have I:aC t:=(rQ t).1 (by
  by_cases h:bX t=0
  ·exact h
  exact absurd hk (by rw[gp,aP h];exact h))
 have J':t.vars.length<=1099511627776:=by have:=I.vars;omega
 refine W ?_;refine aU rfl (nH (ha.at Y) J') ?_;rintro _ w' ⟨f,rfl,an⟩;refine aL ?_;clear an Y;intro Y;have P':=(Y.rs 0 rfl).one;have R':=(Y.rs 2 rfl).one;refine W ?_;refine zA (v1:=f) (v2:=B) rfl rfl rfl (by simp only[ew,eN,P',R'];rfl) ?_;refine yj (vs:=[f,nS,B]) rfl Y ?_;clear Y;intro pp w Y;refine W ?_;have g:M w0 w [bj (kR t Ls [] []),X ar 149 (nS) [],ak pp 148 [f,nS,B],X O 3 f t.vars,ai O 3 K Cs,X ar 22 B K,ak pt 26 [a,b,c,d]]:=by
  have C:M w0 w [ak pp 148 [f,nS,B],X O 3 f t.vars,ai O 3 K Cs,X ar 22 B K,ak pt 26 [a,b,c,d]]:=Y;have F:=M.pN (φ:=kR t Ls [] []) (fun w=>⟨rfl,fun i j=>absurd j (dx _)⟩) (C.nil (T:=ar) (e:=149));exact F.bb
 clear Y;refine cN [4,5,10,12,30,53] (G:=Nat × Value × List Value × List J) (fun x=>[(30,E x.1)]) (fun x w=>x.1<=Ls.length/\x.2.2.1.length=x.1/\x.2.2.2.length=x.1/\(∀ i,i<x.1->iE t (Ls.getD i []) []=0/\cH (bM t (Ls.getD i [])) (uy t []) (fx t (Ls.getD i [])) (bp t.vars (Ls.getD i [])).toNat (x.2.2.2.getD i []))/\M w0 w [bj (kR t Ls x.2.2.1 x.2.2.2),X ar 149 x.2.1 x.2.2.1,ak pp 148 [f,x.2.1,B],X O 3 f t.vars,ai O 3 K Cs,X ar 22 B K,ak pt 26 [a,b,c,d]]) (fun x=>Ls.length-x.1) (0,nS,[],[]) (fun _=>rfl) ⟨rfl,au⟩ ⟨br _,rfl,rfl,fun i j=>absurd j (dx _),g⟩ ?_;clear g;rintro σ ⟨k,Q,r,m⟩ w ⟨T',R,n,S,Y⟩;simp only at T' R n S Y;refine aA ?_ ?_<;>intro h1
 ·have V:k<Ls.length:=U
  have V':=hl.dK k V;refine W ?_;refine aU rfl (IZ (kv:=nS) (vp:=cF ss k) (L:=Ls.getD k []) (cs:=[]) (H'.at Y) (V'.at Y) RS.nil) ?_;rintro _ w' (⟨P,rfl,an⟩|⟨P,hp,_,_,q,D,rfl,_a,an⟩)
  ·replace Y:=Y.cr an
   clear an;refine⟨_,rfl,?_⟩;rw[dq P];refine W ?_;exact cX (v:=.pointer none) (v':=.iface 57 (E (iE t (Ls.getD k []) []))) rfl rfl rfl (.inr (.inl ⟨l,⟨k,V,fun i j=>(S i j).1,P,by rw[dq P]⟩,Y.bb⟩))
  replace Y:=Y.mu an;clear an;refine⟨_,rfl,?_⟩;have _e:r.length<=32:=U
  repeat (first|refine dB ?_|(refine qx ?_;clear Y;intro w Y)|(refine fR ?_;clear Y;intro s w Y))
  obtain⟨H,rfl⟩:=À s;have g:M w0 w [rT q (nG t (Ls.getD k []) D),bj (kR t Ls r m),X ar 149 H (r++[.pointer (some q)]),ak pp 148 [f,H,B],X O 3 f t.vars,ai O 3 K Cs,X ar 22 B K,ak pt 26 [a,b,c,d]]:=Y.tail;have F:=M.Ba (χ:=kR t Ls (r++[.pointer (some q)]) (m++[D])) (fun w h1 h2=>h2.fe (by rw[n];exact h1)) (M.rd (Δ:=[rT q (nG t (Ls.getD k []) D)]) (φ:=fun w=>v6 w q (nG t (Ls.getD k []) D)) (fun _ _ h=>rD h 0 rfl) g);refine⟨(k+1,H,r++[.pointer (some q)],m++[D]),⟨rfl,au⟩,aV,⟨U,by simp[R],by simp[n],fun i j=>?_,F.bb⟩,by simp only;omega⟩;by_cases h:i=k
  ·subst h
   refine⟨P,?_⟩;rw[show (m++[D]).getD i []=D by simp[List.getD,Ga,n]];exact _a
  have:=S i U;rw[show (m++[D]).getD i []=m.getD i [] by simp[List.getD,Ga,show i<m.length by omega]];exact this
 have _b:k=Ls.length:=U;subst _b;refine W ?_;have g:M w0 w [bj (kR t Ls r m),X ar 149 Q r,ak pp 148 [f,Q,B],X O 3 f t.vars,ai O 3 K Cs,X ar 22 B K]:=Y.bb;have C:=M.rd (Δ:=[bj (kR t Ls r m),X ar 149 Q r,ak pp 148 [f,Q,B],X O 3 f t.vars,ai O 3 K Cs,X ar 22 B K]) (Γ:=[]) (φ:=fun w=>oH w pp t Ls m Cs) (fun _ w h=>⟨f,Q,B,r,K,h.gB 2 rfl,h.rs 3 rfl,h.rs 1 rfl,h.cU 0 rfl,h.rs 5 rfl,(h.bJ 4 rfl).bP,fun i j=>(h.bJ 4 rfl).row j⟩) g;exact cX (v:=.pointer (some pp)) (v':=.nilIface) rfl rfl rfl (.inr (.inr ⟨l,hk,u,fun i j=>(S i j).1,pp,m,Cs,rfl,fun h=>absurd (show Ls.length=0 by rw[h];rfl) U,fun _=>_c,j',n,fun i j=>(S i j).2,C⟩))
open Classical in
noncomputable def BE (t:aa)(Ls m Cs:List J)(s:J):Int:=if ab t.vars s then gC t Ls m Cs s else 1125899906842624
def VZ {t:aa}{Ls m Cs:List J}{s:J}(h:¬ab t.vars s):BE t Ls m Cs s=1125899906842624:=aH h
def OM {t:aa}{Ls m Cs:List J}{s:J}(h:ab t.vars s):BE t Ls m Cs s=gC t Ls m Cs s:=aP h
def V0 {w0:World}{p:Addr}{t:aa}{Ls m Cs:List J}{sv:Value}{s:J}(K:oH w0 p t Ls m Cs)(hl:Ls.length<=32)(L:m.length=Ls.length)(J':Cs.length<=4096)(g:∀ l∈Cs,∀ i∈l,0<=i/\i<Ls.length)(V:∀ i,i<Ls.length->cO t (Ls.getD i [])=0)(hD:∀ i,i<Ls.length->cH (bM t (Ls.getD i [])) (am t) (fx t (Ls.getD i [])) (bp t.vars (Ls.getD i [])).toNat (m.getD i []))(hs:RS O w0 sv s) :
  Calls aj 326 #[.pointer (some p),sv] w0 fun e w'=>e=.returned (E (BE t Ls m Cs s))/\M w0 w' []:=by
 obtain⟨vv,dv,cv,qs,fs,h1,h2,h3,h4,P⟩:=K;have Q:=h4.1.trans L;have P':=P.len;have R':=P.rs;have Y:=M.start w0;refine bB ao Tryz.func326 ?_;refine W ?_;refine aU rfl (yi h2 (hs.at Y)) ?_;rintro _ w' ⟨⟨r,rfl,K⟩,an⟩;refine aI ?_;clear an Y;intro Y;cases r
 ·rw[VZ (fun h=>by have:=K.2 h;cases this)]
  refine W ?_;exact bk (v:=E 1125899906842624) rfl rfl ⟨rfl,Y⟩
 have bI:=K.1 rfl;rw[OM bI];have u:∀ k,k<Ls.length->0<=(bG t Ls m s) k/\(bG t Ls m s) k<=1125899906842624:=fun k hk=>Gb (FM (V k hk)).2.1 (hD k hk) bI;refine lw ?_;intro s w Y;obtain⟨c,rfl⟩:=À s;rw[Q,gY,<-JA _ (bG t Ls m s)]at Y;refine cN [6,7,34,45] (G:=Nat) (fun k=>[(34,E k)]) (fun k w=>k<=Ls.length/\M w0 w [X O 3 c (eC Ls.length (bG t Ls m s) k)]) (fun k=>Ls.length-k) 0 (fun _=>rfl) ⟨rfl,au⟩ ⟨br _,Y⟩ ?_;clear Y;rintro σ k w ⟨hk,Y⟩;have j':=Du Ls.length (bG t Ls m s) k;refine aA ?_ ?_<;>intro h7
 ·have a:k<Ls.length:=U
  obtain⟨q,hq,j⟩:=h4.2 k U;have B:=IY (V k a) (hD k a);have d:wO (nG t (Ls.getD k []) (m.getD k [])) s=(bG t Ls m s) k:=IS bI;refine W ?_;rw[hq];refine aU rfl (NP (j.at Y) B (hs.at Y)) ?_;rintro _ w' ⟨rfl,an⟩;replace Y:=Y.cr an;clear an;rw[d];refine⟨_,rfl,?_⟩;refine eQ ?_;intro w Y;rw[show (eC Ls.length (bG t Ls m s) k).set k ((bG t Ls m s) k)=eC Ls.length (bG t Ls m s) (k+1) from JB]at Y;exact⟨k+1,⟨rfl,au⟩,aV,⟨U,Y⟩,U⟩
 have d:k=Ls.length:=U;subst d;refine W ?_;refine dN [8,8,10,11,13,13,51,72] (G:=Nat) (H:=Int) (fun k b=>[(51,E k),(8,E b)]) (fun k b w=>k<=Cs.length/\b=fN (bG t Ls m s) (Cs.take k)/\M w0 w [X O 3 c (eC Ls.length (bG t Ls m s) Ls.length)]) (fun k _=>Cs.length-k) 0 0 (fun _ _=>rfl) ⟨rfl,rfl,au⟩ ⟨br _,rfl,Y⟩ ?_;clear Y;rintro σ k b w ⟨hk,R,Y⟩;refine aA ?_ ?_<;>intro h8
 ·have a:k<Cs.length:=U
  have B:=P.dK k a;obtain⟨C,S⟩:=À (Cs.getD k []);have D:C∈Cs:=by rw[S];exact cD [] a
  rw[<-S]at B;have T':=B.bT;refine W ?_;refine dN [11,11,13,13,57,68] (G:=Nat) (H:=Int) (fun j x=>[(57,E j),(11,E x)]) (fun j x w=>j<=C.length/\x=mi (bG t Ls m s) (C.take j)/\M w0 w [X O 3 c (eC Ls.length (bG t Ls m s) Ls.length)]) (fun j _=>C.length-j) 0 0 (fun _ _=>rfl) ⟨rfl,rfl,au⟩ ⟨br _,rfl,Y⟩ ?_;clear Y;rintro V' j x w ⟨hj,hx,Y⟩;refine aA ?_ ?_<;>intro h9
  ·have F:j<C.length:=U
   have H':=g C D _ (cD O.dflt F);have T:=ON (n:=Ls.length) (f:=(bG t Ls m s)) (k:=Ls.length) (i:=(C.getD j O.dflt).toNat) U U;have _a:=u (C.getD j O.dflt).toNat U;have _b:=V1 (f:=(bG t Ls m s)) (l:=C.take j) fun i hi=>(u i.toNat (by have:=g C D i (pU hi);omega)).1;have e2:bD=1125899906842624:=rfl;refine W ?_;refine⟨j+1,_,⟨rfl,rfl,au⟩,aV,⟨U,?_,Y⟩,U⟩;rw[eD O.dflt F,OO,T,hx];split<;>omega
  have F:j=C.length:=U;subst F;refine W ?_;refine⟨k+1,_,⟨rfl,rfl,au⟩,aV,⟨U,?_,Y⟩,U⟩;rw[eD [] a,JC,R,hx,<-S,lL];split<;>omega
 have d:k=Cs.length:=U;subst d;rw[lL]at R;refine W ?_;exact bk (v:=E b) rfl rfl ⟨by rw[R];rfl,iY Y⟩
end
section
open Go.Sl Go
section
variable {t:aa}{Ls m Cs o z y:List J}{N A:Nat->Nat}
end
section
variable {t:aa}
variable {m Cs:List J}{N:Nat->Nat}
end
structure MG (t:aa) (Ls:List J) (N:Nat->Nat):Prop where
 gr:Gr Ls.length N
 add:∀ u v,u<Ls.length->v<Ls.length->(ib (N u) v↔u≠v/\mU t (Ls.getD u []) (Ls.getD v []))
def MH (t:aa)(Ls:List J):MG t Ls (rU Ls.length (gd t Ls Ls.length)) :=
 ⟨Oj JD,fun u v hu hv=>by rw[Dv JD,V2 hu hv]⟩
end
section
open Go.Sl Go
attribute [local irreducible] vc opsW opsD opV opW PureV ReadV Thn Blk

end
end Go.Proofs.YtmapkjoefdgjfaaGreatDoor
