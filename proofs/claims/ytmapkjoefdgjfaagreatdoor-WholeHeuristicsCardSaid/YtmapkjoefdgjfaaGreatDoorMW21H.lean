/- Several texts. -/
import Derived.Test.YtmapkjoefdgjfaaGreatDoorMW20H
set_option linter.unusedSimpArgs false
set_option linter.unusedVariables false
set_option linter.defProp false
set_option maxRecDepth 8000
set_option maxHeartbeats 16000000
open List Nat
namespace Go.Proofs.YtmapkjoefdgjfaaGreatDoor
section
open Go.Sl Go
attribute [local irreducible] vc opsW opsD opV opW PureV ReadV Thn Blk
def qQ (w:World)(p:Addr)(t:aa)(Ls m Cs:List J):Prop:=∃ a b c d e,eJ w p [a,b,c]/\RS W w a t.vars/\RS aA w b d/\mi t Ls d m w/\tT w c e Cs
open Classical in
noncomputable def eL (t:aa)(Ls:List J):Int:=if ir t Ls≠0 then ir t Ls else if 32<Ls.length then 5 else if 0<Ls.length/\j8 Ls.length (tJ Ls.length (gX t Ls Ls.length)) then 10 else 0
def YT {t:aa}{Ls:List J}(h:ir t Ls≠0):eL t Ls=ir t Ls:=by rw[eL,ba h]
def YU {t:aa}{Ls:List J}(h:ir t Ls=0)(h1:32<Ls.length):eL t Ls=5:=by rw[eL,aM (by simp[h]),ba h1]
def YV {t:aa}{Ls:List J}(h:ir t Ls=0)(a:0<Ls.length)(h1:Ls.length<=32)(b:j8 Ls.length (tJ Ls.length (gX t Ls Ls.length))):eL t Ls=10:=by rw[eL,aM (by simp[h]),aM U,ba ⟨a,b⟩]
def YW {t:aa}{Ls:List J}(h:ir t Ls=0)(a:Ls.length=0):eL t Ls=0:=by rw[eL,aM (by simp[h]),aM U,aM U]
def YX {n:Nat}{N:Nat->Nat}{Cs:List J}(a:mb n N Cs)(g:Cs.length<=4096):¬j8 n N:=by
 rintro⟨b,c,d,hm⟩;have h1:=QH c hm;have e:=Lv h1 (M':=Cs) fun x hx=>by
  obtain⟨C,f,rfl⟩:=iG.1 hx;exact(a _).2 ⟨C,hm C f,rfl⟩
 rw[lA]at e;omega
def YY {t:aa}{Ls Cs:List J}(h:ir t Ls=0)(h1:Ls.length<=32)(a:mb Ls.length (tJ Ls.length (gX t Ls Ls.length)) Cs)(b:Cs.length<=4096):eL t Ls=0:=by rw[eL,aM (by simp[h]),aM U,aM (fun c=>YX a b c.2)]
def Ra {w0:World}{a b c d s:Value}{vs:List kq}{t:aa}{ss:List Value}{Ls:List J}(ht:bR w0 a b c d vs t)(hl:tT w0 s ss Ls)(hT:nc w0) :
  Calls ak 56 #[.agg #[a,b,c,d],s] w0 fun e w' =>
   (eL t Ls≠0/\e=.returned (.tuple #[.pointer none,bS (eL t Ls)])/\Z w0 w' []) \/
   (eL t Ls=0/\(∃ k,k<Ls.length/\(∀ i,i<k->jH t (Ls.getD i []) []=0)/\jH t (Ls.getD k []) []≠0/\e=.returned (.tuple #[.pointer none,bS (jH t (Ls.getD k []) [])]))/\Z w0 w' []) \/
   (eL t Ls=0/\ir t Ls=0/\Ls.length<=32/\(∀ i,i<Ls.length->jH t (Ls.getD i []) []=0)/\∃ p m Cs,e=.returned (.tuple #[.pointer (some p),.nilIface])/\(Ls=[]->Cs=[])/\(Ls≠[]->mb Ls.length (tJ Ls.length (gX t Ls Ls.length)) Cs)/\Cs.length<=4096/\m.length=Ls.length/\(∀ i,i<Ls.length->db (cm t (Ls.getD i [])) (vY t []) (gg t (Ls.getD i [])) (bG t.vars (Ls.getD i [])).toNat (m.getD i []))/\Z w0 w' [bA fun w=>qQ w p t Ls m Cs]):=by
 have H':=ht;obtain⟨ha,P,hc,hd⟩:=ht;have _d:=hl.rs;have _g:=hl.len;have _h:=_d.cn;have Y:=Z.start w0;refine bI ar Tryz.func56 ?_;refine ep ?_;intro pt w Y;refine aR rfl (Yo (H'.at Y) (hl.at Y) (hT.at Y)) ?_;rintro _ w' hR;rcases hR with ⟨hk,rfl,aw⟩|⟨hk,u,rfl,aw⟩|⟨hk,hz,rfl,aw⟩|⟨hk,h0,u,hF,rfl,aw⟩|⟨hk,h0,u,B,K,Cs,rfl,_f,_c,j',aw⟩
 ·have l:=YT hk
  replace Y:=Y.cH aw;refine⟨_,rfl,?_⟩;rw[l,c9 hk];refine O ?_;exact dw (v:=.pointer none) (v':=.iface 57 (E (ir t Ls))) rfl rfl rfl (.inl ⟨hk,rfl,Y.bj⟩)
 ·have l:=YU hk u
  replace Y:=Y.cH aw;refine⟨_,rfl,?_⟩;rw[l];refine O ?_;exact dw (v:=.pointer none) (v':=bS 5) rfl rfl rfl (.inl ⟨dc,rfl,Y.bj⟩)
 ·have l:=YW hk hz
  have u:Ls.length<=32:=U;replace Y:=((Y.cH aw).nil (T:=aA) (e:=22)).pH (T:=W) (e:=3);clear aw;refine⟨_,rfl,?_⟩
  have I:aJ t:=(tE t).1 (by
   by_cases h:cC t=0
   ·exact h
   exact absurd hk (by rw[ir,ba h];exact h))
  have J':t.vars.length<=1099511627776:=by have:=I.vars;omega
  refine O ?_;refine aR rfl (pU (ha.at Y) J') ?_;rintro _ w' ⟨f,rfl,aw⟩;refine aO ?_;clear aw Y;intro Y;have P':=(Y.rs 0 rfl).one;have R':=(Y.rs 2 rfl).one;refine O ?_;refine zr (v1:=f) (v2:=nS) rfl rfl rfl (by simp only[fo,fB,P',R'];rfl) ?_;refine zx (vs:=[f,nS,nS]) rfl Y ?_;clear Y;intro pp w Y;refine O ?_;have g:Z w0 w [bA (mi t Ls [] []),X aA 149 (nS) [],am pp 148 [f,nS,nS],X W 3 f t.vars,ai W 3 [] [],X aA 22 (nS) [],am pt 26 [a,b,c,d]]:=by
   have C:Z w0 w [am pp 148 [f,nS,nS],X W 3 f t.vars,ai W 3 [] [],X aA 22 (nS) [],am pt 26 [a,b,c,d]]:=Y;have F:=Z.r6 (φ:=mi t Ls [] []) (fun w=>⟨rfl,fun i j=>absurd j (eo _)⟩) (C.nil (T:=aA) (e:=149));exact F.bj
  clear Y;refine de [4,5,10,12,30,53] (G:=Nat × Value × List Value × List J) (fun x=>[(30,E x.1)]) (fun x w=>x.1<=Ls.length/\x.2.2.1.length=x.1/\x.2.2.2.length=x.1/\(∀ i,i<x.1->jH t (Ls.getD i []) []=0/\db (cm t (Ls.getD i [])) (vY t []) (gg t (Ls.getD i [])) (bG t.vars (Ls.getD i [])).toNat (x.2.2.2.getD i []))/\Z w0 w [bA (mi t Ls x.2.2.1 x.2.2.2),X aA 149 x.2.1 x.2.2.1,am pp 148 [f,x.2.1,nS],X W 3 f t.vars,ai W 3 [] [],X aA 22 (nS) [],am pt 26 [a,b,c,d]]) (fun x=>Ls.length-x.1) (0,nS,[],[]) (fun _=>rfl) ⟨rfl,az⟩ ⟨bC _,rfl,rfl,fun i j=>absurd j (eo _),g⟩ ?_;clear g;rintro σ ⟨k,Q,r,m⟩ w ⟨T',R,n,S,Y⟩;simp only at T' R n S Y;refine aC ?_ ?_<;>intro h1
  ·have V:k<Ls.length:=U
   have V':=hl.eI k V;refine O ?_;refine aR rfl (KR (kv:=nS) (vp:=cL ss k) (L:=Ls.getD k []) (cs:=[]) (H'.at Y) (V'.at Y) RS.nil) ?_;rintro _ w' (⟨P,rfl,aw⟩|⟨P,hp,_,_,q,D,rfl,_a,aw⟩)
   ·replace Y:=Y.cH aw
    clear aw;refine⟨_,rfl,?_⟩;rw[c9 P];refine O ?_;exact dw (v:=.pointer none) (v':=.iface 57 (E (jH t (Ls.getD k []) []))) rfl rfl rfl (.inr (.inl ⟨l,⟨k,V,fun i j=>(S i j).1,P,by rw[c9 P]⟩,Y.bj⟩))
   replace Y:=Y.pI aw;clear aw;refine⟨_,rfl,?_⟩;have _e:r.length<=32:=U
   repeat (first|refine dS ?_|(refine rG ?_;clear Y;intro w Y)|(refine gA ?_;clear Y;intro s w Y))
   obtain⟨H,rfl⟩:=À s;have g:Z w0 w [tH q (pT t (Ls.getD k []) D),bA (mi t Ls r m),X aA 149 H (r++[.pointer (some q)]),am pp 148 [f,H,nS],X W 3 f t.vars,ai W 3 [] [],X aA 22 (nS) [],am pt 26 [a,b,c,d]]:=Y.tail;have F:=Z.DQ (χ:=mi t Ls (r++[.pointer (some q)]) (m++[D])) (fun w h1 h2=>h2.gD (by rw[n];exact h1)) (Z.rd (Δ:=[tH q (pT t (Ls.getD k []) D)]) (φ:=fun w=>xN w q (pT t (Ls.getD k []) D)) (fun _ _ h=>tj h 0 rfl) g);refine⟨(k+1,H,r++[.pointer (some q)],m++[D]),⟨rfl,az⟩,aX,⟨U,by simp[R],by simp[n],fun i j=>?_,F.bj⟩,by simp only;omega⟩;by_cases h:i=k
   ·subst h
    refine⟨P,?_⟩;rw[show (m++[D]).getD i []=D by simp[List.getD,H4,n]];exact _a
   have:=S i U;rw[show (m++[D]).getD i []=m.getD i [] by simp[List.getD,H4,show i<m.length by omega]];exact this
  have _b:k=Ls.length:=U;subst _b;refine O ?_;have g:Z w0 w [bA (mi t Ls r m),X aA 149 Q r,am pp 148 [f,Q,nS],X W 3 f t.vars,ai W 3 [] [],X aA 22 (nS) []]:=Y.bj;have C:=Z.rd (Δ:=[bA (mi t Ls r m),X aA 149 Q r,am pp 148 [f,Q,nS],X W 3 f t.vars,ai W 3 [] [],X aA 22 (nS) []]) (Γ:=[]) (φ:=fun w=>qQ w pp t Ls m []) (fun _ w h=>⟨f,Q,nS,r,[],h.dA 2 rfl,h.rs 3 rfl,h.rs 1 rfl,h.dQ 0 rfl,h.rs 5 rfl,(h.bN 4 rfl).bU,fun i j=>(h.bN 4 rfl).row j⟩) g;exact dw (v:=.pointer (some pp)) (v':=.nilIface) rfl rfl rfl (.inr (.inr ⟨l,hk,u,fun i j=>(S i j).1,pp,m,[],rfl,fun _=>rfl,fun h=>absurd (qD hz) h,bC _,n,fun i j=>(S i j).2,C⟩))
 ·have l:=YV hk h0 u hF
  replace Y:=Y.cH aw;refine⟨_,rfl,?_⟩;rw[l];refine O ?_;exact dw (v:=.pointer none) (v':=bS 10) rfl rfl rfl (.inl ⟨dc,rfl,Y.bj⟩)
 have l:=YY hk u _c j';refine kl ?_;clear aw Y;intro Y
 have I:aJ t:=(tE t).1 (by
  by_cases h:cC t=0
  ·exact h
  exact absurd hk (by rw[ir,ba h];exact h))
 have J':t.vars.length<=1099511627776:=by have:=I.vars;omega
 refine O ?_;refine aR rfl (pU (ha.at Y) J') ?_;rintro _ w' ⟨f,rfl,aw⟩;refine aO ?_;clear aw Y;intro Y;have P':=(Y.rs 0 rfl).one;have R':=(Y.rs 2 rfl).one;refine O ?_;refine zr (v1:=f) (v2:=B) rfl rfl rfl (by simp only[fo,fB,P',R'];rfl) ?_;refine zx (vs:=[f,nS,B]) rfl Y ?_;clear Y;intro pp w Y;refine O ?_;have g:Z w0 w [bA (mi t Ls [] []),X aA 149 (nS) [],am pp 148 [f,nS,B],X W 3 f t.vars,ai W 3 K Cs,X aA 22 B K,am pt 26 [a,b,c,d]]:=by
  have C:Z w0 w [am pp 148 [f,nS,B],X W 3 f t.vars,ai W 3 K Cs,X aA 22 B K,am pt 26 [a,b,c,d]]:=Y;have F:=Z.r6 (φ:=mi t Ls [] []) (fun w=>⟨rfl,fun i j=>absurd j (eo _)⟩) (C.nil (T:=aA) (e:=149));exact F.bj
 clear Y;refine de [4,5,10,12,30,53] (G:=Nat × Value × List Value × List J) (fun x=>[(30,E x.1)]) (fun x w=>x.1<=Ls.length/\x.2.2.1.length=x.1/\x.2.2.2.length=x.1/\(∀ i,i<x.1->jH t (Ls.getD i []) []=0/\db (cm t (Ls.getD i [])) (vY t []) (gg t (Ls.getD i [])) (bG t.vars (Ls.getD i [])).toNat (x.2.2.2.getD i []))/\Z w0 w [bA (mi t Ls x.2.2.1 x.2.2.2),X aA 149 x.2.1 x.2.2.1,am pp 148 [f,x.2.1,B],X W 3 f t.vars,ai W 3 K Cs,X aA 22 B K,am pt 26 [a,b,c,d]]) (fun x=>Ls.length-x.1) (0,nS,[],[]) (fun _=>rfl) ⟨rfl,az⟩ ⟨bC _,rfl,rfl,fun i j=>absurd j (eo _),g⟩ ?_;clear g;rintro σ ⟨k,Q,r,m⟩ w ⟨T',R,n,S,Y⟩;simp only at T' R n S Y;refine aC ?_ ?_<;>intro h1
 ·have V:k<Ls.length:=U
  have V':=hl.eI k V;refine O ?_;refine aR rfl (KR (kv:=nS) (vp:=cL ss k) (L:=Ls.getD k []) (cs:=[]) (H'.at Y) (V'.at Y) RS.nil) ?_;rintro _ w' (⟨P,rfl,aw⟩|⟨P,hp,_,_,q,D,rfl,_a,aw⟩)
  ·replace Y:=Y.cH aw
   clear aw;refine⟨_,rfl,?_⟩;rw[c9 P];refine O ?_;exact dw (v:=.pointer none) (v':=.iface 57 (E (jH t (Ls.getD k []) []))) rfl rfl rfl (.inr (.inl ⟨l,⟨k,V,fun i j=>(S i j).1,P,by rw[c9 P]⟩,Y.bj⟩))
  replace Y:=Y.pI aw;clear aw;refine⟨_,rfl,?_⟩;have _e:r.length<=32:=U
  repeat (first|refine dS ?_|(refine rG ?_;clear Y;intro w Y)|(refine gA ?_;clear Y;intro s w Y))
  obtain⟨H,rfl⟩:=À s;have g:Z w0 w [tH q (pT t (Ls.getD k []) D),bA (mi t Ls r m),X aA 149 H (r++[.pointer (some q)]),am pp 148 [f,H,B],X W 3 f t.vars,ai W 3 K Cs,X aA 22 B K,am pt 26 [a,b,c,d]]:=Y.tail;have F:=Z.DQ (χ:=mi t Ls (r++[.pointer (some q)]) (m++[D])) (fun w h1 h2=>h2.gD (by rw[n];exact h1)) (Z.rd (Δ:=[tH q (pT t (Ls.getD k []) D)]) (φ:=fun w=>xN w q (pT t (Ls.getD k []) D)) (fun _ _ h=>tj h 0 rfl) g);refine⟨(k+1,H,r++[.pointer (some q)],m++[D]),⟨rfl,az⟩,aX,⟨U,by simp[R],by simp[n],fun i j=>?_,F.bj⟩,by simp only;omega⟩;by_cases h:i=k
  ·subst h
   refine⟨P,?_⟩;rw[show (m++[D]).getD i []=D by simp[List.getD,H4,n]];exact _a
  have:=S i U;rw[show (m++[D]).getD i []=m.getD i [] by simp[List.getD,H4,show i<m.length by omega]];exact this
 have _b:k=Ls.length:=U;subst _b;refine O ?_;have g:Z w0 w [bA (mi t Ls r m),X aA 149 Q r,am pp 148 [f,Q,B],X W 3 f t.vars,ai W 3 K Cs,X aA 22 B K]:=Y.bj;have C:=Z.rd (Δ:=[bA (mi t Ls r m),X aA 149 Q r,am pp 148 [f,Q,B],X W 3 f t.vars,ai W 3 K Cs,X aA 22 B K]) (Γ:=[]) (φ:=fun w=>qQ w pp t Ls m Cs) (fun _ w h=>⟨f,Q,B,r,K,h.dA 2 rfl,h.rs 3 rfl,h.rs 1 rfl,h.dQ 0 rfl,h.rs 5 rfl,(h.bN 4 rfl).bU,fun i j=>(h.bN 4 rfl).row j⟩) g;exact dw (v:=.pointer (some pp)) (v':=.nilIface) rfl rfl rfl (.inr (.inr ⟨l,hk,u,fun i j=>(S i j).1,pp,m,Cs,rfl,fun h=>absurd (show Ls.length=0 by rw[h];rfl) U,fun _=>_c,j',n,fun i j=>(S i j).2,C⟩))
open Classical in
noncomputable def C7 (t:aa)(Ls m Cs:List J)(s:J):Int:=if aj t.vars s then iu t Ls m Cs s else 1125899906842624
def YZ {t:aa}{Ls m Cs:List J}{s:J}(h:¬aj t.vars s):C7 t Ls m Cs s=1125899906842624:=aM h
def Rb {t:aa}{Ls m Cs:List J}{s:J}(h:aj t.vars s):C7 t Ls m Cs s=iu t Ls m Cs s:=ba h
def Y0 {w0:World}{p:Addr}{t:aa}{Ls m Cs:List J}{sv:Value}{s:J}(K:qQ w0 p t Ls m Cs)(hl:Ls.length<=32)(L:m.length=Ls.length)(J':Cs.length<=4096)(g:∀ l∈Cs,∀ i∈l,0<=i/\i<Ls.length)(V:∀ i,i<Ls.length->dh t (Ls.getD i [])=0)(hD:∀ i,i<Ls.length->db (cm t (Ls.getD i [])) (ao t) (gg t (Ls.getD i [])) (bG t.vars (Ls.getD i [])).toNat (m.getD i []))(hs:RS W w0 sv s) :
  Calls ak 326 #[.pointer (some p),sv] w0 fun e w'=>e=.returned (E (C7 t Ls m Cs s))/\Z w0 w' []:=by
 obtain⟨vv,dv,cv,qs,fs,h1,h2,h3,h4,P⟩:=K;have Q:=h4.1.trans L;have P':=P.len;have R':=P.rs;have Y:=Z.start w0;refine bI ar Tryz.func326 ?_;refine O ?_;refine aR rfl (zW h2 (hs.at Y)) ?_;rintro _ w' ⟨⟨r,rfl,K⟩,aw⟩;refine aL ?_;clear aw Y;intro Y;cases r
 ·rw[YZ (fun h=>by have:=K.2 h;cases this)]
  refine O ?_;exact bo (v:=E 1125899906842624) rfl rfl ⟨rfl,Y⟩
 have bX:=K.1 rfl;rw[Rb bX];have u:∀ k,k<Ls.length->0<=(bT t Ls m s) k/\(bT t Ls m s) k<=1125899906842624:=fun k hk=>H5 (HM (V k hk)).2.1 (hD k hk) bX;refine kO ?_;intro s w Y;obtain⟨c,rfl⟩:=À s;rw[Q,jU,<-Lw _ (bT t Ls m s)]at Y;refine de [6,7,34,45] (G:=Nat) (fun k=>[(34,E k)]) (fun k w=>k<=Ls.length/\Z w0 w [X W 3 c (fj Ls.length (bT t Ls m s) k)]) (fun k=>Ls.length-k) 0 (fun _=>rfl) ⟨rfl,az⟩ ⟨bC _,Y⟩ ?_;clear Y;rintro σ k w ⟨hk,Y⟩;have j':=Fj Ls.length (bT t Ls m s) k;refine aC ?_ ?_<;>intro h7
 ·have a:k<Ls.length:=U
  obtain⟨q,hq,j⟩:=h4.2 k U;have B:=KQ (V k a) (hD k a);have d:yx (pT t (Ls.getD k []) (m.getD k [])) s=(bT t Ls m s) k:=KK bX;refine O ?_;rw[hq];refine aR rfl (Qh (j.at Y) B (hs.at Y)) ?_;rintro _ w' ⟨rfl,aw⟩;replace Y:=Y.cH aw;clear aw;rw[d];refine⟨_,rfl,?_⟩;refine dD ?_;intro w Y;rw[show (fj Ls.length (bT t Ls m s) k).set k ((bT t Ls m s) k)=fj Ls.length (bT t Ls m s) (k+1) from Lx]at Y;exact⟨k+1,⟨rfl,az⟩,aX,⟨U,Y⟩,U⟩
 have d:k=Ls.length:=U;subst d;refine O ?_;refine dP [8,8,10,11,13,13,51,72] (G:=Nat) (H:=Int) (fun k b=>[(51,E k),(8,E b)]) (fun k b w=>k<=Cs.length/\b=ie (bT t Ls m s) (Cs.take k)/\Z w0 w [X W 3 c (fj Ls.length (bT t Ls m s) Ls.length)]) (fun k _=>Cs.length-k) 0 0 (fun _ _=>rfl) ⟨rfl,rfl,az⟩ ⟨bC _,rfl,Y⟩ ?_;clear Y;rintro σ k b w ⟨hk,R,Y⟩;refine aC ?_ ?_<;>intro h8
 ·have a:k<Cs.length:=U
  have B:=P.eI k a;obtain⟨C,S⟩:=À (Cs.getD k []);have D:C∈Cs:=by rw[S];exact cS [] a
  rw[<-S]at B;have T':=B.cn;refine O ?_;refine dP [11,11,13,13,57,68] (G:=Nat) (H:=Int) (fun j x=>[(57,E j),(11,E x)]) (fun j x w=>j<=C.length/\x=oO (bT t Ls m s) (C.take j)/\Z w0 w [X W 3 c (fj Ls.length (bT t Ls m s) Ls.length)]) (fun j _=>C.length-j) 0 0 (fun _ _=>rfl) ⟨rfl,rfl,az⟩ ⟨bC _,rfl,Y⟩ ?_;clear Y;rintro V' j x w ⟨hj,hx,Y⟩;refine aC ?_ ?_<;>intro h9
  ·have F:j<C.length:=U
   have H':=g C D _ (cS W.dflt F);have T:=Rc (n:=Ls.length) (f:=(bT t Ls m s)) (k:=Ls.length) (i:=(C.getD j W.dflt).toNat) U U;have _a:=u (C.getD j W.dflt).toNat U;have _b:=Y1 (f:=(bT t Ls m s)) (l:=C.take j) fun i hi=>(u i.toNat (by have:=g C D i (rZ hi);omega)).1;have e2:bZ=1125899906842624:=rfl;refine O ?_;refine⟨j+1,_,⟨rfl,rfl,az⟩,aX,⟨U,?_,Y⟩,U⟩;rw[eX W.dflt F,Re,T,hx];split<;>omega
  have F:j=C.length:=U;subst F;refine O ?_;refine⟨k+1,_,⟨rfl,rfl,az⟩,aX,⟨U,?_,Y⟩,U⟩;rw[eX [] a,Ly,R,hx,<-S,mK];split<;>omega
 have d:k=Cs.length:=U;subst d;rw[mK]at R;refine O ?_;exact bo (v:=E b) rfl rfl ⟨by rw[R];rfl,iH Y⟩
end
section
open Go.Sl Go
section
variable {t:aa}{Ls m Cs z o y:List J}{N A:Nat->Nat}
end
section
variable {t:aa}
variable {m Cs:List J}{N:Nat->Nat}
end
def sV.lt {n:Nat}{N:Nat->Nat}{C:Nat}(h:sV n N C):C<2 ^ n:=KX h.bd
structure O7 (t:aa) (Ls:List J) (N:Nat->Nat):Prop where
 gr:Gr Ls.length N
 add:∀ u v,u<Ls.length->v<Ls.length->(ib (N u) v↔u≠v/\oP t (Ls.getD u []) (Ls.getD v []))
def O8 (t:aa)(Ls:List J):O7 t Ls (tJ Ls.length (gX t Ls Ls.length)) :=
 ⟨QJ Lz,fun u v hu hv=>by rw[Fk Lz,Y2 hu hv]⟩
end
section
open Go.Sl Go
attribute [local irreducible] vc opsW opsD opV opW PureV ReadV Thn Blk

end
end Go.Proofs.YtmapkjoefdgjfaaGreatDoor
