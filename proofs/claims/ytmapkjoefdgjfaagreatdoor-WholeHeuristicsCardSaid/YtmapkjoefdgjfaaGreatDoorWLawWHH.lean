/-
  The statement 'WholeHeuristics' returns true.
-/
import Derived.Test.YtmapkjoefdgjfaaGreatDoorWLawESH
set_option linter.unusedSimpArgs false
set_option linter.unusedVariables false
set_option maxRecDepth 8000
set_option maxHeartbeats 16000000
open List Nat
namespace Go.Proofs.YtmapkjoefdgjfaaGreatDoor
open Go.Sl Go
attribute [local irreducible] vc opsW opsD opV opW PureV ReadV Thn Blk
theorem Zq {w0:World}{a b c d:Value}{vs:List kq}{t:aa}(hT:nF w0)(hB:nc w0)(l:bR w0 a b c d vs t) :
  Calls ak 4 #[.agg #[a,b,c,d]] w0 fun e w'=>e=.returned (.bool true)/\Z w0 w' []:=by
 have _a:=l.vars.cn;have _b:=l.M.rs.cn;have _c:=l.M.len;have Y:=Z.start w0;refine bI ar Tryz.func4 ?_;refine dj ?_;intro A w Y;refine aR rfl (Zr (l.at Y)) ?_;rintro _ w' ⟨⟨r,rfl,R⟩,aw⟩;refine aL ?_;clear aw Y;intro Y;have S:=l.vars;have _d:=l.M.rs;cases r
 ·refine O ?_
  refine aR rfl Fo ?_;refine iw ?_;intro w' Y;exact bo (v:=.bool true) rfl rfl ⟨rfl,iH Y⟩
 have T:=R rfl;have I:=T.dJ;have _e:=T.many;have _f:=I.vars;have _g:(aP t.vars).length=(cZ t.vars).toNat:=z8 I.pos;have _h:=Bl I.pos;by_cases q1:(8:Int)<(vs.length:Int)
 ·have f:decide ((8:Int)<(vs.length:Int))=true:=dH q1
  refine O ?_
  try simp only[f];refine eW ?_
  refine O ?_;refine aR rfl Fo ?_;refine iw ?_;intro w' Y;exact bo (v:=.bool true) rfl rfl ⟨rfl,iH Y⟩
 have B:decide ((8:Int)<(vs.length:Int))=false:=dB q1;by_cases q2:(4:Int)<(t.vars.length:Int)
 ·have f:decide ((4:Int)<(t.vars.length:Int))=true:=dH q2
  refine O ?_
  try simp only[B];refine eW ?_
  refine O ?_
  try simp only[f];refine eW ?_
  refine O ?_;refine aR rfl Fo ?_;refine iw ?_;intro w' Y;exact bo (v:=.bool true) rfl rfl ⟨rfl,iH Y⟩
 have V:decide ((4:Int)<(t.vars.length:Int))=false:=dB q2;refine O ?_
 try simp only[B];refine eW ?_
 refine O ?_
 try simp only[V];refine eW ?_
 refine O ?_;refine aR rfl (Rq (m:=81) (S.at Y) I.pos dc dc) ?_;refine gk ?_;clear Y;intro w' Y;obtain⟨mm,j'⟩:=À (sr t.vars 81);rw[<-j'];by_cases q3:(81:Int)<mm
 ·have f:decide ((81:Int)<mm)=true:=dH q3
  refine O ?_
  try simp only[f];refine eW ?_
  refine O ?_;refine aR rfl Fo ?_;refine iw ?_;intro w' Y;exact bo (v:=.bool true) rfl rfl ⟨rfl,iH Y⟩
 have H':decide ((81:Int)<mm)=false:=dB q3;refine O ?_
 try simp only[H'];refine eW ?_
 refine O ?_;refine aR rfl Fo ?_;refine gk ?_;clear Y;intro w' Y;replace Y:Z w0 w' [am A 26 [a,b,c,d]]:=Y;refine O ?_;refine aR rfl (Zs (l.at Y) T U (hT.at Y) (hB.at Y)) ?_;rintro _ w' ⟨C,g,f,rfl,hO,aw⟩;refine kl ?_;clear aw Y;intro Y;have _i:=hO.pl;have _j:=hO.gl;have _k:=Fp g;refine O ?_;refine aR rfl (Zt (ps:=g) (t:=t) (Gs:=f) (bB (s:=C) Y) U U I U (Y.dQ 1 rfl)) ?_;rintro _ w' ⟨N,rfl,aw⟩;refine aO ?_;clear aw Y;intro Y;refine O ?_;refine aR rfl (Zu (kv:=nS) (l.at Y) (.own rfl rfl) I U) ?_;rintro _ w' ⟨P,D,rfl,hD,aw⟩;refine aO ?_;clear aw Y;intro Y;have _l:=hD.len;refine O ?_;refine aR rfl (LF (l.vars.at Y) I.pos U U) ?_;rintro _ w' ⟨Q,o,rfl,aw⟩;refine kl ?_;clear aw Y;intro Y;have V':=Y.bU;replace Y:Z w0 w' [ai W 3 o (aP t.vars),X aA 22 Q o,X W 3 P D,bA (fun w=>ig w g t f->cF w N t (eG t f)),X aA 36 C (g.map Value.pointer),bA (fun w=>ig w g t f),am A 26 [a,b,c,d]]:=Y.bj;refine O ?_;refine de [2,2,8,10,12,13,60,107] (G:=Nat) (fun i=>[(60,E i)]) (fun i w=>i<=(aP t.vars).length/\Z w0 w [ai W 3 o (aP t.vars),X aA 22 Q o,X W 3 P D,bA (fun w=>ig w g t f->cF w N t (eG t f)),X aA 36 C (g.map Value.pointer),bA (fun w=>ig w g t f),am A 26 [a,b,c,d]]) (fun i=>(aP t.vars).length-i) 0 (fun _=>rfl) ⟨rfl,az⟩ ⟨bC _,Y⟩ ?_;clear Y;rintro σ i w ⟨hi,Y⟩;refine aC ?_ ?_<;>intro h1
 ·have F:i<(aP t.vars).length:=U
  obtain⟨bX,H⟩:=Fq I.pos F;obtain⟨z,hz⟩:∃ z:J,z=(aP t.vars).getD i []:=⟨_,rfl⟩
  rw[<-hz]at bX H;have hL:=Zv I U hD bX;rw[H,jU]at hL;have u:∀ {Γ:List HP}(w:World),Z w0 w (ai W 3 o (aP t.vars)::Γ)->RS W w (cL o i) z:=fun w h=>by rw[hz];exact h.row F
  have _m:i<D.length:=U;have _n:=hL.le;refine O ?_;refine de [2,2,10,10,12,13,67,101] (G:=Nat) (fun j=>[(67,E j),(10,E (eG t (f.take j) z))]) (fun j w=>j<=g.length/\Z w0 w [ai W 3 o (aP t.vars),X aA 22 Q o,X W 3 P D,bA (fun w=>ig w g t f->cF w N t (eG t f)),X aA 36 C (g.map Value.pointer),bA (fun w=>ig w g t f),am A 26 [a,b,c,d]]) (fun j=>g.length-j) 0 (fun _=>rfl) ⟨rfl,rfl,az⟩ ⟨bC _,Y⟩ ?_;clear Y;rintro _o j w ⟨hj,Y⟩;refine aC ?_ ?_<;>intro h2
  ·have k:j<g.length:=U
   obtain⟨q,hq,_⟩:=(Y.dQ 5 rfl) j k;obtain⟨G,hG⟩:=À (f.getD j fun _=>0);have hA:sY t G:=hO.Ft G (by rw[hG];exact cS _ U);have hE:∀ {w:World},Z w0 w [ai W 3 o (aP t.vars),X aA 22 Q o,X W 3 P D,bA (fun w=>ig w g t f->cF w N t (eG t f)),X aA 36 C (g.map Value.pointer),bA (fun w=>ig w g t f),am A 26 [a,b,c,d]]->cF w q t G:=fun {w} h=>by
    obtain⟨x,h1,h2⟩:=(h.dQ 5 rfl) j k;rw[hq]at h1;obtain rfl:=zD h1;rw[hG];exact h2
   have x:eG t (f.take (j+1)) z=max (eG t (f.take j) z) (kS t G z):=by rw[eX (fun _=>0) U,Rr,hG]
   refine O ?_;rw[Fu g k,hq];refine O ?_;refine aR rfl (DX (hE Y) (u _ Y)) ?_;refine gk ?_;clear Y;intro w' Y;have y:kS t G z=G z:=by unfold kS;rw[ba bX]
   have J':=hA.ok.nn z;have P':=Zw (hA.ok.le z) (fun q d hp=>hA.Ft z q d bX hp) hL;obtain⟨n,hn⟩:=À (kS t G z);rw[<-y,<-hn]at J' P';rw[<-hn]at x ⊢;have R':decide (n<0)=false:=dB U;have T':decide (D.getD i W.dflt<n)=false:=dB U;refine O ?_
   try simp only[R'];refine eW ?_
   refine O ?_
   try simp only[T'];refine eW ?_
   refine O ?_;refine aR rfl (Zx (hE Y) (u _ Y)) ?_;refine gk ?_;clear Y;intro w' Y;rw[<-hn];have K:bZ=1125899906842624:=rfl;rw[K];obtain⟨dd,L⟩:=À (decide (n=1125899906842624));rw[<-L];refine O ?_
   try simp only[<-L,bne_self_eq_false];refine eW ?_
   refine O ?_;refine aR rfl (Zy (hE Y) (l.at Y)) ?_;rintro _ w' ⟨⟨r,rfl,R⟩,aw⟩;refine aL ?_;clear aw Y;intro Y;obtain rfl:=R.2 rfl;obtain⟨m,hm⟩:=À (eG t (f.take j) z);rw[<-hm]at x ⊢;have e:(if n>m then n else m)=eG t (f.take (j+1)) z:=by rw[x];split<;>omega
   refine O ?_;exact⟨j+1,⟨rfl,by rw[<-e];rfl,az⟩,aX,⟨U,Y⟩,U⟩
  have k:j=g.length:=U;have x:g.length=f.length:=U;rw[k,x,mK];refine O ?_;refine aR rfl (DX ((Y.dQ 3 rfl) (Y.dQ 5 rfl)) (u _ Y)) ?_;refine gk ?_;clear Y;intro w' Y;have y:kS t (eG t f) z=eG t f z:=by unfold kS;rw[ba bX]
  rw[y];refine aC ?_ ?_<;>intro K
  ·exact absurd trivial K
  refine O ?_;exact⟨i+1,⟨rfl,az⟩,aX,⟨U,Y⟩,U⟩
 refine O ?_;exact bo (v:=.bool true) rfl rfl ⟨rfl,iH Y⟩
end Go.Proofs.YtmapkjoefdgjfaaGreatDoor
