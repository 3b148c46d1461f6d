/- Several texts. -/
import Derived.Test.YtmapkjoefdgjfaaGreatDoorMW28H
set_option linter.unusedSimpArgs false
set_option linter.unusedVariables false
set_option linter.defProp false
set_option maxRecDepth 8000
set_option maxHeartbeats 16000000
open List Nat
namespace Go.Proofs.YtmapkjoefdgjfaaGreatDoor
open Go.Sl
variable {w0:World}{t:aa}{cv a:Value}{z:J}{R:List (List Bool × Int)}{cs:List jo}
section
open Go.Sl Go
attribute [local irreducible] vc opsW opsD opV opW PureV ReadV Thn Blk
def NU {lv:Value}{l:List bY}(d:RS aI w0 lv l) :
  Calls ak 288 #[lv] w0 fun e w'=>e=.returned (.tuple #[E (xl l).2,bS (xl l).1])/\Z w0 w' []:=by
 have Y:=Z.start w0;obtain⟨R,b⟩:=À (xl l);obtain⟨S,c⟩:=À (nD ⟨0,1⟩ l);rw[<-b];unfold xl at b;rw[<-c]at b;refine bI ar Tryz.func288 ?_;refine O ?_;refine aR rfl (ϧ (d.at Y)) ?_;refine gk ?_;clear Y;intro w' Y;rw[<-c];by_cases he:S.1=0
 ·rw[ba he]at b
  rw[ff he];refine ep ?_;intro p w Y;refine aR rfl (Ϩ S.2) ?_;refine iw ?_;intro w' Y;rw[b];exact dw (v:=E (mO S.2)) (v':=.nilIface) rfl rfl rfl ⟨by rw[ff rfl],iH Y⟩
 rw[aM he]at b;rw[c9 he];refine ep ?_;intro p w Y;rw[b];exact dw (v:=E 0) (v':=.iface 57 (E S.1)) rfl rfl rfl ⟨by rw[c9 he],iH Y⟩
def bF (b:Bool):bY:=if b=true then tZ else jy
def ϩ {k:Nat}(hk:k<R.length):(gV R).take (k+1)=(gV R).take k++[(R.getD k dR).1.map bF]:=by
 have b:k<(gV R).length:=by simpa [gV] using hk
 rw[eX [] b];congr 2;unfold gV;rw[aq (by simpa using hk),getElem_map,aq hk];rfl
def Ϫ {k:Nat}(hk:k<R.length):(jm R).take (k+1)=(jm R).take k++[xJ (R.getD k dR).2]:=by
 have b:k<(jm R).length:=by simpa [jm] using hk
 rw[eX dF b];congr 2;unfold jm;rw[aq (by simpa using hk),getElem_map,aq hk];rfl
def LP {ov:Value}{b:J}{C:List J}(hc:RS W w0 cv b)(j':b.length<=4096)(q:∀ x∈b,0<=x/\x<=1048576)(V:iX w0 ov cs C) :
  Calls ak 287 #[cv,ov] w0 fun e w'=>∃ lv,e=.returned (.tuple #[lv,bS (fJ 3 b C).1])/\Z w0 w' [X aI 409 lv (fJ 3 b C).2]:=by
 obtain⟨R,r⟩:=À (fJ 3 b C);rw[<-r];unfold fJ at r;have _c:=V.len;have _d:=V.rs;have Y:=Z.start w0;refine bI ar Tryz.func287 ?_;refine O ?_;refine aR rfl (LC (hc.at Y) q (V.at Y)) ?_;refine gk ?_;clear Y;intro w' Y;by_cases he:na b.length C=0
 case neg =>
  rw[aM he]at r;rw[c9 he];refine O ?_;rw[r];exact dw (v:=nS) (v':=.iface 57 (E (na b.length C))) rfl rfl rfl ⟨nS,by rw[c9 he],(Y.nil (T:=aI) (e:=409)).only⟩
 rw[ba he,aM dc,aM dc]at r;rw[ff he];obtain⟨o,V'⟩:=HC he;replace Y:=Y.nil (T:=aI) (e:=409);refine O ?_;refine dP [7,7,27,33] (G:=Nat) (H:=Value) (fun k bv=>[(27,E k),(7,bv)]) (fun k bv w=>k<=C.length/\Z w0 w [X aI 409 bv (replicate k tZ)]) (fun k _=>C.length-k) 0 (nS) (fun _ _=>rfl) ⟨rfl,rfl,az⟩ ⟨bC _,Y⟩ ?_;clear Y;rintro σ k bv w ⟨hk,Y⟩;have H':(replicate k tZ).length=k:=mp;refine aC ?_ ?_<;>intro h1
 ·refine O ?_
  refine aR rfl (Gp 1) ?_;refine iw ?_;intro w' Y;refine jA aI (x1:=tZ) rfl rfl rfl (fP rfl) (fg _) Y ?_;clear Y;intro sl w Y;refine kO ?_;intro s w Y;rw[<-CI (n:=k)]at Y;exact⟨k+1,_,⟨rfl,rfl,az⟩,aX,⟨U,Y.tail⟩,U⟩
 have g:k=C.length:=U;have h:replicate k tZ=iW C:=by rw[g];rfl
 rw[h]at Y;clear g h H' hk h1;refine O ?_;refine aR rfl (Zl (hc.at Y) j' (V.at Y) o) ?_;rintro _ w' ⟨j,c,rfl,_e,aw⟩;refine aO ?_;clear aw Y;intro Y;obtain⟨Q,hQ⟩:=À (gn b C);rw[<-hQ]at Y r;have F:kn (iW C) (gV Q) (jm Q):=by rw[hQ];exact Ky q
 have _f:c.length=Q.length:=(Y.dQ 0 rfl).len;have u:RS du w' j c:=(Y.dQ 0 rfl).rs;replace Y:=Y.nil (T:=aI) (e:=409);replace Y:=(Y.nil (T:=aA) (e:=388)).pH (T:=aI) (e:=409);replace Y:Z w0 w' [X aA 388 (nS) [],ai aI 409 [] ((gV Q).take 0),X aI 409 (nS) ((jm Q).take 0),X aI 409 bv (iW C),bA (fun w=>rR w j c Q)]:=Y.bj (Δ:=[X aA 388 (nS) [],ai aI 409 [] [],X aI 409 (nS) [],X aI 409 bv (iW C),bA (fun w=>rR w j c Q)]);refine O ?_;refine zw [8,9,11,12,14,14,38,69] (G:=Nat) (H:=Value) (I':=Value) (M':=List Value) (fun k D gv _=>[(38,E k),(9,D),(8,gv)]) (fun k D gv l w=>k<=c.length/\Z w0 w [X aA 388 D l,ai aI 409 l ((gV Q).take k),X aI 409 gv ((jm Q).take k),X aI 409 bv (iW C),bA (fun w=>rR w j c Q)]) (fun k _ _ _=>c.length-k) 0 (nS) (nS) [] (fun _ _ _ _=>rfl) ⟨rfl,rfl,rfl,az⟩ ⟨bC _,Y⟩ ?_;clear Y u;rintro _g k D gv l w ⟨hk,Y⟩;have y:rR w j c Q:=Y.dQ 4 rfl;have u:=y.rs;have _h:Q.length<=4096:=U;refine aC ?_ ?_<;>intro h2
 ·have d:k<Q.length:=U
  obtain⟨A,K⟩:=À ((Q.getD k dR).1);have L:=y.row k d;obtain⟨J',m⟩:=L;rw[<-K]at m;have N:=m.one;have _i:=m.cn;have _a:(du.enc (aB du c k)).all Value.oneCell'=true:=by
   show ((aB du c k).uQ.oneCell' && ((Value.int .i64 (aB du c k).aT).oneCell' && true))=true;rw[N];rfl
  have _j:A.length=C.length:=by
   have:=(Gy (C:=C) q (x:=Q.getD k dR) (by rw[<-hQ];exact cS dR d)).1;rw[K];exact this
  clear m;refine dj ?_;intro p w Y;replace Y:=Y.nil (T:=aI) (e:=409);obtain⟨P',rfl⟩:=À p;have R':du.enc (aB du c k)=[(aB du c k).uQ,E (aB du c k).aT]:=rfl;rw[R']at Y;have B:RS ah w (aB du c k).uQ A:=by
   have:=((Y.dQ 6 rfl:rR w j c Q).row k d).2;rw[<-K]at this;exact this
  refine O ?_;refine dP [12,12,14,14,45,58] (G:=Nat) (H:=Value) (fun i lv=>[(45,E i),(12,lv)]) (fun i lv w=>i<=A.length/\Z w0 w [X aI 409 lv ((A.take i).map bF),am P' 418 [(aB du c k).uQ,E (aB du c k).aT],X aA 388 D l,ai aI 409 l ((gV Q).take k),X aI 409 gv ((jm Q).take k),X aI 409 bv (iW C),bA (fun w=>rR w j c Q)]) (fun i _=>A.length-i) 0 (nS) (fun _ _=>rfl) ⟨rfl,rfl,az⟩ ⟨bC _,Y⟩ ?_;clear Y B;rintro _k i lv w ⟨hi,Y⟩;have B:RS ah w (aB du c k).uQ A:=by
   have:=((Y.dQ 6 rfl:rR w j c Q).row k d).2;rw[<-K]at this;exact this
  have T':((A.take i).map bF).length=i:=by rw[lA,jC];omega
  refine aC ?_ ?_<;>intro h3
  ·have S:i<A.length:=U
   have P:(A.take (i+1)).map bF=(A.take i).map bF++[bF (A.getD i ah.dflt)]:=by rw[eX ah.dflt S,qG];rfl
   refine O ?_;cases hb:A.getD i ah.dflt
   ·refine O ?_
    refine aR rfl (Gp 0) ?_;refine iw ?_;intro w' Y;refine jA aI (x1:=bF (A.getD i ah.dflt)) rfl (by rw[hb];rfl) rfl (fP rfl) (fg _) Y ?_;clear Y;intro sl w Y;refine kO ?_;intro s w Y;rw[<-P]at Y;exact⟨i+1,_,⟨rfl,rfl,az⟩,aX,⟨U,Y.tail⟩,U⟩
   refine O ?_;refine aR rfl (Gp 1) ?_;refine iw ?_;intro w' Y;refine jA aI (x1:=bF (A.getD i ah.dflt)) rfl (by rw[hb];rfl) rfl (fP rfl) (fg _) Y ?_;clear Y;intro sl w Y;refine kO ?_;intro s w Y;rw[<-P]at Y;exact⟨i+1,_,⟨rfl,rfl,az⟩,aX,⟨U,Y.tail⟩,U⟩
  rw[io (show A.length<=i by omega)]at Y;have _l:=(bB (s:=lv) Y).one;have _m:l.length<=k:=by
   have h1:=(Y.bN 3 rfl).bU;rw[jC]at h1;omega
  have _b:((jm Q).take k).length<=k:=by rw[jC];omega
  clear B T';refine O ?_;refine gi (pl [0,1,4,5,6,2] (.cY 6::pl [3] (.cY 6::pl [7,8,9,10,11] []))) Y kr ?_;clear Y;intro w Y
  repeat (first|refine dS ?_|(refine gA ?_;clear Y;intro s w Y))
  obtain⟨P,rfl⟩:=À s;refine aR rfl (Gp (aB du c k).aT) ?_;refine iw ?_;intro w' Y;refine jA aI (x1:=xJ (aB du c k).aT) rfl rfl rfl (fP rfl) (fg _) Y ?_;clear Y;intro sl w Y;refine qJ ?_;intro s w Y;obtain⟨S,rfl⟩:=À s;replace Y:Z w0 w [X aI 409 lv (A.map bF),ai aI 409 l ((gV Q).take k),X aA 388 P (l++[lv]),X aI 409 S ((jm Q).take k++[xJ (aB du c k).aT]),X aI 409 bv (iW C),bA (fun w=>rR w j c Q)]:=Y.bj;replace Y:=Y.jv;rw[K,<-ϩ d,J',<-Ϫ d]at Y;exact⟨k+1,P,S,l++[lv],⟨rfl,rfl,rfl,az⟩,aX,⟨U,Y.swap⟩,U⟩
 have g:k=Q.length:=U;rw[g,io (by simp[gV]),io (by simp[jm])]at Y;clear y u g hk h2;refine O ?_;have h:(iW C).length<=24:=by simp[iW];exact o
 refine aR rfl (Ŷ F (bB (s:=bv) Y) ⟨bB (s:=D) Y,(Y.bN 1 rfl).bU,fun i hi=>(Y.bN 1 rfl).row hi⟩ (bB (s:=gv) Y) h) ?_;rintro _ w' ⟨f,m,B,rfl,aw⟩;rw[<-r]at aw ⊢;refine aO ?_;clear aw Y;intro Y;by_cases d:R.1=0
 ·rw[ff d]
  refine ep ?_;intro p w Y;exact dw (v:=m) (v':=.nilIface) rfl rfl rfl ⟨m,rfl,Y.bj⟩
 rw[c9 d];refine ep ?_;intro p w Y;exact dw (v:=m) (v':=.iface 57 (E R.1)) rfl rfl rfl ⟨m,rfl,Y.bj⟩
end
section
open Go.Sl Go Go.Extern
attribute [local irreducible] vc opsW opsD opV opW PureV ReadV Thn Blk
def A8 (k:Int)(w:World):(callFunc 283 #[.iface 57 (E k)]).run ak w=.ok (.value (.iface 398 (.agg #[Go.typeHandle ak 57]))) w:=by
 have h:=@run_callFunc_extern ak 283 _ Extern.ReflectliteType.typeOf Tryz.func283 kr kr kr kr;rw[h];have b:(Extern.ReflectliteType.typeOf #[.iface 57 (E k)]).run ak w=.ok (.iface 398 (.agg #[Go.typeHandle ak 57])) w:=kr;rw[b];rfl
def Hh (w:World):(callFunc 347 #[.agg #[Go.typeHandle ak 57]]).run ak w=.ok (.value (.bool true)) w:=by
 have h:=@run_callFunc_extern ak 347 _ (Extern.ReflectliteType.method fun t=>do Rtype.noPackHeld "Comparable" t; pure (.bool (<- typeInfo t).comparable)) Tryz.func347 kr kr kr kr;rw[h];have b:((Extern.ReflectliteType.method fun t=>do Rtype.noPackHeld "Comparable" t; pure (.bool (<- typeInfo t).comparable)) #[.agg #[Go.typeHandle ak 57]]).run ak w = .ok (.bool true) w := by kernel_rfl
 rw[b];rfl
def Hi:pd ak 398 (.agg #[Go.typeHandle ak 57]) "Comparable" 347 (.agg #[Go.typeHandle ak 57]) := fun m w => by kernel_rfl
def GX:∃ ms,(ak).underlying 46=some (.interface ms):=by
 have h:mf ak 46:=inferInstance;have h:=h.ok;split at h
 ·rename_i m hm;exact⟨m,hm⟩
 cases h
def Ph:(ak).underlying 57=some (.int .i64):=kr
def Pi:((ak).info? 57).map (·.comparable)=some true:=kr
def VE (P:Program)(t a:TypeId):Bool:=match P.underlying a with
 | some (.interface want)=>(match (P.info? t).map (fun i=>(lacking want i.methods).isEmpty) with|some false=>true|_=>false) && (match (P.info? a).map (·.zero) with|some (some Value.nilIface)=>true|_=>false)
 | _=>false
def NV {ρ:Fr}{ty:TypeId}{pos:String}{af:Array Edge}{x:Operand}{t c:TypeId}{dst:Option Nat}{g:Option (Nat × Bool)}{v:Value}{u:TypeId}(hx:bh ρ x=.iface u v)(h:VE ak u t=true):PureV ak ⟨dst,.typeAssert x c t true,ty,pos,af,g⟩ ρ (.tuple #[.nilIface,.bool false]):=by
 unfold VE at h;split at h
 ·rename_i want hu
  rw[Bool.and_eq_true]at h;obtain⟨h1,b⟩:=h;refine γ hx hu ?_ ?_
  ·split at h1
   ·assumption
   cases h1
  split at b
  ·assumption
  cases b
 cases h
def ϫ (c k:Int) :
  Calls ak 284 #[.iface 57 (E c),.iface 57 (E k),.bool true] w0 fun e w'=>e=.returned (.bool (c == k))/\Z w0 w' []:=by
 have Y:=Z.start w0;obtain⟨ms,d⟩:=GX;refine bI ar Tryz.func284 ?_;refine O ?_;refine de [0,0,6,10,12,53] (G:=Unit) (fun _=>[(0,.iface 57 (E c))]) (fun _ w=>Z w0 w []) (fun _=>0) () (fun _=>rfl) ⟨rfl,az⟩ Y ?_;clear Y;rintro g ⟨⟩ w Y;refine O ?_;refine fR rfl (δ (a:=c) (b:=k) rfl rfl d Pi Ph) ?_;cases f:(c == k)
 ·refine O ?_
  refine fR rfl (NV rfl kr) ?_;refine O ?_;refine fR rfl (NV rfl kr) ?_;refine O ?_;refine fR rfl (NV rfl kr) ?_;refine O ?_;exact bo (v:=.bool false) rfl rfl ⟨rfl,Y⟩
 refine O ?_;exact bo (v:=.bool true) rfl rfl ⟨rfl,Y⟩
instance qBm:au ak 277:=⟨kr⟩
instance qBn:au ak 284:=⟨kr⟩
def NW (c k:Int) :
  Calls ak 277 #[bS c,.iface 57 (E k)] w0 fun e w'=>e=.returned (.bool (decide (c≠0/\c=k)))/\Z w0 w' []:=by
 have Y:=Z.start w0;obtain⟨ms,b⟩:=GX;refine bI ar Tryz.func277 ?_;by_cases d:c=0
 ·rw[ff d]
  refine O ?_;refine fR rfl (ε rfl rfl b) ?_;refine O ?_;exact bo (v:=.bool false) rfl rfl ⟨by rw[dB fun h=>h.1 d],Y⟩
 rw[c9 d];refine O ?_;refine Ψ rfl (A8 k w0) ?_;refine O ?_;refine Ω Hi rfl rfl (Hh w0) ?_;refine O ?_;refine aR rfl (ϫ c k) ?_;rintro _ w' ⟨rfl,aw⟩;refine aL ?_;clear aw Y;intro Y;refine O ?_;exact bo (v:=.bool (c == k)) rfl rfl ⟨by rw[show decide (c≠0/\c=k)=(c == k) from ?_];by_cases h:c=k<;>simp[h]at *;assumption,Y⟩
end
section
open Go.Sl Go
attribute [local irreducible] vc opsW opsD opV opW PureV ReadV Thn Blk
def Ϭ {s:J}{f:bE}{l:List bE}{out:List J}:gq t s (f::l) out=if sS t s f∈out then gq t s l out else gq t s l (out++[sS t s f]):=by rw[gq]
def ϭ {f:bE}(I:aJ t):(∀ x∈sS t z f,0<=x/\x<t.M.length)/\(sS t z f).length<=262144:=by
 constructor
 ·intro x hx
  obtain⟨u,hu,rfl⟩:=iG.1 (EU.1 hx);have:=(NM I (wT.1 hu).1).1;omega
 have h1:=RK (((nA t).filter (tQ t z f)).map fun u=>(u.op:Int));rw[lA]at h1;have b:=wV (tQ t z f) (nA t);have c:=Vm I;show (dZ _).length<=_;omega
def Ϯ {L:Addr}{gv lv sv:Value}{us:List vn}(A:q9 w0 L t a gv cv lv us)(I:aJ t)(N:RS W w0 sv z)(bX:aj t.vars z) :
  Calls ak 276 #[.pointer (some L),sv] w0 fun e w'=>(¬ub t z ⟨-1,-1⟩/\e=.returned (.tuple #[nS,bS 3])/\Z w0 w' [])\/∃ b cs,ub t z ⟨-1,-1⟩/\e=.returned (.tuple #[b,.nilIface])/\cs.length<=4096/\Z w0 w' [bA fun w=>iX w b cs (gq t z (dK t z) [])]:=by
 have j':(ao t).length=t.M.length:=tC t;have H':(dK t z).length<=4096:=by
  have h1:=wV (sD t z) (ki t.vars);have P:=JI (fun i B=>(I.pC i B).2) t.vars.length (cP _);have c:oW t.vars t.vars.length=ki t.vars:=rfl;rw[c]at P;have:=I.vars;show ((ki t.vars).filter (sD t z)).length<=_;omega
 have Y:=Z.start w0;refine bI ar Tryz.func276 ?_;have J':=A.box;have P':=A.aN;refine O ?_;refine aR rfl (D_ (A.at Y) I (N.at Y) bX) ?_;rintro _ w' u;rcases u with ⟨hn,rfl,aw⟩|⟨o,D,rfl,aw⟩
 ·replace Y:=Y.cH aw
  refine⟨_,rfl,?_⟩;rw[c9 dc];refine O ?_;exact dw (v:=nS) (v':=.iface 57 (E 3)) rfl rfl rfl (.inl ⟨hn,rfl,Y⟩)
 refine aO ?_;clear aw Y;intro Y;replace Y:=Y.nil (T:=cq) (e:=361);replace Y:=Z.r6 (φ:=l8 [] []) (fun w i B=>absurd B (eo _)) Y;replace Y:Z w0 w' [X cq 361 (nS) [],bA (l8 [] []),X aD 63 o (dK t z)]:=Y.bj;refine O ?_;refine zw [8,8,10,11,13,13,25,60] (G:=Nat) (H:=Value) (I':=List jo) (M':=List J) (fun k b _ _=>[(25,E k),(8,b)]) (fun k b cs C w=>k<=(dK t z).length/\cs.length<=k/\cs.length=C.length/\gq t z (dK t z) []=gq t z ((dK t z).drop k) C/\Z w0 w [X cq 361 b cs,bA (l8 cs C),X aD 63 o (dK t z)]) (fun k _ _ _=>(dK t z).length-k) 0 (nS) [] [] (fun _ _ _ _=>rfl) ⟨rfl,rfl,az⟩ ⟨bC _,cP _,rfl,rfl,Y⟩ ?_;clear Y;rintro σ k b cs C w ⟨hk,R',d,g,Y⟩;refine aC ?_ ?_<;>intro h1
 ·have F:k<(dK t z).length:=U
  obtain⟨f,Q⟩:=À ((dK t z).getD k aD.dflt);rw[tK aD.dflt F,<-Q,Ϭ]at g;obtain⟨K,S⟩:=À (sS t z f);obtain⟨V,r2⟩:=ϭ (t:=t) (z:=z) (f:=f) I;rw[<-S]at g V r2;refine dj ?_;intro p w Y;obtain⟨T',rfl⟩:=À p;rw[<-Q]at Y ⊢;refine aR rfl (H_ (f:=f) (A.at Y) I (N.at Y) bX) ?_;rintro _ w' ⟨c,rfl,aw⟩;refine aO ?_;clear aw Y;intro Y;rw[<-S]at Y;have j:=(bB (s:=c) Y).one;refine O ?_;refine zr (v1:=c) (v2:=E 1125899906842624) rfl rfl rfl (by simp only[fo,fB,j];rfl) ?_;refine GS ?_;intro p w Y;obtain⟨q,rfl⟩:=À p;refine lm (n:=2) (p:=q) (vs:=[c,E 1125899906842624]) rfl rfl Y inferInstance rfl rfl (by simp only[fo,fB,j];rfl) ?_;clear Y;intro w Y;replace Y:Z w0 w [am q 361 [c,E 1125899906842624],X W 3 c K,X cq 361 b cs,bA (l8 cs C),X aD 63 o (dK t z)]:=Y.bj;refine O ?_;refine aR rfl (ϔ (pc:=q) (K:=K) ⟨bB (s:=b) Y,d,Y.dQ 3 rfl⟩ (rk (p:=q) Y) (bB (s:=c) Y)) ?_;rintro _ w' ⟨⟨r,rfl,y⟩,aw⟩;refine aL ?_;clear aw Y;intro Y;cases r
  case true =>
   have hm:=y.1 rfl;rw[ba hm]at g;refine O ?_;exact⟨k+1,b,cs,C,⟨rfl,rfl,az⟩,aX,⟨U,U,d,g,Y.tail.tail⟩,U⟩
  have hm:K∉C:=fun h=>by cases y.2 h
  rw[aM hm]at g;refine O ?_;refine dP [13,13,40,55] (G:=Nat) (H:=Int) (fun i _=>[(40,E i)]) (fun i m w=>i<=K.length/\Z w0 w [am q 361 [c,E m],X W 3 c K,X cq 361 b cs,bA (l8 cs C),X aD 63 o (dK t z)]) (fun i _=>K.length-i) 0 1125899906842624 (fun _ _=>rfl) ⟨rfl,az⟩ ⟨bC _,Y⟩ ?_;clear Y;rintro V' i m w ⟨B,Y⟩;refine aC ?_ ?_<;>intro P
  ·have l:i<K.length:=U
   have _a:=V _ (cS W.dflt l);refine dD ?_;intro w Y;simp only[mY,lO]at Y;exact⟨i+1,_,⟨rfl,az⟩,aX,⟨U,Y⟩,U⟩
  refine O ?_;refine jA cq (x1:=⟨c,m⟩) rfl rfl rfl (fP rfl) (fg _) Y ?_;clear Y;intro so w Y;refine sF (s:=b) (s2:=so) inferInstance rfl rfl (bB Y) rfl rfl (fun x hx v hv=>?_) (by simp only[length_cons,length_nil];omega) (by unfold cn;simp only[length_cons,length_nil];omega) Y ?_
  ·rw[fU.1 hx]at hv
   simp only[cq,gT,jd,pQ]at hv;rcases hv with rfl|rfl
   ·exact j
   rfl
  clear Y;intro l w Y;refine O ?_;replace Y:Z w0 w [X W 3 c K,bA (l8 cs C),X cq 361 l (cs++[⟨c,m⟩]),X aD 63 o (dK t z)]:=Y.bj;replace Y:=Z.rd (Δ:=[X W 3 c K,bA (l8 cs C)]) (φ:=l8 (cs++[⟨c,m⟩]) (C++[K])) (fun _ w h=>(h.dQ 1 rfl).gD d (h.rs 0 rfl)) Y;exact⟨k+1,l,_,C++[K],⟨rfl,rfl,az⟩,aX,⟨U,by simp;omega,by simp[d],g,Y.bj (Δ:=[X cq 361 l (cs++[⟨c,m⟩]),bA (l8 (cs++[⟨c,m⟩]) (C++[K])),X aD 63 o (dK t z)])⟩,U⟩
 rw[oG U]at g;refine O ?_;replace Y:=Z.rd (Δ:=[X cq 361 b cs,bA (l8 cs C)]) (φ:=fun w=>iX w b cs (gq t z (dK t z) [])) (fun _ w h=>by rw[g];exact⟨h.rs 0 rfl,d,h.dQ 1 rfl⟩) Y;exact dw (v:=b) (v':=.nilIface) rfl rfl rfl (.inr ⟨b,cs,D,rfl,U,Y.only⟩)
def ju (t:aa)(k:Nat):List vr:=(List.range k).flatMap (uk t)
def kj (t:aa)(k j:Nat):List vr:=(List.range j).map fun j=>⟨k,mP (t.M.getD k bz) j,wU (t.M.getD k bz) j⟩
def EH (t:aa)(k j:Nat):kj t k (j+1)=kj t k j++[⟨k,mP (t.M.getD k bz) j,wU (t.M.getD k bz) j⟩]:=by
 unfold kj;rw[lN,qG];rfl
def ϯ (t:aa)(k:Nat):ju t (k+1)=ju t k++kj t k (t.M.getD k bz).aQ.length:=by
 unfold ju;rw[lN,ya];simp[uk,kj]
def ϰ {b c d:Value}{vs:List kq}(ht:bR w0 a b c d vs t)(I:aJ t) :
  Calls ak 275 #[.agg #[a,b,c,d]] w0 fun e w'=>∃ p a2 gv cv lv us,e=.returned (.tuple #[.pointer (some p),.nilIface])/\Z w0 w' [bA fun w=>q9 w p t a2 gv cv lv us]:=by
 have j':=ht;obtain⟨ha,hb,hc,hd⟩:=ht;have _d:=hd.rs;have _e:=hd.len;have _f:=I.vars;have _g:=I.M;have _h:=tR I.aF;have Y:=Z.start w0;refine bI ar Tryz.func275 ?_;refine dj ?_;clear Y;intro y w Y;refine aR rfl (xL (j'.at Y)) ?_;rintro _ w' ⟨rfl,aw⟩;refine aL ?_;clear aw Y;intro Y;rw[ff ((tE t).2 I)];refine O ?_;refine gi (pl [0,1,3,4,2] (.cY 4::pl [5,6,7,8] [])) Y kr ?_;clear Y;intro w Y;refine O ?_;refine aR rfl (pU (ha.at Y) U) ?_;rintro _ w' ⟨a2,rfl,aw⟩;refine aO ?_;clear aw Y;intro Y;have oa:=(bB (s:=a2) Y).one;refine O ?_;refine aR rfl (Ff (hc.at Y) U) ?_;rintro _ w' ⟨gv,rfl,aw⟩;refine aO ?_;clear aw Y;intro Y;have og:=(bB (s:=gv) Y).one;refine O ?_;refine mX (vs:=[(0,a2),(1,gv)]) (ls:=[(0,[a2]),(1,[gv])]) rfl (by simp only[pV,uL,BB oa,BB og]) rfl ?_;refine Bn ?_;refine Bz ?_;refine zx (vs:=[a2,gv,nS,nS]) rfl Y ?_;clear Y;intro o w Y;have q:Z w0 w (am o 376 [a2,gv,(nS),(nS)]::X W 3 (nS) ((ao t).take 0)::X kN 378 (nS) ([]:List vn)::bA (rI ([]:List vn) (ju t 0))::X W 3 a2 t.vars::X aD 63 gv t.aF::[am y 26 [a,b,c,d]]):=by
  have g1:Z w0 w [am o 376 [a2,gv,(nS),(nS)],X aD 63 gv t.aF,X W 3 a2 t.vars,am y 26 [a,b,c,d]]:=Y;have g2:=Z.r6 (φ:=rI [] []) (fun w i g=>absurd g (eo _)) ((g1.nil (T:=W) (e:=3)).nil (T:=kN) (e:=378));have f:ju t 0=[]:=by simp[ju]
  rw[f,yn];exact g2.cu
 clear Y;have Y:=q;clear q;refine O ?_;refine zw [6,7,9,9,26,72] (G:=Nat) (H:=Value) (I':=Value) (M':=List vn) (fun k _ _ _=>[(26,E k)]) (fun k cv lv us w=>k<=t.M.length/\us.length=(ju t k).length/\Z w0 w (am o 376 [a2,gv,cv,lv]::X W 3 cv ((ao t).take k)::X kN 378 lv us::bA (rI us (ju t k))::X W 3 a2 t.vars::X aD 63 gv t.aF::[am y 26 [a,b,c,d]])) (fun k _ _ _=>t.M.length-k) 0 (nS) (nS) [] (fun _ _ _ _=>rfl) ⟨rfl,az⟩ ⟨bC _,by simp[ju],Y⟩ ?_;clear Y;rintro _i k cv lv us w ⟨hk,g,Y⟩;refine aC ?_ ?_<;>intro h2
 ·have D:k<t.M.length:=U
  have A:=hd.eI k D;have P':=A.one;have C:=A.pre;have hgo:=I.op k D;have _j:=tR hgo.pre;have _k:=hgo.aQ;have H':=A.aT;obtain⟨es,F⟩:=A.aQ;have R':=F.rs;have T':=F.len;have _l:(ao t).length=t.M.length:=tC t;have V':((ao t).take k).length=k:=by rw[jC];omega
  have N:(ao t).take (k+1)=(ao t).take k++[(aB cN vs k).aT]:=by rw[eX W.dflt U,tD D,H']
  have J':=NN I k hk;refine dj ?_;clear Y;intro P w Y;refine gi (pl [0,1,2,3,4,5,6,7] (.cY 4::pl [8,9,10,11] [])) Y kr ?_;clear Y;intro w Y
  repeat (first|refine dS ?_|(refine uP ?_;clear Y;intro w Y)|(refine gA ?_;clear Y;intro s w Y))
  simp only[mY,lO]at Y;rw[<-N]at Y;obtain⟨l,rfl⟩:=À s;have q:Z w0 w (am o 376 [a2,gv,l,lv]::X W 3 l ((ao t).take (k+1))::X kN 378 lv us::bA (rI us (ju t k++kj t k 0))::am P 44 (cN.enc (aB cN vs k))::X W 3 a2 t.vars::X aD 63 gv t.aF::[am y 26 [a,b,c,d]]):=by
   have f:kj t k 0=[]:=rfl;rw[f,gj];exact Y.cu
  clear Y;have Y:=q;clear q;refine O ?_;refine pu [9,9,45,71] (G:=Nat) (H:=Value) (I':=List vn) (fun j _ _=>[(45,E j)]) (fun j lv us w=>j<=(t.M.getD k bz).aQ.length/\us.length=(ju t k++kj t k j).length/\Z w0 w (am o 376 [a2,gv,l,lv]::X W 3 l ((ao t).take (k+1))::X kN 378 lv us::bA (rI us (ju t k++kj t k j))::am P 44 (cN.enc (aB cN vs k))::X W 3 a2 t.vars::X aD 63 gv t.aF::[am y 26 [a,b,c,d]])) (fun j _ _=>(t.M.getD k bz).aQ.length-j) 0 lv us (fun _ _ _=>rfl) ⟨rfl,az⟩ ⟨bC _,by simpa [kj] using g,Y⟩ ?_;clear Y g lv us;rintro _m j lv us w ⟨hj,g,Y⟩;have _a:(ju t k++kj t k j).length=(ju t k).length+j:=by simp[kj]
  have _b:(ju t k).length<=64*k:=J';refine aC ?_ ?_<;>intro h3
  ·have Q:j<(t.M.getD k bz).aQ.length:=U
   have B:=F.eI j Q;have S:=hgo.fS j Q;have _c:=B.one;have _n:=B.cb;have _o:=tR S.1;have K:=B.var;have L:=B.val;refine dj ?_;clear Y;intro _p w Y;refine u7 (.s [0,1,2,3,5,6,9,12,14,4,7,10,13,15] (.d 8 [4,10,13,15] (.d 11 [4,13,15] (.c 16 [4,7,10] (.c 17 [4] (.c 18 [4] (.s [19,20,21,22] (.jz []))))) (.d 16 [4,7,10] (.c 11 [4,13,15] (.c 17 [4] (.c 18 [4] (.s [19,20,21,22] (.jz []))))) (.stop))) (.d 16 [4,7,10] (.c 8 [4,10,13,15] (.c 11 [4,13,15] (.c 17 [4] (.c 18 [4] (.s [19,20,21,22] (.jz [])))))) (.stop)))) Y kr kr ?_;clear Y;intro w Y;refine O ?_;refine jl ?_ (jl ?_ pP)
   ·refine O ?_
    refine aR rfl (Ff (C.at Y) U) ?_;rintro _ w' ⟨nd,rfl,aw⟩;refine aO ?_;clear aw Y;intro Y;refine O ?_;refine jl ?_ (jl ?_ pP)
    ·refine qJ ?_;clear Y;intro s w Y
     obtain⟨f,rfl⟩:=À s;have n:=(bB (s:=f) Y).one;refine mX (vs:=[(0,E (k:Int)),(1,f),(2,.agg #[E (aB bm es j).var,E (aB bm es j).val])]) (ls:=[(0,[E (k:Int)]),(1,[f]),(2,[E (aB bm es j).var,E (aB bm es j).val])]) rfl (by simp only[pV,uL,BB n];rfl) rfl ?_;refine O ?_;refine jA kN (x1:=⟨k,f,⟨(aB bm es j).var,(aB bm es j).val⟩⟩) rfl rfl rfl (fP rfl) (fg _) Y ?_;clear Y;intro V w Y;refine O ?_;refine sF (s:=lv) (s2:=V) inferInstance rfl rfl (bB Y) rfl rfl (fun x hx v hv=>?_) (by simp only[length_cons,length_nil];omega) (by unfold cn;simp only[length_cons,length_nil];omega) Y ?_
     ·rw[fU.1 hx]at hv
      simp only[kN,gT,jd,pQ]at hv;rcases hv with rfl|rfl|rfl|rfl
      ·rfl
      ·exact n
      ·rfl
      rfl
     clear Y;intro m w Y;refine dD ?_;clear Y;intro w Y;simp only[mY,lO]at Y;have r:Z w0 w (X aD 63 f ((t.M.getD k bz).pre++((t.M.getD k bz).aQ.getD j bQ).cb)::bA (rI us (ju t k++kj t k j))::am o 376 [a2,gv,l,m]::X W 3 l ((ao t).take (k+1))::X kN 378 m (us++[⟨k,f,⟨(aB bm es j).var,(aB bm es j).val⟩⟩])::am P 44 (cN.enc (aB cN vs k))::X W 3 a2 t.vars::X aD 63 gv t.aF::[am y 26 [a,b,c,d]]):=Y.bj
     have u:=Z.rd (Δ:=[X aD 63 f ((t.M.getD k bz).pre++((t.M.getD k bz).aQ.getD j bQ).cb),bA (rI us (ju t k++kj t k j))]) (φ:=rI (us++[⟨k,f,⟨(aB bm es j).var,(aB bm es j).val⟩⟩]) (ju t k++kj t k (j+1))) (fun _ w h=>by
      rw[EH,<-fk];refine(h.dQ 1 rfl).gD g ⟨rfl,?_,h.rs 0 rfl⟩
      rw[K,L];rfl) r
     exact⟨j+1,m,us++[⟨k,f,⟨(aB bm es j).var,(aB bm es j).val⟩⟩],⟨rfl,az⟩,aX,⟨U,by rw[EH,<-fk,length_append,length_append,g];rfl,u.cu⟩,U⟩
    refine qJ ?_;clear Y;intro s w Y;obtain⟨f,rfl⟩:=À s;have n:=(bB (s:=f) Y).one;refine mX (vs:=[(0,E (k:Int)),(1,f),(2,.agg #[E (aB bm es j).var,E (aB bm es j).val])]) (ls:=[(0,[E (k:Int)]),(1,[f]),(2,[E (aB bm es j).var,E (aB bm es j).val])]) rfl (by simp only[pV,uL,BB n];rfl) rfl ?_;refine O ?_;refine jA kN (x1:=⟨k,f,⟨(aB bm es j).var,(aB bm es j).val⟩⟩) rfl rfl rfl (fP rfl) (fg _) Y ?_;clear Y;intro V w Y;refine O ?_;refine sF (s:=lv) (s2:=V) inferInstance rfl rfl (bB Y) rfl rfl (fun x hx v hv=>?_) (by simp only[length_cons,length_nil];omega) (by unfold cn;simp only[length_cons,length_nil];omega) Y ?_
    ·rw[fU.1 hx]at hv
     simp only[kN,gT,jd,pQ]at hv;rcases hv with rfl|rfl|rfl|rfl
     ·rfl
     ·exact n
     ·rfl
     rfl
    clear Y;intro m w Y;refine dD ?_;clear Y;intro w Y;simp only[mY,lO]at Y;have r:Z w0 w (X aD 63 f ((t.M.getD k bz).pre++((t.M.getD k bz).aQ.getD j bQ).cb)::bA (rI us (ju t k++kj t k j))::am o 376 [a2,gv,l,m]::X W 3 l ((ao t).take (k+1))::X kN 378 m (us++[⟨k,f,⟨(aB bm es j).var,(aB bm es j).val⟩⟩])::am P 44 (cN.enc (aB cN vs k))::X W 3 a2 t.vars::X aD 63 gv t.aF::[am y 26 [a,b,c,d]]):=Y.bj
    have u:=Z.rd (Δ:=[X aD 63 f ((t.M.getD k bz).pre++((t.M.getD k bz).aQ.getD j bQ).cb),bA (rI us (ju t k++kj t k j))]) (φ:=rI (us++[⟨k,f,⟨(aB bm es j).var,(aB bm es j).val⟩⟩]) (ju t k++kj t k (j+1))) (fun _ w h=>by
     rw[EH,<-fk];refine(h.dQ 1 rfl).gD g ⟨rfl,?_,h.rs 0 rfl⟩
     rw[K,L];rfl) r
    exact⟨j+1,m,us++[⟨k,f,⟨(aB bm es j).var,(aB bm es j).val⟩⟩],⟨rfl,az⟩,aX,⟨U,by rw[EH,<-fk,length_append,length_append,g];rfl,u.cu⟩,U⟩
   refine O ?_;refine aR rfl (Ff (C.at Y) U) ?_;rintro _ w' ⟨nd,rfl,aw⟩;refine aO ?_;clear aw Y;intro Y;refine qJ ?_;clear Y;intro s w Y;obtain⟨f,rfl⟩:=À s;have n:=(bB (s:=f) Y).one;refine mX (vs:=[(0,E (k:Int)),(1,f),(2,.agg #[E (aB bm es j).var,E (aB bm es j).val])]) (ls:=[(0,[E (k:Int)]),(1,[f]),(2,[E (aB bm es j).var,E (aB bm es j).val])]) rfl (by simp only[pV,uL,BB n];rfl) rfl ?_;refine O ?_;refine jA kN (x1:=⟨k,f,⟨(aB bm es j).var,(aB bm es j).val⟩⟩) rfl rfl rfl (fP rfl) (fg _) Y ?_;clear Y;intro V w Y;refine O ?_;refine sF (s:=lv) (s2:=V) inferInstance rfl rfl (bB Y) rfl rfl (fun x hx v hv=>?_) (by simp only[length_cons,length_nil];omega) (by unfold cn;simp only[length_cons,length_nil];omega) Y ?_
   ·rw[fU.1 hx]at hv
    simp only[kN,gT,jd,pQ]at hv;rcases hv with rfl|rfl|rfl|rfl
    ·rfl
    ·exact n
    ·rfl
    rfl
   clear Y;intro m w Y;refine dD ?_;clear Y;intro w Y;simp only[mY,lO]at Y;have r:Z w0 w (X aD 63 f ((t.M.getD k bz).pre++((t.M.getD k bz).aQ.getD j bQ).cb)::bA (rI us (ju t k++kj t k j))::am o 376 [a2,gv,l,m]::X W 3 l ((ao t).take (k+1))::X kN 378 m (us++[⟨k,f,⟨(aB bm es j).var,(aB bm es j).val⟩⟩])::am P 44 (cN.enc (aB cN vs k))::X W 3 a2 t.vars::X aD 63 gv t.aF::[am y 26 [a,b,c,d]]):=Y.bj
   have u:=Z.rd (Δ:=[X aD 63 f ((t.M.getD k bz).pre++((t.M.getD k bz).aQ.getD j bQ).cb),bA (rI us (ju t k++kj t k j))]) (φ:=rI (us++[⟨k,f,⟨(aB bm es j).var,(aB bm es j).val⟩⟩]) (ju t k++kj t k (j+1))) (fun _ w h=>by
    rw[EH,<-fk];refine(h.dQ 1 rfl).gD g ⟨rfl,?_,h.rs 0 rfl⟩
    rw[K,L];rfl) r
   exact⟨j+1,m,us++[⟨k,f,⟨(aB bm es j).var,(aB bm es j).val⟩⟩],⟨rfl,az⟩,aX,⟨U,by rw[EH,<-fk,length_append,length_append,g];rfl,u.cu⟩,U⟩
  have f:j=(t.M.getD k bz).aQ.length:=U;rw[f,<-ϯ]at Y g;refine O ?_;exact⟨k+1,l,lv,us,⟨rfl,az⟩,aX,⟨U,g,Y.cu⟩,U⟩
 have f:k=t.M.length:=U;subst f;rw[io (by rw[tC];exact cP _)]at Y;refine O ?_;have j:=Z.rd (Δ:=[am o 376 [a2,gv,cv,lv],X W 3 cv (ao t),X kN 378 lv us,bA (rI us (nA t)),X W 3 a2 t.vars,X aD 63 gv t.aF]) (Γ:=[am y 26 [a,b,c,d]]) (φ:=fun w=>q9 w o t a2 gv cv lv us) (fun _ w h=>⟨h.dA 0 rfl,h.rs 4 rfl,h.rs 5 rfl,h.rs 1 rfl,h.rs 2 rfl,g,h.dQ 3 rfl⟩) Y;exact dw (v:=.pointer (some o)) (v':=.nilIface) rfl rfl rfl ⟨o,a2,gv,cv,lv,us,rfl,j.bj⟩
def yC:Prop:=∀ {w0:World}{cv c:Value}{b:J}{cs:List jo}{C:List J},RS W w0 cv b->b.length<=4096->(∀ x∈b,0<=x/\x<=1048576)->iX w0 c cs C ->
  Calls ak 287 #[cv,c] w0 fun e w'=>∃ d,e=.returned (.tuple #[d,bS (fJ 3 b C).1])/\Z w0 w' [X aI 409 d (fJ 3 b C).2]
def VF {l:Value}{b:J}{C:List J}{kind:Int}(hO:kind=3->yC)(m:1<=kind)(n:kind<=3)(j:RS W w0 cv b)(f:b.length<=4096)(g:∀ x∈b,0<=x/\x<=1048576)(k:iX w0 l cs C) :
  Calls ak 278 #[E kind,cv,l] w0 fun e w'=>e=.returned (.tuple #[E (uI kind b C).2,bS (uI kind b C).1])/\Z w0 w' []:=by
 obtain⟨R,d⟩:=À (uI kind b C);obtain⟨V,i⟩:=À (fJ kind b C);rw[<-d];unfold uI at d;rw[<-i]at d;have Y:=Z.start w0;refine bI ar Tryz.func278 ?_;have hk:kind=1\/kind=2\/kind=3:=U;rcases hk with rfl|rfl|rfl
 ·refine O ?_
  refine aR rfl (ϱ (j.at Y) f g (k.at Y)) ?_;rintro _ w' ⟨h,rfl,aw⟩;rw[<-i]at aw ⊢;refine aO ?_;clear aw Y;intro Y;by_cases he:V.1=0
  ·rw[ba he]at d
   rw[ff he];refine O ?_;refine aR rfl (NU (bB (s:=h) Y)) ?_;refine gk ?_;clear Y;intro w' Y;rw[<-d];by_cases c:R.1=0
   ·rw[ff c]
    refine O ?_;exact dw (v:=E R.2) (v':=.nilIface) rfl rfl rfl ⟨rfl,iH Y⟩
   rw[c9 c];refine O ?_;exact dw (v:=E R.2) (v':=.iface 57 (E R.1)) rfl rfl rfl ⟨rfl,iH Y⟩
  rw[aM he]at d;rw[c9 he];refine O ?_;rw[d];exact dw (v:=E 0) (v':=.iface 57 (E V.1)) rfl rfl rfl ⟨by rw[c9 he],iH Y⟩
 ·refine O ?_
  refine aR rfl (Za (j.at Y) f g (k.at Y)) ?_;rintro _ w' ⟨h,rfl,aw⟩;rw[<-i]at aw ⊢;refine aO ?_;clear aw Y;intro Y;by_cases he:V.1=0
  ·rw[ba he]at d
   rw[ff he];refine O ?_;refine aR rfl (NU (bB (s:=h) Y)) ?_;refine gk ?_;clear Y;intro w' Y;rw[<-d];by_cases c:R.1=0
   ·rw[ff c]
    refine O ?_;exact dw (v:=E R.2) (v':=.nilIface) rfl rfl rfl ⟨rfl,iH Y⟩
   rw[c9 c];refine O ?_;exact dw (v:=E R.2) (v':=.iface 57 (E R.1)) rfl rfl rfl ⟨rfl,iH Y⟩
  rw[aM he]at d;rw[c9 he];refine O ?_;rw[d];exact dw (v:=E 0) (v':=.iface 57 (E V.1)) rfl rfl rfl ⟨by rw[c9 he],iH Y⟩
 refine O ?_;refine aR rfl (hO rfl (j.at Y) f g (k.at Y)) ?_;rintro _ w' ⟨h,rfl,aw⟩;rw[<-i]at aw ⊢;refine aO ?_;clear aw Y;intro Y;by_cases he:V.1=0
 ·rw[ba he]at d
  rw[ff he];refine O ?_;refine aR rfl (NU (bB (s:=h) Y)) ?_;refine gk ?_;clear Y;intro w' Y;rw[<-d];by_cases c:R.1=0
  ·rw[ff c]
   refine O ?_;exact dw (v:=E R.2) (v':=.nilIface) rfl rfl rfl ⟨rfl,iH Y⟩
  rw[c9 c];refine O ?_;exact dw (v:=E R.2) (v':=.iface 57 (E R.1)) rfl rfl rfl ⟨rfl,iH Y⟩
 rw[aM he]at d;rw[c9 he];refine O ?_;rw[d];exact dw (v:=E 0) (v':=.iface 57 (E V.1)) rfl rfl rfl ⟨by rw[c9 he],iH Y⟩
def iX.cut {w:World}{v:Value}{cs:List jo}{C:List J}{n:Nat}(h:iX w v cs C)(b:n<=cs.length):iX w (ssub v cq.sz 0 n) (cut cs 0 n) (C.take n):=by
 obtain⟨h1,g,c⟩:=h;refine⟨zJ h1 (bC _) b,by rw[Ar b,jC];omega,fun i d=>?_⟩;rw[jC]at d;have e:aB cq (Go.Sl.cut cs 0 n) i=aB cq cs i:=by
  rw[oz,oz];simp only[Go.Sl.cut,FL,List.getD];rw[yj,ba U]
 have f:(C.take n).getD i []=C.getD i []:=by
  simp only[List.getD];rw[yj,ba U]
 rw[e,f];exact c i U
def ĭ {b c d sv:Value}{vs:List kq}{kind:Int}(hO:kind=3->yC)(L:1<=kind)(N:kind<=3)(ht:bR w0 a b c d vs t)(I:aJ t)(hs:RS W w0 sv z)(bX:aj t.vars z) :
  Calls ak 274 #[.agg #[a,b,c,d],sv,E kind] w0 fun e w'=>e=.returned (.tuple #[E (sT t z kind).2,bS (sT t z kind).1])/\Z w0 w' []:=by
 have P:=ht;obtain⟨ha,hb,hc,Q⟩:=ht;have _c:=Q.rs;have _d:=Q.len;have _e:=I.M;obtain⟨R,f⟩:=À (sT t z kind);rw[<-f];unfold sT at f;have Y:=Z.start w0;refine bI ar Tryz.func274 ?_;refine ep ?_;intro p w Y;obtain⟨pt,rfl⟩:=À p;refine aR rfl (ϰ (P.at Y) I) ?_;rintro _ w' ⟨pr,a2,gv,cv,lv,us,rfl,aw⟩;refine aO ?_;clear aw Y;intro Y;have S:decide (kind<1)=false:=dB U;have j':decide (3<kind)=false:=dB U;refine O ?_
 try simp only[S,j'];refine kt ?_
 refine O ?_;refine aR rfl (Ϯ (Y.dQ 0 rfl:q9 w' pr t a2 gv cv lv us) I (hs.at Y) bX) ?_;rintro _ w' u;rcases u with ⟨m,rfl,aw⟩|⟨K,cs,H',rfl,J',aw⟩
 ·replace Y:=Y.cH aw
  clear aw;refine⟨_,rfl,?_⟩;rw[aM m]at f;generalize j:bS 3=ev;refine O ?_;refine aR rfl (j ▸ NW 3 3) ?_;refine gk ?_;clear Y;intro w' Y;rw[show decide ((3:Int)≠0/\(3:Int)=3)=true by decide];refine O ?_;rw[f];exact dw (v:=E 1125899906842624) (v':=.nilIface) rfl rfl rfl ⟨by rw[ff rfl],iH Y⟩
 refine aO ?_;clear aw Y;intro Y;rw[ba H']at f;obtain⟨C,hC⟩:=À (gq t z (dK t z) []);rw[<-hC]at Y f;have P':bS 0=.nilIface:=ff rfl;refine O ?_;refine aR rfl (P' ▸ NW 0 3) ?_;refine gk ?_;clear Y;intro w' Y;rw[show decide ((0:Int)≠0/\(0:Int)=3)=false by decide];have o:iX _ K cs C:=Y.dQ 0 rfl;have R':=o.rs;refine O ?_;obtain⟨n,m⟩:=À ((if (24:Int)<cs.length then 24 else (cs.length:Int)).toNat);have T':n<=cs.length:=by rw[m];split<;>omega
 have x:C.take n=C.take 24:=by
  have g:=o.len;by_cases h:(24:Int)<cs.length
  ·rw[m,ba h];rfl
  rw[m,aM h,io U,io U]
 rw[<-m];obtain⟨q,y⟩:=À (C.take 24);rw[<-y]at f;obtain⟨g,l⟩:=À (ssub K cq.sz 0 n);obtain⟨i,A⟩:=À (cut cs 0 n);rw[<-l];replace Y:=Z.rd (Δ:=[bA fun w=>iX w K cs C]) (φ:=fun w=>iX w g i q) (fun _ w h=>by rw[l,A,y,<-x];exact(h.dQ 0 rfl:iX w K cs C).cut T') Y;clear o R' m;replace Y:=Y.nil (T:=W) (e:=3);replace Y:=Y.bj (Δ:=[X W 3 (nS) [],bA fun w=>iX w g i q]);refine dP [11,11,13,13,52,61] (G:=Nat) (H:=Value) (fun k r=>[(52,E k),(11,r)]) (fun k r w=>k<=t.M.length/\Z w0 w [X W 3 r ((ao t).take k),bA fun w=>iX w g i q]) (fun k _=>t.M.length-k) 0 (nS) (fun _ _=>rfl) ⟨rfl,rfl,az⟩ ⟨bC _,Y⟩ ?_;clear Y;rintro σ k r w ⟨hk,Y⟩;have J':(ao t).length=t.M.length:=tC t;have _a:((ao t).take k).length=k:=by rw[jC];omega
 refine aC ?_ ?_<;>intro h2
 ·have B:k<t.M.length:=U
  have D:=Q.eI k B;have _b:=D.one;have V':=D.aT;have F:(ao t).take (k+1)=(ao t).take k++[(aB cN vs k).aT]:=by rw[eX W.dflt U,tD B,V']
  repeat (first|refine dS ?_|(refine iT ?_;clear Y;intro p w Y)|(refine rG ?_;clear Y;intro w Y)|(refine gA ?_;clear Y;intro s w Y))
  rw[<-F]at Y
  exact⟨k+1,_,⟨rfl,rfl,az⟩,aX,⟨U,by
   have h1:=Y.tail.tail
   exact h1⟩,U⟩
 have V':k=t.M.length:=U;rw[V',io U]at Y;have B:=zp I;refine O ?_;refine aR rfl (VF hO L N (bB (s:=r) Y) U B (Y.dQ 1 rfl:iX w g i q)) ?_;refine gk ?_;clear Y;intro w' Y;obtain⟨V,hV⟩:=À (uI kind (ao t) q);rw[<-hV]at f ⊢;generalize j:bS V.1=ev;refine O ?_;refine aR rfl (j ▸ NW V.1 5) ?_;refine gk ?_;clear Y;intro w' Y;by_cases F:V.1=5
 ·rw[ba F]at f
  rw[show decide (V.1≠0/\V.1=5)=true from dH ⟨U,F⟩];refine O ?_;refine aR rfl (VF (kind:=1) (fun h=>absurd h dc) dc dc (bB (s:=r) Y) U B (Y.dQ 1 rfl:iX _ g i q)) ?_;refine gk ?_;clear Y;intro w' Y;rw[<-f];by_cases D:R.1=0
  ·rw[ff D]
   refine O ?_;exact dw (v:=E R.2) (v':=.nilIface) rfl rfl rfl ⟨rfl,iH Y⟩
  rw[c9 D];refine O ?_;exact dw (v:=E R.2) (v':=.iface 57 (E R.1)) rfl rfl rfl ⟨rfl,iH Y⟩
 rw[aM F]at f;rw[show decide (V.1≠0/\V.1=5)=false from dB fun h=>F h.2];subst f;refine O ?_;exact dw (v:=E R.2) (v':=ev) rfl rfl rfl ⟨by rw[j],iH Y⟩
end
end Go.Proofs.YtmapkjoefdgjfaaGreatDoor
