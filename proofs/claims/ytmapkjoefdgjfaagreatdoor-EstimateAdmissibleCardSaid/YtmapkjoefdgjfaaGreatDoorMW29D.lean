/- Several texts. -/
import Derived.Test.YtmapkjoefdgjfaaGreatDoorMW28D
set_option linter.unusedSimpArgs false
set_option linter.unusedVariables false
set_option linter.defProp false
set_option maxRecDepth 8000
set_option maxHeartbeats 16000000
open List Nat
namespace Go.Proofs.YtmapkjoefdgjfaaGreatDoor
open Go.Sl
variable {w0:World}{t:aa}{z:J}{a:Value}
section
open Go.Sl Go
attribute [local irreducible] vc opsW opsD opV opW PureV ReadV Thn Blk
def LO {lv:Value}{l:List cZ}(d:RS gM w0 lv l) :
  Calls aj 288 #[lv] w0 fun e w'=>e=.returned (.tuple #[E (vE l).2,bO (vE l).1])/\M w0 w' []:=by
 have Y:=M.start w0;obtain⟨R,b⟩:=À (vE l);obtain⟨S,c⟩:=À (mf ⟨0,1⟩ l);rw[<-b];unfold vE at b;rw[<-c]at b;refine bB ao Tryz.func288 ?_;refine W ?_;refine aU rfl (Ĝ (d.at Y)) ?_;refine j7 ?_;clear Y;intro w' Y;rw[<-c];by_cases he:S.1=0
 ·rw[aP he]at b
  rw[gy he];refine eB ?_;intro p w Y;refine aU rfl (ĝ S.2) ?_;refine lU ?_;intro w' Y;rw[b];exact cX (v:=E (lD S.2)) (v':=.nilIface) rfl rfl rfl ⟨by rw[gy rfl],iY Y⟩
 rw[aH he]at b;rw[dq he];refine eB ?_;intro p w Y;rw[b];exact cX (v:=E 0) (v':=.iface 57 (E S.1)) rfl rfl rfl ⟨by rw[dq he],iY Y⟩
end
section
open Go.Sl Go Go.Extern
attribute [local irreducible] vc opsW opsD opV opW PureV ReadV Thn Blk
def zr (k:Int)(w:World):(callFunc 283 #[.iface 57 (E k)]).run aj w=.ok (.value (.iface 398 (.agg #[Go.typeHandle aj 57]))) w:=by
 have h:=@run_callFunc_extern aj 283 _ Extern.ReflectliteType.typeOf Tryz.func283 kr kr kr kr;rw[h];have b:(Extern.ReflectliteType.typeOf #[.iface 57 (E k)]).run aj w=.ok (.iface 398 (.agg #[Go.typeHandle aj 57])) w:=kr;rw[b];rfl
def Fh (w:World):(callFunc 347 #[.agg #[Go.typeHandle aj 57]]).run aj w=.ok (.value (.bool true)) w:=by
 have h:=@run_callFunc_extern aj 347 _ (Extern.ReflectliteType.method fun t=>do Rtype.noPackHeld "Comparable" t; pure (.bool (<- typeInfo t).comparable)) Tryz.func347 kr kr kr kr;rw[h];have b:((Extern.ReflectliteType.method fun t=>do Rtype.noPackHeld "Comparable" t; pure (.bool (<- typeInfo t).comparable)) #[.agg #[Go.typeHandle aj 57]]).run aj w = .ok (.bool true) w := by kernel_rfl
 rw[b];rfl
def Fi:nh aj 398 (.agg #[Go.typeHandle aj 57]) "Comparable" 347 (.agg #[Go.typeHandle aj 57]) := fun m w => by kernel_rfl
def EU:∃ ms,(aj).underlying 46=some (.interface ms):=by
 have h:kL aj 46:=inferInstance;have h:=h.ok;split at h
 ·rename_i m hm;exact⟨m,hm⟩
 cases h
def MS:(aj).underlying 57=some (.int .i64):=kr
def MT:((aj).info? 57).map (·.comparable)=some true:=kr
def SR (P:Program)(t a:TypeId):Bool:=match P.underlying a with
 | some (.interface want)=>(match (P.info? t).map (fun i=>(lacking want i.methods).isEmpty) with|some false=>true|_=>false) && (match (P.info? a).map (·.zero) with|some (some Value.nilIface)=>true|_=>false)
 | _=>false
def LP {ρ:Fr}{ty:TypeId}{pos:String}{af:Array Edge}{x:Operand}{t c:TypeId}{dst:Option Nat}{g:Option (Nat × Bool)}{v:Value}{u:TypeId}(hx:aX ρ x=.iface u v)(h:SR aj u t=true):PureV aj ⟨dst,.typeAssert x c t true,ty,pos,af,g⟩ ρ (.tuple #[.nilIface,.bool false]):=by
 unfold SR at h;split at h
 ·rename_i want hu
  rw[Bool.and_eq_true]at h;obtain⟨h1,b⟩:=h;refine ZU hx hu ?_ ?_
  ·split at h1
   ·assumption
   cases h1
  split at b
  ·assumption
  cases b
 cases h
def Ğ (c k:Int) :
  Calls aj 284 #[.iface 57 (E c),.iface 57 (E k),.bool true] w0 fun e w'=>e=.returned (.bool (c == k))/\M w0 w' []:=by
 have Y:=M.start w0;obtain⟨ms,d⟩:=EU;refine bB ao Tryz.func284 ?_;refine W ?_;refine cN [0,0,6,10,12,53] (G:=Unit) (fun _=>[(0,.iface 57 (E c))]) (fun _ w=>M w0 w []) (fun _=>0) () (fun _=>rfl) ⟨rfl,au⟩ Y ?_;clear Y;rintro g ⟨⟩ w Y;refine W ?_;refine fi rfl (ZV (a:=c) (b:=k) rfl rfl d MT MS) ?_;cases f:(c == k)
 ·refine W ?_
  refine fi rfl (LP rfl kr) ?_;refine W ?_;refine fi rfl (LP rfl kr) ?_;refine W ?_;refine fi rfl (LP rfl kr) ?_;refine W ?_;exact bk (v:=.bool false) rfl rfl ⟨rfl,Y⟩
 refine W ?_;exact bk (v:=.bool true) rfl rfl ⟨rfl,Y⟩
instance N_:ap aj 277:=⟨kr⟩
instance O_:ap aj 284:=⟨kr⟩
def LQ (c k:Int) :
  Calls aj 277 #[bO c,.iface 57 (E k)] w0 fun e w'=>e=.returned (.bool (decide (c≠0/\c=k)))/\M w0 w' []:=by
 have Y:=M.start w0;obtain⟨ms,b⟩:=EU;refine bB ao Tryz.func277 ?_;by_cases d:c=0
 ·rw[gy d]
  refine W ?_;refine fi rfl (ZW rfl rfl b) ?_;refine W ?_;exact bk (v:=.bool false) rfl rfl ⟨by rw[eA fun h=>h.1 d],Y⟩
 rw[dq d];refine W ?_;refine ZQ rfl (zr k w0) ?_;refine W ?_;refine ZR Fi rfl rfl (Fh w0) ?_;refine W ?_;refine aU rfl (Ğ c k) ?_;rintro _ w' ⟨rfl,an⟩;refine aI ?_;clear an Y;intro Y;refine W ?_;exact bk (v:=.bool (c == k)) rfl rfl ⟨by rw[show decide (c≠0/\c=k)=(c == k) from ?_];by_cases h:c=k<;>simp[h]at *;assumption,Y⟩
end
section
open Go.Sl Go
attribute [local irreducible] vc opsW opsD opV opW PureV ReadV Thn Blk
def ğ {s:J}{f:bo}{l:List bo}{out:List J}:fC t s (f::l) out=if q9 t s f∈out then fC t s l out else fC t s l (out++[q9 t s f]):=by rw[fC]
def Ġ {f:bo}(I:aC t):(∀ x∈q9 t z f,0<=x/\x<t.Z.length)/\(q9 t z f).length<=262144:=by
 constructor
 ·intro x hx
  obtain⟨u,hu,rfl⟩:=iQ.1 (Dd.1 hx);have:=(LC I (rP.1 hu).1).1;omega
 have h1:=OZ (((l7 t).filter (r9 t z f)).map fun u=>(u.op:Int));rw[iW]at h1;have b:=ux (r9 t z f) (l7 t);have c:=Sz I;show (dt _).length<=_;omega
def ġ {L:Addr}{gv cv lv sv:Value}{us:List tO}(A:oR w0 L t a gv cv lv us)(I:aC t)(N:RS O w0 sv z)(bI:ab t.vars z) :
  Calls aj 276 #[.pointer (some L),sv] w0 fun e w'=>(¬sB t z ⟨-1,-1⟩/\e=.returned (.tuple #[nS,bO 3])/\M w0 w' [])\/∃ b cs,sB t z ⟨-1,-1⟩/\e=.returned (.tuple #[b,.nilIface])/\cs.length<=4096/\M w0 w' [bj fun w=>iG w b cs (fC t z (de t z) [])]:=by
 have V:(am t).length=t.Z.length:=tB t;have j':(de t z).length<=4096:=by
  have h1:=ux (qU t z) (jm t.vars);have P:=HU (fun i B=>(I.nt i B).2) t.vars.length (cz _);have c:mY t.vars t.vars.length=jm t.vars:=rfl;rw[c]at P;have:=I.vars;show ((jm t.vars).filter (qU t z)).length<=_;omega
 have Y:=M.start w0;refine bB ao Tryz.func276 ?_;have H':=A.box;have J':=A.aT;refine W ?_;refine aU rfl (ë (A.at Y) I (N.at Y) bI) ?_;rintro _ w' u;rcases u with ⟨hn,rfl,an⟩|⟨o,D,rfl,an⟩
 ·replace Y:=Y.cr an
  refine⟨_,rfl,?_⟩;rw[dq dc];refine W ?_;exact cX (v:=nS) (v':=.iface 57 (E 3)) rfl rfl rfl (.inl ⟨hn,rfl,Y⟩)
 refine aL ?_;clear an Y;intro Y;replace Y:=Y.nil (T:=bW) (e:=361);replace Y:=M.pN (φ:=kG [] []) (fun w i B=>absurd B (dx _)) Y;replace Y:M w0 w' [X bW 361 (nS) [],bj (kG [] []),X aq 63 o (de t z)]:=Y.bb;refine W ?_;refine zF [8,8,10,11,13,13,25,60] (G:=Nat) (H:=Value) (I':=List il) (M':=List J) (fun k b _ _=>[(25,E k),(8,b)]) (fun k b cs C w=>k<=(de t z).length/\cs.length<=k/\cs.length=C.length/\fC t z (de t z) []=fC t z ((de t z).drop k) C/\M w0 w [X bW 361 b cs,bj (kG cs C),X aq 63 o (de t z)]) (fun k _ _ _=>(de t z).length-k) 0 (nS) [] [] (fun _ _ _ _=>rfl) ⟨rfl,rfl,au⟩ ⟨br _,cz _,rfl,rfl,Y⟩ ?_;clear Y;rintro σ k b cs C w ⟨hk,P',d,g,Y⟩;refine aA ?_ ?_<;>intro h1
 ·have F:k<(de t z).length:=U
  obtain⟨f,Q⟩:=À ((de t z).getD k aq.dflt);rw[Dy aq.dflt F,<-Q,ğ]at g;obtain⟨K,R⟩:=À (q9 t z f);obtain⟨S,r2⟩:=Ġ (t:=t) (z:=z) (f:=f) I;rw[<-R]at g S r2;refine c9 ?_;intro p w Y;obtain⟨R',rfl⟩:=À p;rw[<-Q]at Y ⊢;refine aU rfl (î (f:=f) (A.at Y) I (N.at Y) bI) ?_;rintro _ w' ⟨c,rfl,an⟩;refine aL ?_;clear an Y;intro Y;rw[<-R]at Y;have j:=(bm (s:=c) Y).one;refine W ?_;refine zA (v1:=c) (v2:=E 1125899906842624) rfl rfl rfl (by simp only[ew,eN,j];rfl) ?_;refine EP ?_;intro p w Y;obtain⟨q,rfl⟩:=À p;refine jH (n:=2) (p:=q) (vs:=[c,E 1125899906842624]) rfl rfl Y inferInstance rfl rfl (by simp only[ew,eN,j];rfl) ?_;clear Y;intro w Y;replace Y:M w0 w [ak q 361 [c,E 1125899906842624],X O 3 c K,X bW 361 b cs,bj (kG cs C),X aq 63 o (de t z)]:=Y.bb;refine W ?_;refine aU rfl (Ă (pc:=q) (K:=K) ⟨bm (s:=b) Y,d,Y.cU 3 rfl⟩ (pj (p:=q) Y) (bm (s:=c) Y)) ?_;rintro _ w' ⟨⟨r,rfl,y⟩,an⟩;refine aI ?_;clear an Y;intro Y;cases r
  case true =>
   have hm:=y.1 rfl;rw[aP hm]at g;refine W ?_;exact⟨k+1,b,cs,C,⟨rfl,rfl,au⟩,aV,⟨U,U,d,g,Y.tail.tail⟩,U⟩
  have hm:K∉C:=fun h=>by cases y.2 h
  rw[aH hm]at g;refine W ?_;refine dN [13,13,40,55] (G:=Nat) (H:=Int) (fun i _=>[(40,E i)]) (fun i m w=>i<=K.length/\M w0 w [ak q 361 [c,E m],X O 3 c K,X bW 361 b cs,bj (kG cs C),X aq 63 o (de t z)]) (fun i _=>K.length-i) 0 1125899906842624 (fun _ _=>rfl) ⟨rfl,au⟩ ⟨br _,Y⟩ ?_;clear Y;rintro T' i m w ⟨B,Y⟩;refine aA ?_ ?_<;>intro P
  ·have l:i<K.length:=U
   have V':=S _ (cD O.dflt l);refine eQ ?_;intro w Y;simp only[mM,mJ]at Y;exact⟨i+1,_,⟨rfl,au⟩,aV,⟨U,Y⟩,U⟩
  refine W ?_;refine jG bW (x1:=⟨c,m⟩) rfl rfl rfl (fX rfl) (fb _) Y ?_;clear Y;intro so w Y;refine rV (s:=b) (s2:=so) inferInstance rfl rfl (bm Y) rfl rfl (fun x hx v hv=>?_) (by simp only[length_cons,length_nil];omega) (by unfold bT;simp only[length_cons,length_nil];omega) Y ?_
  ·rw[dp.1 hx]at hv
   simp only[bW,dZ,fM,pL]at hv;rcases hv with rfl|rfl
   ·exact j
   rfl
  clear Y;intro l w Y;refine W ?_;replace Y:M w0 w [X O 3 c K,bj (kG cs C),X bW 361 l (cs++[⟨c,m⟩]),X aq 63 o (de t z)]:=Y.bb;replace Y:=M.rd (Δ:=[X O 3 c K,bj (kG cs C)]) (φ:=kG (cs++[⟨c,m⟩]) (C++[K])) (fun _ w h=>(h.cU 1 rfl).fe d (h.rs 0 rfl)) Y;exact⟨k+1,l,_,C++[K],⟨rfl,rfl,au⟩,aV,⟨U,by simp;omega,by simp[d],g,Y.bb (Δ:=[X bW 361 l (cs++[⟨c,m⟩]),bj (kG (cs++[⟨c,m⟩]) (C++[K])),X aq 63 o (de t z)])⟩,U⟩
 rw[qz U]at g;refine W ?_;replace Y:=M.rd (Δ:=[X bW 361 b cs,bj (kG cs C)]) (φ:=fun w=>iG w b cs (fC t z (de t z) [])) (fun _ w h=>by rw[g];exact⟨h.rs 0 rfl,d,h.cU 1 rfl⟩) Y;exact cX (v:=b) (v':=.nilIface) rfl rfl rfl (.inr ⟨b,cs,D,rfl,U,Y.only⟩)
def iv (t:aa)(k:Nat):List tQ:=(List.range k).flatMap (sN t)
def jn (t:aa)(k j:Nat):List tQ:=(List.range j).map fun j=>⟨k,lE (t.Z.getD k bf) j,vj (t.Z.getD k bf) j⟩
def CZ (t:aa)(k j:Nat):jn t k (j+1)=jn t k j++[⟨k,lE (t.Z.getD k bf) j,vj (t.Z.getD k bf) j⟩]:=by
 unfold jn;rw[lz,pX];rfl
def Ģ (t:aa)(k:Nat):iv t (k+1)=iv t k++jn t k (t.Z.getD k bf).aJ.length:=by
 unfold iv;rw[lz,wy];simp[sN,jn]
def ģ {b c d:Value}{vs:List iX}(ht:bz w0 a b c d vs t)(I:aC t) :
  Calls aj 275 #[.agg #[a,b,c,d]] w0 fun e w'=>∃ p a2 gv cv lv us,e=.returned (.tuple #[.pointer (some p),.nilIface])/\M w0 w' [bj fun w=>oR w p t a2 gv cv lv us]:=by
 have V:=ht;obtain⟨ha,hb,hc,hd⟩:=ht;have _c:=hd.rs;have _d:=hd.len;have _e:=I.vars;have _f:=I.Z;have _g:=sa I.aG;have Y:=M.start w0;refine bB ao Tryz.func275 ?_;refine c9 ?_;clear Y;intro y w Y;refine aU rfl (vY (V.at Y)) ?_;rintro _ w' ⟨rfl,an⟩;refine aI ?_;clear an Y;intro Y;rw[gy ((rQ t).2 I)];refine W ?_;refine fQ (pl [0,1,3,4,2] (.cJ 4::pl [5,6,7,8] [])) Y kr ?_;clear Y;intro w Y;refine W ?_;refine aU rfl (nH (ha.at Y) U) ?_;rintro _ w' ⟨a2,rfl,an⟩;refine aL ?_;clear an Y;intro Y;have oa:=(bm (s:=a2) Y).one;refine W ?_;refine aU rfl (Dp (hc.at Y) U) ?_;rintro _ w' ⟨gv,rfl,an⟩;refine aL ?_;clear an Y;intro Y;have og:=(bm (s:=gv) Y).one;refine W ?_;refine sd (vs:=[(0,a2),(1,gv)]) (ls:=[(0,[a2]),(1,[gv])]) rfl (by simp only[l8,tD,Bo oa,Bo og]) rfl ?_;refine zO ?_;refine zZ ?_;refine yj (vs:=[a2,gv,nS,nS]) rfl Y ?_;clear Y;intro o w Y;have q:M w0 w (ak o 376 [a2,gv,(nS),(nS)]::X O 3 (nS) ((am t).take 0)::X jL 378 (nS) ([]:List tO)::bj (pS ([]:List tO) (iv t 0))::X O 3 a2 t.vars::X aq 63 gv t.aG::[ak y 26 [a,b,c,d]]):=by
  have g1:M w0 w [ak o 376 [a2,gv,(nS),(nS)],X aq 63 gv t.aG,X O 3 a2 t.vars,ak y 26 [a,b,c,d]]:=Y;have g2:=M.pN (φ:=pS [] []) (fun w i g=>absurd g (dx _)) ((g1.nil (T:=O) (e:=3)).nil (T:=jL) (e:=378));have f:iv t 0=[]:=by simp[iv]
  rw[f,wI];exact g2.cq
 clear Y;have Y:=q;clear q;refine W ?_;refine zF [6,7,9,9,26,72] (G:=Nat) (H:=Value) (I':=Value) (M':=List tO) (fun k _ _ _=>[(26,E k)]) (fun k cv lv us w=>k<=t.Z.length/\us.length=(iv t k).length/\M w0 w (ak o 376 [a2,gv,cv,lv]::X O 3 cv ((am t).take k)::X jL 378 lv us::bj (pS us (iv t k))::X O 3 a2 t.vars::X aq 63 gv t.aG::[ak y 26 [a,b,c,d]])) (fun k _ _ _=>t.Z.length-k) 0 (nS) (nS) [] (fun _ _ _ _=>rfl) ⟨rfl,au⟩ ⟨br _,by simp[iv],Y⟩ ?_;clear Y;rintro _h k cv lv us w ⟨hk,g,Y⟩;refine aA ?_ ?_<;>intro h2
 ·have D:k<t.Z.length:=U
  have A:=hd.dK k D;have J':=A.one;have C:=A.pre;have hgo:=I.op k D;have _i:=sa hgo.pre;have _j:=hgo.aJ;have j':=A.aO;obtain⟨es,F⟩:=A.aJ;have P':=F.rs;have R':=F.len;have _k:(am t).length=t.Z.length:=tB t;have T':((am t).take k).length=k:=by rw[jf];omega
  have N:(am t).take (k+1)=(am t).take k++[(az cp vs k).aO]:=by rw[eD O.dflt U,tC D,j']
  have H':=LD I k hk;refine c9 ?_;clear Y;intro P w Y;refine fQ (pl [0,1,2,3,4,5,6,7] (.cJ 4::pl [8,9,10,11] [])) Y kr ?_;clear Y;intro w Y
  repeat (first|refine dB ?_|(refine tG ?_;clear Y;intro w Y)|(refine fR ?_;clear Y;intro s w Y))
  simp only[mM,mJ]at Y;rw[<-N]at Y;obtain⟨l,rfl⟩:=À s;have q:M w0 w (ak o 376 [a2,gv,l,lv]::X O 3 l ((am t).take (k+1))::X jL 378 lv us::bj (pS us (iv t k++jn t k 0))::ak P 44 (cp.enc (az cp vs k))::X O 3 a2 t.vars::X aq 63 gv t.aG::[ak y 26 [a,b,c,d]]):=by
   have f:jn t k 0=[]:=rfl;rw[f,fI];exact Y.cq
  clear Y;have Y:=q;clear q;refine W ?_;refine nE [9,9,45,71] (G:=Nat) (H:=Value) (I':=List tO) (fun j _ _=>[(45,E j)]) (fun j lv us w=>j<=(t.Z.getD k bf).aJ.length/\us.length=(iv t k++jn t k j).length/\M w0 w (ak o 376 [a2,gv,l,lv]::X O 3 l ((am t).take (k+1))::X jL 378 lv us::bj (pS us (iv t k++jn t k j))::ak P 44 (cp.enc (az cp vs k))::X O 3 a2 t.vars::X aq 63 gv t.aG::[ak y 26 [a,b,c,d]])) (fun j _ _=>(t.Z.getD k bf).aJ.length-j) 0 lv us (fun _ _ _=>rfl) ⟨rfl,au⟩ ⟨br _,by simpa [jn] using g,Y⟩ ?_;clear Y g lv us;rintro _l j lv us w ⟨hj,g,Y⟩;have V':(iv t k++jn t k j).length=(iv t k).length+j:=by simp[jn]
  have _a:(iv t k).length<=64*k:=H';refine aA ?_ ?_<;>intro h3
  ·have Q:j<(t.Z.getD k bf).aJ.length:=U
   have B:=F.dK j Q;have R:=hgo.fc j Q;have _b:=B.one;have _m:=B.bK;have _n:=sa R.1;have K:=B.var;have L:=B.val;refine c9 ?_;clear Y;intro _o w Y;refine xL (.s [0,1,2,3,5,6,9,12,14,4,7,10,13,15] (.d 8 [4,10,13,15] (.d 11 [4,13,15] (.c 16 [4,7,10] (.c 17 [4] (.c 18 [4] (.s [19,20,21,22] (.j6 []))))) (.d 16 [4,7,10] (.c 11 [4,13,15] (.c 17 [4] (.c 18 [4] (.s [19,20,21,22] (.j6 []))))) (.stop))) (.d 16 [4,7,10] (.c 8 [4,10,13,15] (.c 11 [4,13,15] (.c 17 [4] (.c 18 [4] (.s [19,20,21,22] (.j6 [])))))) (.stop)))) Y kr kr ?_;clear Y;intro w Y;refine W ?_;refine jF ?_ (jF ?_ qt)
   ·refine W ?_
    refine aU rfl (Dp (C.at Y) U) ?_;rintro _ w' ⟨nd,rfl,an⟩;refine aL ?_;clear an Y;intro Y;refine W ?_;refine jF ?_ (jF ?_ qt)
    ·refine ot ?_;clear Y;intro s w Y
     obtain⟨f,rfl⟩:=À s;have n:=(bm (s:=f) Y).one;refine sd (vs:=[(0,E (k:Int)),(1,f),(2,.agg #[E (az aY es j).var,E (az aY es j).val])]) (ls:=[(0,[E (k:Int)]),(1,[f]),(2,[E (az aY es j).var,E (az aY es j).val])]) rfl (by simp only[l8,tD,Bo n];rfl) rfl ?_;refine W ?_;refine jG jL (x1:=⟨k,f,⟨(az aY es j).var,(az aY es j).val⟩⟩) rfl rfl rfl (fX rfl) (fb _) Y ?_;clear Y;intro S w Y;refine W ?_;refine rV (s:=lv) (s2:=S) inferInstance rfl rfl (bm Y) rfl rfl (fun x hx v hv=>?_) (by simp only[length_cons,length_nil];omega) (by unfold bT;simp only[length_cons,length_nil];omega) Y ?_
     ·rw[dp.1 hx]at hv
      simp only[jL,dZ,fM,pL]at hv;rcases hv with rfl|rfl|rfl|rfl
      ·rfl
      ·exact n
      ·rfl
      rfl
     clear Y;intro m w Y;refine eQ ?_;clear Y;intro w Y;simp only[mM,mJ]at Y;have r:M w0 w (X aq 63 f ((t.Z.getD k bf).pre++((t.Z.getD k bf).aJ.getD j bE).bK)::bj (pS us (iv t k++jn t k j))::ak o 376 [a2,gv,l,m]::X O 3 l ((am t).take (k+1))::X jL 378 m (us++[⟨k,f,⟨(az aY es j).var,(az aY es j).val⟩⟩])::ak P 44 (cp.enc (az cp vs k))::X O 3 a2 t.vars::X aq 63 gv t.aG::[ak y 26 [a,b,c,d]]):=Y.bb
     have u:=M.rd (Δ:=[X aq 63 f ((t.Z.getD k bf).pre++((t.Z.getD k bf).aJ.getD j bE).bK),bj (pS us (iv t k++jn t k j))]) (φ:=pS (us++[⟨k,f,⟨(az aY es j).var,(az aY es j).val⟩⟩]) (iv t k++jn t k (j+1))) (fun _ w h=>by
      rw[CZ,<-fG];refine(h.cU 1 rfl).fe g ⟨rfl,?_,h.rs 0 rfl⟩
      rw[K,L];rfl) r
     exact⟨j+1,m,us++[⟨k,f,⟨(az aY es j).var,(az aY es j).val⟩⟩],⟨rfl,au⟩,aV,⟨U,by rw[CZ,<-fG,length_append,length_append,g];rfl,u.cq⟩,U⟩
    refine ot ?_;clear Y;intro s w Y;obtain⟨f,rfl⟩:=À s;have n:=(bm (s:=f) Y).one;refine sd (vs:=[(0,E (k:Int)),(1,f),(2,.agg #[E (az aY es j).var,E (az aY es j).val])]) (ls:=[(0,[E (k:Int)]),(1,[f]),(2,[E (az aY es j).var,E (az aY es j).val])]) rfl (by simp only[l8,tD,Bo n];rfl) rfl ?_;refine W ?_;refine jG jL (x1:=⟨k,f,⟨(az aY es j).var,(az aY es j).val⟩⟩) rfl rfl rfl (fX rfl) (fb _) Y ?_;clear Y;intro S w Y;refine W ?_;refine rV (s:=lv) (s2:=S) inferInstance rfl rfl (bm Y) rfl rfl (fun x hx v hv=>?_) (by simp only[length_cons,length_nil];omega) (by unfold bT;simp only[length_cons,length_nil];omega) Y ?_
    ·rw[dp.1 hx]at hv
     simp only[jL,dZ,fM,pL]at hv;rcases hv with rfl|rfl|rfl|rfl
     ·rfl
     ·exact n
     ·rfl
     rfl
    clear Y;intro m w Y;refine eQ ?_;clear Y;intro w Y;simp only[mM,mJ]at Y;have r:M w0 w (X aq 63 f ((t.Z.getD k bf).pre++((t.Z.getD k bf).aJ.getD j bE).bK)::bj (pS us (iv t k++jn t k j))::ak o 376 [a2,gv,l,m]::X O 3 l ((am t).take (k+1))::X jL 378 m (us++[⟨k,f,⟨(az aY es j).var,(az aY es j).val⟩⟩])::ak P 44 (cp.enc (az cp vs k))::X O 3 a2 t.vars::X aq 63 gv t.aG::[ak y 26 [a,b,c,d]]):=Y.bb
    have u:=M.rd (Δ:=[X aq 63 f ((t.Z.getD k bf).pre++((t.Z.getD k bf).aJ.getD j bE).bK),bj (pS us (iv t k++jn t k j))]) (φ:=pS (us++[⟨k,f,⟨(az aY es j).var,(az aY es j).val⟩⟩]) (iv t k++jn t k (j+1))) (fun _ w h=>by
     rw[CZ,<-fG];refine(h.cU 1 rfl).fe g ⟨rfl,?_,h.rs 0 rfl⟩
     rw[K,L];rfl) r
    exact⟨j+1,m,us++[⟨k,f,⟨(az aY es j).var,(az aY es j).val⟩⟩],⟨rfl,au⟩,aV,⟨U,by rw[CZ,<-fG,length_append,length_append,g];rfl,u.cq⟩,U⟩
   refine W ?_;refine aU rfl (Dp (C.at Y) U) ?_;rintro _ w' ⟨nd,rfl,an⟩;refine aL ?_;clear an Y;intro Y;refine ot ?_;clear Y;intro s w Y;obtain⟨f,rfl⟩:=À s;have n:=(bm (s:=f) Y).one;refine sd (vs:=[(0,E (k:Int)),(1,f),(2,.agg #[E (az aY es j).var,E (az aY es j).val])]) (ls:=[(0,[E (k:Int)]),(1,[f]),(2,[E (az aY es j).var,E (az aY es j).val])]) rfl (by simp only[l8,tD,Bo n];rfl) rfl ?_;refine W ?_;refine jG jL (x1:=⟨k,f,⟨(az aY es j).var,(az aY es j).val⟩⟩) rfl rfl rfl (fX rfl) (fb _) Y ?_;clear Y;intro S w Y;refine W ?_;refine rV (s:=lv) (s2:=S) inferInstance rfl rfl (bm Y) rfl rfl (fun x hx v hv=>?_) (by simp only[length_cons,length_nil];omega) (by unfold bT;simp only[length_cons,length_nil];omega) Y ?_
   ·rw[dp.1 hx]at hv
    simp only[jL,dZ,fM,pL]at hv;rcases hv with rfl|rfl|rfl|rfl
    ·rfl
    ·exact n
    ·rfl
    rfl
   clear Y;intro m w Y;refine eQ ?_;clear Y;intro w Y;simp only[mM,mJ]at Y;have r:M w0 w (X aq 63 f ((t.Z.getD k bf).pre++((t.Z.getD k bf).aJ.getD j bE).bK)::bj (pS us (iv t k++jn t k j))::ak o 376 [a2,gv,l,m]::X O 3 l ((am t).take (k+1))::X jL 378 m (us++[⟨k,f,⟨(az aY es j).var,(az aY es j).val⟩⟩])::ak P 44 (cp.enc (az cp vs k))::X O 3 a2 t.vars::X aq 63 gv t.aG::[ak y 26 [a,b,c,d]]):=Y.bb
   have u:=M.rd (Δ:=[X aq 63 f ((t.Z.getD k bf).pre++((t.Z.getD k bf).aJ.getD j bE).bK),bj (pS us (iv t k++jn t k j))]) (φ:=pS (us++[⟨k,f,⟨(az aY es j).var,(az aY es j).val⟩⟩]) (iv t k++jn t k (j+1))) (fun _ w h=>by
    rw[CZ,<-fG];refine(h.cU 1 rfl).fe g ⟨rfl,?_,h.rs 0 rfl⟩
    rw[K,L];rfl) r
   exact⟨j+1,m,us++[⟨k,f,⟨(az aY es j).var,(az aY es j).val⟩⟩],⟨rfl,au⟩,aV,⟨U,by rw[CZ,<-fG,length_append,length_append,g];rfl,u.cq⟩,U⟩
  have f:j=(t.Z.getD k bf).aJ.length:=U;rw[f,<-Ģ]at Y g;refine W ?_;exact⟨k+1,l,lv,us,⟨rfl,au⟩,aV,⟨U,g,Y.cq⟩,U⟩
 have f:k=t.Z.length:=U;subst f;rw[gH (by rw[tB];exact cz _)]at Y;refine W ?_;have j:=M.rd (Δ:=[ak o 376 [a2,gv,cv,lv],X O 3 cv (am t),X jL 378 lv us,bj (pS us (l7 t)),X O 3 a2 t.vars,X aq 63 gv t.aG]) (Γ:=[ak y 26 [a,b,c,d]]) (φ:=fun w=>oR w o t a2 gv cv lv us) (fun _ w h=>⟨h.gB 0 rfl,h.rs 4 rfl,h.rs 5 rfl,h.rs 1 rfl,h.rs 2 rfl,g,h.cU 3 rfl⟩) Y;exact cX (v:=.pointer (some o)) (v':=.nilIface) rfl rfl rfl ⟨o,a2,gv,cv,lv,us,rfl,j.bb⟩
def wU:Prop:=∀ {w0:World}{c d:Value}{b:J}{cs:List il}{C:List J},RS O w0 c b->b.length<=4096->(∀ x∈b,0<=x/\x<=1048576)->iG w0 d cs C ->
  Calls aj 287 #[c,d] w0 fun e w'=>∃ f,e=.returned (.tuple #[f,bO (gi 3 b C).1])/\M w0 w' [X gM 409 f (gi 3 b C).2]
def SS {cv l:Value}{b:J}{cs:List il}{C:List J}{kind:Int}(hO:kind=3->wU)(m:1<=kind)(n:kind<=3)(j:RS O w0 cv b)(f:b.length<=4096)(g:∀ x∈b,0<=x/\x<=1048576)(k:iG w0 l cs C) :
  Calls aj 278 #[E kind,cv,l] w0 fun e w'=>e=.returned (.tuple #[E (te kind b C).2,bO (te kind b C).1])/\M w0 w' []:=by
 obtain⟨R,d⟩:=À (te kind b C);obtain⟨V,i⟩:=À (gi kind b C);rw[<-d];unfold te at d;rw[<-i]at d;have Y:=M.start w0;refine bB ao Tryz.func278 ?_;have hk:kind=1\/kind=2\/kind=3:=U;rcases hk with rfl|rfl|rfl
 ·refine W ?_
  refine aU rfl (Ĥ (j.at Y) f g (k.at Y)) ?_;rintro _ w' ⟨h,rfl,an⟩;rw[<-i]at an ⊢;refine aL ?_;clear an Y;intro Y;by_cases he:V.1=0
  ·rw[aP he]at d
   rw[gy he];refine W ?_;refine aU rfl (LO (bm (s:=h) Y)) ?_;refine j7 ?_;clear Y;intro w' Y;rw[<-d];by_cases c:R.1=0
   ·rw[gy c]
    refine W ?_;exact cX (v:=E R.2) (v':=.nilIface) rfl rfl rfl ⟨rfl,iY Y⟩
   rw[dq c];refine W ?_;exact cX (v:=E R.2) (v':=.iface 57 (E R.1)) rfl rfl rfl ⟨rfl,iY Y⟩
  rw[aH he]at d;rw[dq he];refine W ?_;rw[d];exact cX (v:=E 0) (v':=.iface 57 (E V.1)) rfl rfl rfl ⟨by rw[dq he],iY Y⟩
 ·refine W ?_
  refine aU rfl (Wa (j.at Y) f g (k.at Y)) ?_;rintro _ w' ⟨h,rfl,an⟩;rw[<-i]at an ⊢;refine aL ?_;clear an Y;intro Y;by_cases he:V.1=0
  ·rw[aP he]at d
   rw[gy he];refine W ?_;refine aU rfl (LO (bm (s:=h) Y)) ?_;refine j7 ?_;clear Y;intro w' Y;rw[<-d];by_cases c:R.1=0
   ·rw[gy c]
    refine W ?_;exact cX (v:=E R.2) (v':=.nilIface) rfl rfl rfl ⟨rfl,iY Y⟩
   rw[dq c];refine W ?_;exact cX (v:=E R.2) (v':=.iface 57 (E R.1)) rfl rfl rfl ⟨rfl,iY Y⟩
  rw[aH he]at d;rw[dq he];refine W ?_;rw[d];exact cX (v:=E 0) (v':=.iface 57 (E V.1)) rfl rfl rfl ⟨by rw[dq he],iY Y⟩
 refine W ?_;refine aU rfl (hO rfl (j.at Y) f g (k.at Y)) ?_;rintro _ w' ⟨h,rfl,an⟩;rw[<-i]at an ⊢;refine aL ?_;clear an Y;intro Y;by_cases he:V.1=0
 ·rw[aP he]at d
  rw[gy he];refine W ?_;refine aU rfl (LO (bm (s:=h) Y)) ?_;refine j7 ?_;clear Y;intro w' Y;rw[<-d];by_cases c:R.1=0
  ·rw[gy c]
   refine W ?_;exact cX (v:=E R.2) (v':=.nilIface) rfl rfl rfl ⟨rfl,iY Y⟩
  rw[dq c];refine W ?_;exact cX (v:=E R.2) (v':=.iface 57 (E R.1)) rfl rfl rfl ⟨rfl,iY Y⟩
 rw[aH he]at d;rw[dq he];refine W ?_;rw[d];exact cX (v:=E 0) (v':=.iface 57 (E V.1)) rfl rfl rfl ⟨by rw[dq he],iY Y⟩
def iG.cut {w:World}{v:Value}{cs:List il}{C:List J}{n:Nat}(h:iG w v cs C)(b:n<=cs.length):iG w (ssub v bW.sz 0 n) (cut cs 0 n) (C.take n):=by
 obtain⟨h1,g,c⟩:=h;refine⟨xY h1 (br _) b,by rw[yI b,jf];omega,fun i d=>?_⟩;rw[jf]at d;have e:az bW (Go.Sl.cut cs 0 n) i=az bW cs i:=by
  rw[nr,nr];simp only[Go.Sl.cut,DQ,List.getD];rw[wE,aP U]
 have f:(C.take n).getD i []=C.getD i []:=by
  simp only[List.getD];rw[wE,aP U]
 rw[e,f];exact c i U
def Ym {b c d sv:Value}{vs:List iX}{kind:Int}(hO:kind=3->wU)(L:1<=kind)(N:kind<=3)(ht:bz w0 a b c d vs t)(I:aC t)(hs:RS O w0 sv z)(bI:ab t.vars z) :
  Calls aj 274 #[.agg #[a,b,c,d],sv,E kind] w0 fun e w'=>e=.returned (.tuple #[E (ra t z kind).2,bO (ra t z kind).1])/\M w0 w' []:=by
 have P:=ht;obtain⟨ha,hb,hc,Q⟩:=ht;have _c:=Q.rs;have _d:=Q.len;have _e:=I.Z;obtain⟨R,f⟩:=À (ra t z kind);rw[<-f];unfold ra at f;have Y:=M.start w0;refine bB ao Tryz.func274 ?_;refine eB ?_;intro p w Y;obtain⟨pt,rfl⟩:=À p;refine aU rfl (ģ (P.at Y) I) ?_;rintro _ w' ⟨pr,a2,gv,cv,lv,us,rfl,an⟩;refine aL ?_;clear an Y;intro Y;have S:decide (kind<1)=false:=eA U;have j':decide (3<kind)=false:=eA U;refine W ?_
 try simp only[S,j'];refine tH ?_
 refine W ?_;refine aU rfl (ġ (Y.cU 0 rfl:oR w' pr t a2 gv cv lv us) I (hs.at Y) bI) ?_;rintro _ w' u;rcases u with ⟨m,rfl,an⟩|⟨K,cs,H',rfl,J',an⟩
 ·replace Y:=Y.cr an
  clear an;refine⟨_,rfl,?_⟩;rw[aH m]at f;generalize j:bO 3=ev;refine W ?_;refine aU rfl (j ▸ LQ 3 3) ?_;refine j7 ?_;clear Y;intro w' Y;rw[show decide ((3:Int)≠0/\(3:Int)=3)=true by decide];refine W ?_;rw[f];exact cX (v:=E 1125899906842624) (v':=.nilIface) rfl rfl rfl ⟨by rw[gy rfl],iY Y⟩
 refine aL ?_;clear an Y;intro Y;rw[aP H']at f;obtain⟨C,hC⟩:=À (fC t z (de t z) []);rw[<-hC]at Y f;have P':bO 0=.nilIface:=gy rfl;refine W ?_;refine aU rfl (P' ▸ LQ 0 3) ?_;refine j7 ?_;clear Y;intro w' Y;rw[show decide ((0:Int)≠0/\(0:Int)=3)=false by decide];have o:iG _ K cs C:=Y.cU 0 rfl;have R':=o.rs;refine W ?_;obtain⟨n,m⟩:=À ((if (24:Int)<cs.length then 24 else (cs.length:Int)).toNat);have T':n<=cs.length:=by rw[m];split<;>omega
 have x:C.take n=C.take 24:=by
  have g:=o.len;by_cases h:(24:Int)<cs.length
  ·rw[m,aP h];rfl
  rw[m,aH h,gH U,gH U]
 rw[<-m];obtain⟨q,y⟩:=À (C.take 24);rw[<-y]at f;obtain⟨g,l⟩:=À (ssub K bW.sz 0 n);obtain⟨i,A⟩:=À (cut cs 0 n);rw[<-l];replace Y:=M.rd (Δ:=[bj fun w=>iG w K cs C]) (φ:=fun w=>iG w g i q) (fun _ w h=>by rw[l,A,y,<-x];exact(h.cU 0 rfl:iG w K cs C).cut T') Y;clear o R' m;replace Y:=Y.nil (T:=O) (e:=3);replace Y:=Y.bb (Δ:=[X O 3 (nS) [],bj fun w=>iG w g i q]);refine dN [11,11,13,13,52,61] (G:=Nat) (H:=Value) (fun k r=>[(52,E k),(11,r)]) (fun k r w=>k<=t.Z.length/\M w0 w [X O 3 r ((am t).take k),bj fun w=>iG w g i q]) (fun k _=>t.Z.length-k) 0 (nS) (fun _ _=>rfl) ⟨rfl,rfl,au⟩ ⟨br _,Y⟩ ?_;clear Y;rintro σ k r w ⟨hk,Y⟩;have J':(am t).length=t.Z.length:=tB t;have _a:((am t).take k).length=k:=by rw[jf];omega
 refine aA ?_ ?_<;>intro h2
 ·have B:k<t.Z.length:=U
  have D:=Q.dK k B;have _b:=D.one;have V':=D.aO;have F:(am t).take (k+1)=(am t).take k++[(az cp vs k).aO]:=by rw[eD O.dflt U,tC B,V']
  repeat (first|refine dB ?_|(refine iy ?_;clear Y;intro p w Y)|(refine qx ?_;clear Y;intro w Y)|(refine fR ?_;clear Y;intro s w Y))
  rw[<-F]at Y
  exact⟨k+1,_,⟨rfl,rfl,au⟩,aV,⟨U,by
   have h1:=Y.tail.tail
   exact h1⟩,U⟩
 have V':k=t.Z.length:=U;rw[V',gH U]at Y;have B:=zy I;refine W ?_;refine aU rfl (SS hO L N (bm (s:=r) Y) U B (Y.cU 1 rfl:iG w g i q)) ?_;refine j7 ?_;clear Y;intro w' Y;obtain⟨V,hV⟩:=À (te kind (am t) q);rw[<-hV]at f ⊢;generalize j:bO V.1=ev;refine W ?_;refine aU rfl (j ▸ LQ V.1 5) ?_;refine j7 ?_;clear Y;intro w' Y;by_cases F:V.1=5
 ·rw[aP F]at f
  rw[show decide (V.1≠0/\V.1=5)=true from dY ⟨U,F⟩];refine W ?_;refine aU rfl (SS (kind:=1) (fun h=>absurd h dc) dc dc (bm (s:=r) Y) U B (Y.cU 1 rfl:iG _ g i q)) ?_;refine j7 ?_;clear Y;intro w' Y;rw[<-f];by_cases D:R.1=0
  ·rw[gy D]
   refine W ?_;exact cX (v:=E R.2) (v':=.nilIface) rfl rfl rfl ⟨rfl,iY Y⟩
  rw[dq D];refine W ?_;exact cX (v:=E R.2) (v':=.iface 57 (E R.1)) rfl rfl rfl ⟨rfl,iY Y⟩
 rw[aH F]at f;rw[show decide (V.1≠0/\V.1=5)=false from eA fun h=>F h.2];subst f;refine W ?_;exact cX (v:=E R.2) (v':=ev) rfl rfl rfl ⟨by rw[j],iY Y⟩
end
end Go.Proofs.YtmapkjoefdgjfaaGreatDoor
