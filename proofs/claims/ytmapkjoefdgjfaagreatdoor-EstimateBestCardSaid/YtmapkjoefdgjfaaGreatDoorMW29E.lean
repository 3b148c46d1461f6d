/- Several texts. -/
import Derived.Test.YtmapkjoefdgjfaaGreatDoorMW28E
set_option linter.unusedSimpArgs false
set_option linter.unusedVariables false
set_option linter.defProp false
set_option maxRecDepth 8000
set_option maxHeartbeats 16000000
open List Nat
namespace Go.Proofs.YtmapkjoefdgjfaaGreatDoor
open Go.Sl
variable {w0:World}{t:aa}{z:J}{a:Value}
section
open Go.Sl Go
attribute [local irreducible] vc opsW opsD opV opW PureV ReadV Thn Blk
def L5 {lv:Value}{l:List da}(d:RS gL w0 lv l) :
  Calls ai 288 #[lv] w0 fun e w'=>e=.returned (.tuple #[E (vI l).2,bI (vI l).1])/\Z w0 w' []:=by
 have Y:=Z.start w0;obtain⟨R,b⟩:=À (vI l);obtain⟨S,c⟩:=À (mf ⟨0,1⟩ l);rw[<-b];unfold vI at b;rw[<-c]at b;refine bA an Tryz.func288 ?_;refine O ?_;refine aL rfl (ı (d.at Y)) ?_;refine gZ ?_;clear Y;intro w' Y;rw[<-c];by_cases he:S.1=0
 ·rw[aM he]at b
  rw[fK he];refine eE ?_;intro p w Y;refine aL rfl (Ĳ S.2) ?_;refine jT ?_;intro w' Y;rw[b];exact cR (v:=E (lB S.2)) (v':=.nilIface) rfl rfl rfl ⟨by rw[fK rfl],gm Y⟩
 rw[aC he]at b;rw[cS he];refine eE ?_;intro p w Y;rw[b];exact cR (v:=E 0) (v':=.iface 57 (E S.1)) rfl rfl rfl ⟨by rw[cS he],gm Y⟩
end
section
open Go.Sl Go Go.Extern
attribute [local irreducible] vc opsW opsD opV opW PureV ReadV Thn Blk
def zA (k:Int)(w:World):(callFunc 283 #[.iface 57 (E k)]).run ai w=.ok (.value (.iface 398 (.agg #[Go.typeHandle ai 57]))) w:=by
 have h:=@run_callFunc_extern ai 283 _ Extern.ReflectliteType.typeOf Tryz.func283 kr kr kr kr;rw[h];have b:(Extern.ReflectliteType.typeOf #[.iface 57 (E k)]).run ai w=.ok (.iface 398 (.agg #[Go.typeHandle ai 57])) w:=kr;rw[b];rfl
def Fv (w:World):(callFunc 347 #[.agg #[Go.typeHandle ai 57]]).run ai w=.ok (.value (.bool true)) w:=by
 have h:=@run_callFunc_extern ai 347 _ (Extern.ReflectliteType.method fun t=>do Rtype.noPackHeld "Comparable" t; pure (.bool (<- typeInfo t).comparable)) Tryz.func347 kr kr kr kr;rw[h];have b:((Extern.ReflectliteType.method fun t=>do Rtype.noPackHeld "Comparable" t; pure (.bool (<- typeInfo t).comparable)) #[.agg #[Go.typeHandle ai 57]]).run ai w = .ok (.bool true) w := by kernel_rfl
 rw[b];rfl
def Fw:np ai 398 (.agg #[Go.typeHandle ai 57]) "Comparable" 347 (.agg #[Go.typeHandle ai 57]) := fun m w => by kernel_rfl
def E7:∃ ms,(ai).underlying 46=some (.interface ms):=by
 have h:kI ai 46:=inferInstance;have h:=h.ok;split at h
 ·rename_i m hm;exact⟨m,hm⟩
 cases h
def M8:(ai).underlying 57=some (.int .i64):=kr
def M9:((ai).info? 57).map (·.comparable)=some true:=kr
def S9 (P:Program)(t a:TypeId):Bool:=match P.underlying a with
 | some (.interface want)=>(match (P.info? t).map (fun i=>(lacking want i.methods).isEmpty) with|some false=>true|_=>false) && (match (P.info? a).map (·.zero) with|some (some Value.nilIface)=>true|_=>false)
 | _=>false
def L6 {ρ:Fr}{ty:TypeId}{pos:String}{af:Array Edge}{x:Operand}{t c:TypeId}{dst:Option Nat}{g:Option (Nat × Bool)}{v:Value}{u:TypeId}(hx:aX ρ x=.iface u v)(h:S9 ai u t=true):PureV ai ⟨dst,.typeAssert x c t true,ty,pos,af,g⟩ ρ (.tuple #[.nilIface,.bool false]):=by
 unfold S9 at h;split at h
 ·rename_i want hu
  rw[Bool.and_eq_true]at h;obtain⟨h1,b⟩:=h;refine Ë hx hu ?_ ?_
  ·split at h1
   ·assumption
   cases h1
  split at b
  ·assumption
  cases b
 cases h
def ĳ (c k:Int) :
  Calls ai 284 #[.iface 57 (E c),.iface 57 (E k),.bool true] w0 fun e w'=>e=.returned (.bool (c == k))/\Z w0 w' []:=by
 have Y:=Z.start w0;obtain⟨ms,d⟩:=E7;refine bA an Tryz.func284 ?_;refine O ?_;refine cP [0,0,6,10,12,53] (G:=Unit) (fun _=>[(0,.iface 57 (E c))]) (fun _ w=>Z w0 w []) (fun _=>0) () (fun _=>rfl) ⟨rfl,az⟩ Y ?_;clear Y;rintro g ⟨⟩ w Y;refine O ?_;refine eY rfl (Ì (a:=c) (b:=k) rfl rfl d M9 M8) ?_;cases f:(c == k)
 ·refine O ?_
  refine eY rfl (L6 rfl kr) ?_;refine O ?_;refine eY rfl (L6 rfl kr) ?_;refine O ?_;refine eY rfl (L6 rfl kr) ?_;refine O ?_;exact bf (v:=.bool false) rfl rfl ⟨rfl,Y⟩
 refine O ?_;exact bf (v:=.bool true) rfl rfl ⟨rfl,Y⟩
instance qy2:ao ai 277:=⟨kr⟩
instance qy3:ao ai 284:=⟨kr⟩
def L7 (c k:Int) :
  Calls ai 277 #[bI c,.iface 57 (E k)] w0 fun e w'=>e=.returned (.bool (decide (c≠0/\c=k)))/\Z w0 w' []:=by
 have Y:=Z.start w0;obtain⟨ms,b⟩:=E7;refine bA an Tryz.func277 ?_;by_cases d:c=0
 ·rw[fK d]
  refine O ?_;refine eY rfl (Í rfl rfl b) ?_;refine O ?_;exact bf (v:=.bool false) rfl rfl ⟨by rw[dU fun h=>h.1 d],Y⟩
 rw[cS d];refine O ?_;refine É rfl (zA k w0) ?_;refine O ?_;refine Ê Fw rfl rfl (Fv w0) ?_;refine O ?_;refine aL rfl (ĳ c k) ?_;rintro _ w' ⟨rfl,al⟩;refine aA ?_;clear al Y;intro Y;refine O ?_;exact bf (v:=.bool (c == k)) rfl rfl ⟨by rw[show decide (c≠0/\c=k)=(c == k) from ?_];by_cases h:c=k<;>simp[h]at *;assumption,Y⟩
end
section
open Go.Sl Go
attribute [local irreducible] vc opsW opsD opV opW PureV ReadV Thn Blk
def Ĵ {s:J}{f:bp}{l:List bp}{out:List J}:fD t s (f::l) out=if rf t s f∈out then fD t s l out else fD t s l (out++[rf t s f]):=by rw[fD]
def ĵ {f:bp}(I:aG t):(∀ x∈rf t z f,0<=x/\x<t.M.length)/\(rf t z f).length<=262144:=by
 constructor
 ·intro x hx
  obtain⟨u,hu,rfl⟩:=iS.1 (Dk.1 hx);have:=(LW I (rV.1 hu).1).1;omega
 have h1:=Ph (((l6 t).filter (sb t z f)).map fun u=>(u.op:Int));rw[iz]at h1;have b:=uC (sb t z f) (l6 t);have c:=SN I;show (dw _).length<=_;omega
def Ķ {L:Addr}{gv cv lv sv:Value}{us:List tQ}(A:oV w0 L t a gv cv lv us)(I:aG t)(N:RS W w0 sv z)(bL:ab t.vars z) :
  Calls ai 276 #[.pointer (some L),sv] w0 fun e w'=>(¬sD t z ⟨-1,-1⟩/\e=.returned (.tuple #[nS,bI 3])/\Z w0 w' [])\/∃ b cs,sD t z ⟨-1,-1⟩/\e=.returned (.tuple #[b,.nilIface])/\cs.length<=4096/\Z w0 w' [aZ fun w=>iI w b cs (fD t z (dh t z) [])]:=by
 have V:(ar t).length=t.M.length:=uA t;have j':(dh t z).length<=4096:=by
  have h1:=uC (qW t z) (jk t.vars);have P:=Ig (fun i B=>(I.mN i B).2) t.vars.length (cD _);have c:nb t.vars t.vars.length=jk t.vars:=rfl;rw[c]at P;have:=I.vars;show ((jk t.vars).filter (qW t z)).length<=_;omega
 have Y:=Z.start w0;refine bA an Tryz.func276 ?_;have H':=A.box;have J':=A.aS;refine O ?_;refine aL rfl (Ć (A.at Y) I (N.at Y) bL) ?_;rintro _ w' u;rcases u with ⟨hn,rfl,al⟩|⟨o,D,rfl,al⟩
 ·replace Y:=Y.cy al
  refine⟨_,rfl,?_⟩;rw[cS dc];refine O ?_;exact cR (v:=nS) (v':=.iface 57 (E 3)) rfl rfl rfl (.inl ⟨hn,rfl,Y⟩)
 refine aI ?_;clear al Y;intro Y;replace Y:=Y.nil (T:=ca) (e:=361);replace Y:=Z.pR (φ:=kE [] []) (fun w i B=>absurd B (dr _)) Y;replace Y:Z w0 w' [X ca 361 (nS) [],aZ (kE [] []),X aq 63 o (dh t z)]:=Y.aY;refine O ?_;refine zK [8,8,10,11,13,13,25,60] (G:=Nat) (H:=Value) (I':=List il) (M':=List J) (fun k b _ _=>[(25,E k),(8,b)]) (fun k b cs C w=>k<=(dh t z).length/\cs.length<=k/\cs.length=C.length/\fD t z (dh t z) []=fD t z ((dh t z).drop k) C/\Z w0 w [X ca 361 b cs,aZ (kE cs C),X aq 63 o (dh t z)]) (fun k _ _ _=>(dh t z).length-k) 0 (nS) [] [] (fun _ _ _ _=>rfl) ⟨rfl,rfl,az⟩ ⟨bu _,cD _,rfl,rfl,Y⟩ ?_;clear Y;rintro σ k b cs C w ⟨hk,P',d,g,Y⟩;refine aB ?_ ?_<;>intro h1
 ·have F:k<(dh t z).length:=U
  obtain⟨f,Q⟩:=À ((dh t z).getD k aq.dflt);rw[Bi aq.dflt F,<-Q,Ĵ]at g;obtain⟨K,R⟩:=À (rf t z f);obtain⟨S,r2⟩:=ĵ (t:=t) (z:=z) (f:=f) I;rw[<-R]at g S r2;refine db ?_;intro p w Y;obtain⟨R',rfl⟩:=À p;rw[<-Q]at Y ⊢;refine aL rfl (ĉ (f:=f) (A.at Y) I (N.at Y) bL) ?_;rintro _ w' ⟨c,rfl,al⟩;refine aI ?_;clear al Y;intro Y;rw[<-R]at Y;have j:=(bk (s:=c) Y).one;refine O ?_;refine zH (v1:=c) (v2:=E 1125899906842624) rfl rfl rfl (by simp only[eD,eN,j];rfl) ?_;refine E0 ?_;intro p w Y;obtain⟨q,rfl⟩:=À p;refine jF (n:=2) (p:=q) (vs:=[c,E 1125899906842624]) rfl rfl Y inferInstance rfl rfl (by simp only[eD,eN,j];rfl) ?_;clear Y;intro w Y;replace Y:Z w0 w [ak q 361 [c,E 1125899906842624],X W 3 c K,X ca 361 b cs,aZ (kE cs C),X aq 63 o (dh t z)]:=Y.aY;refine O ?_;refine aL rfl (Ĝ (pc:=q) (K:=K) ⟨bk (s:=b) Y,d,Y.ct 3 rfl⟩ (pB (p:=q) Y) (bk (s:=c) Y)) ?_;rintro _ w' ⟨⟨r,rfl,y⟩,al⟩;refine aA ?_;clear al Y;intro Y;cases r
  case true =>
   have hm:=y.1 rfl;rw[aM hm]at g;refine O ?_;exact⟨k+1,b,cs,C,⟨rfl,rfl,az⟩,aU,⟨U,U,d,g,Y.tail.tail⟩,U⟩
  have hm:K∉C:=fun h=>by cases y.2 h
  rw[aC hm]at g;refine O ?_;refine dQ [13,13,40,55] (G:=Nat) (H:=Int) (fun i _=>[(40,E i)]) (fun i m w=>i<=K.length/\Z w0 w [ak q 361 [c,E m],X W 3 c K,X ca 361 b cs,aZ (kE cs C),X aq 63 o (dh t z)]) (fun i _=>K.length-i) 0 1125899906842624 (fun _ _=>rfl) ⟨rfl,az⟩ ⟨bu _,Y⟩ ?_;clear Y;rintro T' i m w ⟨B,Y⟩;refine aB ?_ ?_<;>intro P
  ·have l:i<K.length:=U
   have V':=S _ (cH W.dflt l);refine fm ?_;intro w Y;simp only[mM,mI]at Y;exact⟨i+1,_,⟨rfl,az⟩,aU,⟨U,Y⟩,U⟩
  refine O ?_;refine jK ca (x1:=⟨c,m⟩) rfl rfl rfl (fY rfl) (fe _) Y ?_;clear Y;intro so w Y;refine q7 (s:=b) (s2:=so) inferInstance rfl rfl (bk Y) rfl rfl (fun x hx v hv=>?_) (by simp only[length_cons,length_nil];omega) (by unfold bU;simp only[length_cons,length_nil];omega) Y ?_
  ·rw[dp.1 hx]at hv
   simp only[ca,ee,fI,pP]at hv;rcases hv with rfl|rfl
   ·exact j
   rfl
  clear Y;intro l w Y;refine O ?_;replace Y:Z w0 w [X W 3 c K,aZ (kE cs C),X ca 361 l (cs++[⟨c,m⟩]),X aq 63 o (dh t z)]:=Y.aY;replace Y:=Z.rd (Δ:=[X W 3 c K,aZ (kE cs C)]) (φ:=kE (cs++[⟨c,m⟩]) (C++[K])) (fun _ w h=>(h.ct 1 rfl).eQ d (h.rs 0 rfl)) Y;exact⟨k+1,l,_,C++[K],⟨rfl,rfl,az⟩,aU,⟨U,by simp;omega,by simp[d],g,Y.aY (Δ:=[X ca 361 l (cs++[⟨c,m⟩]),aZ (kE (cs++[⟨c,m⟩]) (C++[K])),X aq 63 o (dh t z)])⟩,U⟩
 rw[pS U]at g;refine O ?_;replace Y:=Z.rd (Δ:=[X ca 361 b cs,aZ (kE cs C)]) (φ:=fun w=>iI w b cs (fD t z (dh t z) [])) (fun _ w h=>by rw[g];exact⟨h.rs 0 rfl,d,h.ct 1 rfl⟩) Y;exact cR (v:=b) (v':=.nilIface) rfl rfl rfl (.inr ⟨b,cs,D,rfl,U,Y.only⟩)
def iw (t:aa)(k:Nat):List tS:=(List.range k).flatMap (sO t)
def jl (t:aa)(k j:Nat):List tS:=(List.range j).map fun j=>⟨k,lC (t.M.getD k bj) j,vq (t.M.getD k bj) j⟩
def C8 (t:aa)(k j:Nat):jl t k (j+1)=jl t k j++[⟨k,lC (t.M.getD k bj) j,vq (t.M.getD k bj) j⟩]:=by
 unfold jl;rw[l5,oh];rfl
def ķ (t:aa)(k:Nat):iw t (k+1)=iw t k++jl t k (t.M.getD k bj).aJ.length:=by
 unfold iw;rw[l5,wA];simp[sO,jl]
def ĸ {b c d:Value}{vs:List iW}(ht:bn w0 a b c d vs t)(I:aG t) :
  Calls ai 275 #[.agg #[a,b,c,d]] w0 fun e w'=>∃ p a2 gv cv lv us,e=.returned (.tuple #[.pointer (some p),.nilIface])/\Z w0 w' [aZ fun w=>oV w p t a2 gv cv lv us]:=by
 have V:=ht;obtain⟨ha,hb,hc,hd⟩:=ht;have _c:=hd.rs;have _d:=hd.len;have _e:=I.vars;have _f:=I.M;have _g:=sd I.aH;have Y:=Z.start w0;refine bA an Tryz.func275 ?_;refine db ?_;clear Y;intro y w Y;refine aL rfl (tC (V.at Y)) ?_;rintro _ w' ⟨rfl,al⟩;refine aA ?_;clear al Y;intro Y;rw[fK ((oz t).2 I)];refine O ?_;refine fz (pl [0,1,3,4,2] (.cI 4::pl [5,6,7,8] [])) Y kr ?_;clear Y;intro w Y;refine O ?_;refine aL rfl (ns (ha.at Y) U) ?_;rintro _ w' ⟨a2,rfl,al⟩;refine aI ?_;clear al Y;intro Y;have oa:=(bk (s:=a2) Y).one;refine O ?_;refine aL rfl (DA (hc.at Y) U) ?_;rintro _ w' ⟨gv,rfl,al⟩;refine aI ?_;clear al Y;intro Y;have og:=(bk (s:=gv) Y).one;refine O ?_;refine rW (vs:=[(0,a2),(1,gv)]) (ls:=[(0,[a2]),(1,[gv])]) rfl (by simp only[l8,tD,Bx oa,Bx og]) rfl ?_;refine zW ?_;refine Ag ?_;refine yo (vs:=[a2,gv,nS,nS]) rfl Y ?_;clear Y;intro o w Y;have q:Z w0 w (ak o 376 [a2,gv,(nS),(nS)]::X W 3 (nS) ((ar t).take 0)::X jJ 378 (nS) ([]:List tQ)::aZ (pX ([]:List tQ) (iw t 0))::X W 3 a2 t.vars::X aq 63 gv t.aH::[ak y 26 [a,b,c,d]]):=by
  have g1:Z w0 w [ak o 376 [a2,gv,(nS),(nS)],X aq 63 gv t.aH,X W 3 a2 t.vars,ak y 26 [a,b,c,d]]:=Y;have g2:=Z.pR (φ:=pX [] []) (fun w i g=>absurd g (dr _)) ((g1.nil (T:=W) (e:=3)).nil (T:=jJ) (e:=378));have f:iw t 0=[]:=by simp[iw]
  rw[f,wK];exact g2.cw
 clear Y;have Y:=q;clear q;refine O ?_;refine zK [6,7,9,9,26,72] (G:=Nat) (H:=Value) (I':=Value) (M':=List tQ) (fun k _ _ _=>[(26,E k)]) (fun k cv lv us w=>k<=t.M.length/\us.length=(iw t k).length/\Z w0 w (ak o 376 [a2,gv,cv,lv]::X W 3 cv ((ar t).take k)::X jJ 378 lv us::aZ (pX us (iw t k))::X W 3 a2 t.vars::X aq 63 gv t.aH::[ak y 26 [a,b,c,d]])) (fun k _ _ _=>t.M.length-k) 0 (nS) (nS) [] (fun _ _ _ _=>rfl) ⟨rfl,az⟩ ⟨bu _,by simp[iw],Y⟩ ?_;clear Y;rintro _h k cv lv us w ⟨hk,g,Y⟩;refine aB ?_ ?_<;>intro h2
 ·have D:k<t.M.length:=U
  have A:=hd.dJ k D;have J':=A.one;have C:=A.pre;have hgo:=I.op k D;have _i:=sd hgo.pre;have _j:=hgo.aJ;have j':=A.aN;obtain⟨es,F⟩:=A.aJ;have P':=F.rs;have R':=F.len;have _k:(ar t).length=t.M.length:=uA t;have T':((ar t).take k).length=k:=by rw[jd];omega
  have N:(ar t).take (k+1)=(ar t).take k++[(au cd vs k).aN]:=by rw[eC W.dflt U,vZ D,j']
  have H':=LX I k hk;refine db ?_;clear Y;intro P w Y;refine fz (pl [0,1,2,3,4,5,6,7] (.cI 4::pl [8,9,10,11] [])) Y kr ?_;clear Y;intro w Y
  repeat (first|refine du ?_|(refine tq ?_;clear Y;intro w Y)|(refine fA ?_;clear Y;intro s w Y))
  simp only[mM,mI]at Y;rw[<-N]at Y;obtain⟨l,rfl⟩:=À s;have q:Z w0 w (ak o 376 [a2,gv,l,lv]::X W 3 l ((ar t).take (k+1))::X jJ 378 lv us::aZ (pX us (iw t k++jl t k 0))::ak P 44 (cd.enc (au cd vs k))::X W 3 a2 t.vars::X aq 63 gv t.aH::[ak y 26 [a,b,c,d]]):=by
   have f:jl t k 0=[]:=rfl;rw[f,fS];exact Y.cw
  clear Y;have Y:=q;clear q;refine O ?_;refine nZ [9,9,45,71] (G:=Nat) (H:=Value) (I':=List tQ) (fun j _ _=>[(45,E j)]) (fun j lv us w=>j<=(t.M.getD k bj).aJ.length/\us.length=(iw t k++jl t k j).length/\Z w0 w (ak o 376 [a2,gv,l,lv]::X W 3 l ((ar t).take (k+1))::X jJ 378 lv us::aZ (pX us (iw t k++jl t k j))::ak P 44 (cd.enc (au cd vs k))::X W 3 a2 t.vars::X aq 63 gv t.aH::[ak y 26 [a,b,c,d]])) (fun j _ _=>(t.M.getD k bj).aJ.length-j) 0 lv us (fun _ _ _=>rfl) ⟨rfl,az⟩ ⟨bu _,by simpa [jl] using g,Y⟩ ?_;clear Y g lv us;rintro _l j lv us w ⟨hj,g,Y⟩;have V':(iw t k++jl t k j).length=(iw t k).length+j:=by simp[jl]
  have _a:(iw t k).length<=64*k:=H';refine aB ?_ ?_<;>intro h3
  ·have Q:j<(t.M.getD k bj).aJ.length:=U
   have B:=F.dJ j Q;have R:=hgo.ff j Q;have _b:=B.one;have _m:=B.bO;have _n:=sd R.1;have K:=B.var;have L:=B.val;refine db ?_;clear Y;intro _o w Y;refine wu (.s [0,1,2,3,5,6,9,12,14,4,7,10,13,15] (.d 8 [4,10,13,15] (.d 11 [4,13,15] (.c 16 [4,7,10] (.c 17 [4] (.c 18 [4] (.s [19,20,21,22] (.jE []))))) (.d 16 [4,7,10] (.c 11 [4,13,15] (.c 17 [4] (.c 18 [4] (.s [19,20,21,22] (.jE []))))) (.stop))) (.d 16 [4,7,10] (.c 8 [4,10,13,15] (.c 11 [4,13,15] (.c 17 [4] (.c 18 [4] (.s [19,20,21,22] (.jE [])))))) (.stop)))) Y kr kr ?_;clear Y;intro w Y;refine O ?_;refine jq ?_ (jq ?_ pZ)
   ·refine O ?_
    refine aL rfl (DA (C.at Y) U) ?_;rintro _ w' ⟨nd,rfl,al⟩;refine aI ?_;clear al Y;intro Y;refine O ?_;refine jq ?_ (jq ?_ pZ)
    ·refine nX ?_;clear Y;intro s w Y
     obtain⟨f,rfl⟩:=À s;have n:=(bk (s:=f) Y).one;refine rW (vs:=[(0,E (k:Int)),(1,f),(2,.agg #[E (au aV es j).var,E (au aV es j).val])]) (ls:=[(0,[E (k:Int)]),(1,[f]),(2,[E (au aV es j).var,E (au aV es j).val])]) rfl (by simp only[l8,tD,Bx n];rfl) rfl ?_;refine O ?_;refine jK jJ (x1:=⟨k,f,⟨(au aV es j).var,(au aV es j).val⟩⟩) rfl rfl rfl (fY rfl) (fe _) Y ?_;clear Y;intro S w Y;refine O ?_;refine q7 (s:=lv) (s2:=S) inferInstance rfl rfl (bk Y) rfl rfl (fun x hx v hv=>?_) (by simp only[length_cons,length_nil];omega) (by unfold bU;simp only[length_cons,length_nil];omega) Y ?_
     ·rw[dp.1 hx]at hv
      simp only[jJ,ee,fI,pP]at hv;rcases hv with rfl|rfl|rfl|rfl
      ·rfl
      ·exact n
      ·rfl
      rfl
     clear Y;intro m w Y;refine fm ?_;clear Y;intro w Y;simp only[mM,mI]at Y;have r:Z w0 w (X aq 63 f ((t.M.getD k bj).pre++((t.M.getD k bj).aJ.getD j bE).bO)::aZ (pX us (iw t k++jl t k j))::ak o 376 [a2,gv,l,m]::X W 3 l ((ar t).take (k+1))::X jJ 378 m (us++[⟨k,f,⟨(au aV es j).var,(au aV es j).val⟩⟩])::ak P 44 (cd.enc (au cd vs k))::X W 3 a2 t.vars::X aq 63 gv t.aH::[ak y 26 [a,b,c,d]]):=Y.aY
     have u:=Z.rd (Δ:=[X aq 63 f ((t.M.getD k bj).pre++((t.M.getD k bj).aJ.getD j bE).bO),aZ (pX us (iw t k++jl t k j))]) (φ:=pX (us++[⟨k,f,⟨(au aV es j).var,(au aV es j).val⟩⟩]) (iw t k++jl t k (j+1))) (fun _ w h=>by
      rw[C8,<-fL];refine(h.ct 1 rfl).eQ g ⟨rfl,?_,h.rs 0 rfl⟩
      rw[K,L];rfl) r
     exact⟨j+1,m,us++[⟨k,f,⟨(au aV es j).var,(au aV es j).val⟩⟩],⟨rfl,az⟩,aU,⟨U,by rw[C8,<-fL,length_append,length_append,g];rfl,u.cw⟩,U⟩
    refine nX ?_;clear Y;intro s w Y;obtain⟨f,rfl⟩:=À s;have n:=(bk (s:=f) Y).one;refine rW (vs:=[(0,E (k:Int)),(1,f),(2,.agg #[E (au aV es j).var,E (au aV es j).val])]) (ls:=[(0,[E (k:Int)]),(1,[f]),(2,[E (au aV es j).var,E (au aV es j).val])]) rfl (by simp only[l8,tD,Bx n];rfl) rfl ?_;refine O ?_;refine jK jJ (x1:=⟨k,f,⟨(au aV es j).var,(au aV es j).val⟩⟩) rfl rfl rfl (fY rfl) (fe _) Y ?_;clear Y;intro S w Y;refine O ?_;refine q7 (s:=lv) (s2:=S) inferInstance rfl rfl (bk Y) rfl rfl (fun x hx v hv=>?_) (by simp only[length_cons,length_nil];omega) (by unfold bU;simp only[length_cons,length_nil];omega) Y ?_
    ·rw[dp.1 hx]at hv
     simp only[jJ,ee,fI,pP]at hv;rcases hv with rfl|rfl|rfl|rfl
     ·rfl
     ·exact n
     ·rfl
     rfl
    clear Y;intro m w Y;refine fm ?_;clear Y;intro w Y;simp only[mM,mI]at Y;have r:Z w0 w (X aq 63 f ((t.M.getD k bj).pre++((t.M.getD k bj).aJ.getD j bE).bO)::aZ (pX us (iw t k++jl t k j))::ak o 376 [a2,gv,l,m]::X W 3 l ((ar t).take (k+1))::X jJ 378 m (us++[⟨k,f,⟨(au aV es j).var,(au aV es j).val⟩⟩])::ak P 44 (cd.enc (au cd vs k))::X W 3 a2 t.vars::X aq 63 gv t.aH::[ak y 26 [a,b,c,d]]):=Y.aY
    have u:=Z.rd (Δ:=[X aq 63 f ((t.M.getD k bj).pre++((t.M.getD k bj).aJ.getD j bE).bO),aZ (pX us (iw t k++jl t k j))]) (φ:=pX (us++[⟨k,f,⟨(au aV es j).var,(au aV es j).val⟩⟩]) (iw t k++jl t k (j+1))) (fun _ w h=>by
     rw[C8,<-fL];refine(h.ct 1 rfl).eQ g ⟨rfl,?_,h.rs 0 rfl⟩
     rw[K,L];rfl) r
    exact⟨j+1,m,us++[⟨k,f,⟨(au aV es j).var,(au aV es j).val⟩⟩],⟨rfl,az⟩,aU,⟨U,by rw[C8,<-fL,length_append,length_append,g];rfl,u.cw⟩,U⟩
   refine O ?_;refine aL rfl (DA (C.at Y) U) ?_;rintro _ w' ⟨nd,rfl,al⟩;refine aI ?_;clear al Y;intro Y;refine nX ?_;clear Y;intro s w Y;obtain⟨f,rfl⟩:=À s;have n:=(bk (s:=f) Y).one;refine rW (vs:=[(0,E (k:Int)),(1,f),(2,.agg #[E (au aV es j).var,E (au aV es j).val])]) (ls:=[(0,[E (k:Int)]),(1,[f]),(2,[E (au aV es j).var,E (au aV es j).val])]) rfl (by simp only[l8,tD,Bx n];rfl) rfl ?_;refine O ?_;refine jK jJ (x1:=⟨k,f,⟨(au aV es j).var,(au aV es j).val⟩⟩) rfl rfl rfl (fY rfl) (fe _) Y ?_;clear Y;intro S w Y;refine O ?_;refine q7 (s:=lv) (s2:=S) inferInstance rfl rfl (bk Y) rfl rfl (fun x hx v hv=>?_) (by simp only[length_cons,length_nil];omega) (by unfold bU;simp only[length_cons,length_nil];omega) Y ?_
   ·rw[dp.1 hx]at hv
    simp only[jJ,ee,fI,pP]at hv;rcases hv with rfl|rfl|rfl|rfl
    ·rfl
    ·exact n
    ·rfl
    rfl
   clear Y;intro m w Y;refine fm ?_;clear Y;intro w Y;simp only[mM,mI]at Y;have r:Z w0 w (X aq 63 f ((t.M.getD k bj).pre++((t.M.getD k bj).aJ.getD j bE).bO)::aZ (pX us (iw t k++jl t k j))::ak o 376 [a2,gv,l,m]::X W 3 l ((ar t).take (k+1))::X jJ 378 m (us++[⟨k,f,⟨(au aV es j).var,(au aV es j).val⟩⟩])::ak P 44 (cd.enc (au cd vs k))::X W 3 a2 t.vars::X aq 63 gv t.aH::[ak y 26 [a,b,c,d]]):=Y.aY
   have u:=Z.rd (Δ:=[X aq 63 f ((t.M.getD k bj).pre++((t.M.getD k bj).aJ.getD j bE).bO),aZ (pX us (iw t k++jl t k j))]) (φ:=pX (us++[⟨k,f,⟨(au aV es j).var,(au aV es j).val⟩⟩]) (iw t k++jl t k (j+1))) (fun _ w h=>by
    rw[C8,<-fL];refine(h.ct 1 rfl).eQ g ⟨rfl,?_,h.rs 0 rfl⟩
    rw[K,L];rfl) r
   exact⟨j+1,m,us++[⟨k,f,⟨(au aV es j).var,(au aV es j).val⟩⟩],⟨rfl,az⟩,aU,⟨U,by rw[C8,<-fL,length_append,length_append,g];rfl,u.cw⟩,U⟩
  have f:j=(t.M.getD k bj).aJ.length:=U;rw[f,<-ķ]at Y g;refine O ?_;exact⟨k+1,l,lv,us,⟨rfl,az⟩,aU,⟨U,g,Y.cw⟩,U⟩
 have f:k=t.M.length:=U;subst f;rw[gH (by rw[uA];exact cD _)]at Y;refine O ?_;have j:=Z.rd (Δ:=[ak o 376 [a2,gv,cv,lv],X W 3 cv (ar t),X jJ 378 lv us,aZ (pX us (l6 t)),X W 3 a2 t.vars,X aq 63 gv t.aH]) (Γ:=[ak y 26 [a,b,c,d]]) (φ:=fun w=>oV w o t a2 gv cv lv us) (fun _ w h=>⟨h.gn 0 rfl,h.rs 4 rfl,h.rs 5 rfl,h.rs 1 rfl,h.rs 2 rfl,g,h.ct 3 rfl⟩) Y;exact cR (v:=.pointer (some o)) (v':=.nilIface) rfl rfl rfl ⟨o,a2,gv,cv,lv,us,rfl,j.aY⟩
def wW:Prop:=∀ {w0:World}{c d:Value}{b:J}{cs:List il}{C:List J},RS W w0 c b->b.length<=4096->(∀ x∈b,0<=x/\x<=1048576)->iI w0 d cs C ->
  Calls ai 287 #[c,d] w0 fun e w'=>∃ f,e=.returned (.tuple #[f,bI (gg 3 b C).1])/\Z w0 w' [X gL 409 f (gg 3 b C).2]
def Ta {cv l:Value}{b:J}{cs:List il}{C:List J}{kind:Int}(hO:kind=3->wW)(m:1<=kind)(n:kind<=3)(j:RS W w0 cv b)(f:b.length<=4096)(g:∀ x∈b,0<=x/\x<=1048576)(k:iI w0 l cs C) :
  Calls ai 278 #[E kind,cv,l] w0 fun e w'=>e=.returned (.tuple #[E (th kind b C).2,bI (th kind b C).1])/\Z w0 w' []:=by
 obtain⟨R,d⟩:=À (th kind b C);obtain⟨V,i⟩:=À (gg kind b C);rw[<-d];unfold th at d;rw[<-i]at d;have Y:=Z.start w0;refine bA an Tryz.func278 ?_;have hk:kind=1\/kind=2\/kind=3:=U;rcases hk with rfl|rfl|rfl
 ·refine O ?_
  refine aL rfl (Ĺ (j.at Y) f g (k.at Y)) ?_;rintro _ w' ⟨h,rfl,al⟩;rw[<-i]at al ⊢;refine aI ?_;clear al Y;intro Y;by_cases he:V.1=0
  ·rw[aM he]at d
   rw[fK he];refine O ?_;refine aL rfl (L5 (bk (s:=h) Y)) ?_;refine gZ ?_;clear Y;intro w' Y;rw[<-d];by_cases c:R.1=0
   ·rw[fK c]
    refine O ?_;exact cR (v:=E R.2) (v':=.nilIface) rfl rfl rfl ⟨rfl,gm Y⟩
   rw[cS c];refine O ?_;exact cR (v:=E R.2) (v':=.iface 57 (E R.1)) rfl rfl rfl ⟨rfl,gm Y⟩
  rw[aC he]at d;rw[cS he];refine O ?_;rw[d];exact cR (v:=E 0) (v':=.iface 57 (E V.1)) rfl rfl rfl ⟨by rw[cS he],gm Y⟩
 ·refine O ?_
  refine aL rfl (WK (j.at Y) f g (k.at Y)) ?_;rintro _ w' ⟨h,rfl,al⟩;rw[<-i]at al ⊢;refine aI ?_;clear al Y;intro Y;by_cases he:V.1=0
  ·rw[aM he]at d
   rw[fK he];refine O ?_;refine aL rfl (L5 (bk (s:=h) Y)) ?_;refine gZ ?_;clear Y;intro w' Y;rw[<-d];by_cases c:R.1=0
   ·rw[fK c]
    refine O ?_;exact cR (v:=E R.2) (v':=.nilIface) rfl rfl rfl ⟨rfl,gm Y⟩
   rw[cS c];refine O ?_;exact cR (v:=E R.2) (v':=.iface 57 (E R.1)) rfl rfl rfl ⟨rfl,gm Y⟩
  rw[aC he]at d;rw[cS he];refine O ?_;rw[d];exact cR (v:=E 0) (v':=.iface 57 (E V.1)) rfl rfl rfl ⟨by rw[cS he],gm Y⟩
 refine O ?_;refine aL rfl (hO rfl (j.at Y) f g (k.at Y)) ?_;rintro _ w' ⟨h,rfl,al⟩;rw[<-i]at al ⊢;refine aI ?_;clear al Y;intro Y;by_cases he:V.1=0
 ·rw[aM he]at d
  rw[fK he];refine O ?_;refine aL rfl (L5 (bk (s:=h) Y)) ?_;refine gZ ?_;clear Y;intro w' Y;rw[<-d];by_cases c:R.1=0
  ·rw[fK c]
   refine O ?_;exact cR (v:=E R.2) (v':=.nilIface) rfl rfl rfl ⟨rfl,gm Y⟩
  rw[cS c];refine O ?_;exact cR (v:=E R.2) (v':=.iface 57 (E R.1)) rfl rfl rfl ⟨rfl,gm Y⟩
 rw[aC he]at d;rw[cS he];refine O ?_;rw[d];exact cR (v:=E 0) (v':=.iface 57 (E V.1)) rfl rfl rfl ⟨by rw[cS he],gm Y⟩
def iI.cut {w:World}{v:Value}{cs:List il}{C:List J}{n:Nat}(h:iI w v cs C)(b:n<=cs.length):iI w (ssub v ca.sz 0 n) (cut cs 0 n) (C.take n):=by
 obtain⟨h1,g,c⟩:=h;refine⟨yb h1 (bu _) b,by rw[yK b,jd];omega,fun i d=>?_⟩;rw[jd]at d;have e:au ca (Go.Sl.cut cs 0 n) i=au ca cs i:=by
  rw[nt,nt];simp only[Go.Sl.cut,Bs,List.getD];rw[wG,aM U]
 have f:(C.take n).getD i []=C.getD i []:=by
  simp only[List.getD];rw[wG,aM U]
 rw[e,f];exact c i U
def YU {b c d sv:Value}{vs:List iW}{kind:Int}(hO:kind=3->wW)(L:1<=kind)(N:kind<=3)(ht:bn w0 a b c d vs t)(I:aG t)(hs:RS W w0 sv z)(bL:ab t.vars z) :
  Calls ai 274 #[.agg #[a,b,c,d],sv,E kind] w0 fun e w'=>e=.returned (.tuple #[E (rh t z kind).2,bI (rh t z kind).1])/\Z w0 w' []:=by
 have P:=ht;obtain⟨ha,hb,hc,Q⟩:=ht;have _c:=Q.rs;have _d:=Q.len;have _e:=I.M;obtain⟨R,f⟩:=À (rh t z kind);rw[<-f];unfold rh at f;have Y:=Z.start w0;refine bA an Tryz.func274 ?_;refine eE ?_;intro p w Y;obtain⟨pt,rfl⟩:=À p;refine aL rfl (ĸ (P.at Y) I) ?_;rintro _ w' ⟨pr,a2,gv,cv,lv,us,rfl,al⟩;refine aI ?_;clear al Y;intro Y;have S:decide (kind<1)=false:=dU U;have j':decide (3<kind)=false:=dU U;refine O ?_
 try simp only[S,j'];refine tG ?_
 refine O ?_;refine aL rfl (Ķ (Y.ct 0 rfl:oV w' pr t a2 gv cv lv us) I (hs.at Y) bL) ?_;rintro _ w' u;rcases u with ⟨m,rfl,al⟩|⟨K,cs,H',rfl,J',al⟩
 ·replace Y:=Y.cy al
  clear al;refine⟨_,rfl,?_⟩;rw[aC m]at f;generalize j:bI 3=ev;refine O ?_;refine aL rfl (j ▸ L7 3 3) ?_;refine gZ ?_;clear Y;intro w' Y;rw[show decide ((3:Int)≠0/\(3:Int)=3)=true by decide];refine O ?_;rw[f];exact cR (v:=E 1125899906842624) (v':=.nilIface) rfl rfl rfl ⟨by rw[fK rfl],gm Y⟩
 refine aI ?_;clear al Y;intro Y;rw[aM H']at f;obtain⟨C,hC⟩:=À (fD t z (dh t z) []);rw[<-hC]at Y f;have P':bI 0=.nilIface:=fK rfl;refine O ?_;refine aL rfl (P' ▸ L7 0 3) ?_;refine gZ ?_;clear Y;intro w' Y;rw[show decide ((0:Int)≠0/\(0:Int)=3)=false by decide];have o:iI _ K cs C:=Y.ct 0 rfl;have R':=o.rs;refine O ?_;obtain⟨n,m⟩:=À ((if (24:Int)<cs.length then 24 else (cs.length:Int)).toNat);have T':n<=cs.length:=by rw[m];split<;>omega
 have x:C.take n=C.take 24:=by
  have g:=o.len;by_cases h:(24:Int)<cs.length
  ·rw[m,aM h];rfl
  rw[m,aC h,gH U,gH U]
 rw[<-m];obtain⟨q,y⟩:=À (C.take 24);rw[<-y]at f;obtain⟨g,l⟩:=À (ssub K ca.sz 0 n);obtain⟨i,A⟩:=À (cut cs 0 n);rw[<-l];replace Y:=Z.rd (Δ:=[aZ fun w=>iI w K cs C]) (φ:=fun w=>iI w g i q) (fun _ w h=>by rw[l,A,y,<-x];exact(h.ct 0 rfl:iI w K cs C).cut T') Y;clear o R' m;replace Y:=Y.nil (T:=W) (e:=3);replace Y:=Y.aY (Δ:=[X W 3 (nS) [],aZ fun w=>iI w g i q]);refine dQ [11,11,13,13,52,61] (G:=Nat) (H:=Value) (fun k r=>[(52,E k),(11,r)]) (fun k r w=>k<=t.M.length/\Z w0 w [X W 3 r ((ar t).take k),aZ fun w=>iI w g i q]) (fun k _=>t.M.length-k) 0 (nS) (fun _ _=>rfl) ⟨rfl,rfl,az⟩ ⟨bu _,Y⟩ ?_;clear Y;rintro σ k r w ⟨hk,Y⟩;have J':(ar t).length=t.M.length:=uA t;have _a:((ar t).take k).length=k:=by rw[jd];omega
 refine aB ?_ ?_<;>intro h2
 ·have B:k<t.M.length:=U
  have D:=Q.dJ k B;have _b:=D.one;have V':=D.aN;have F:(ar t).take (k+1)=(ar t).take k++[(au cd vs k).aN]:=by rw[eC W.dflt U,vZ B,V']
  repeat (first|refine du ?_|(refine gX ?_;clear Y;intro p w Y)|(refine qB ?_;clear Y;intro w Y)|(refine fA ?_;clear Y;intro s w Y))
  rw[<-F]at Y
  exact⟨k+1,_,⟨rfl,rfl,az⟩,aU,⟨U,by
   have h1:=Y.tail.tail
   exact h1⟩,U⟩
 have V':k=t.M.length:=U;rw[V',gH U]at Y;have B:=Cc I;refine O ?_;refine aL rfl (Ta hO L N (bk (s:=r) Y) U B (Y.ct 1 rfl:iI w g i q)) ?_;refine gZ ?_;clear Y;intro w' Y;obtain⟨V,hV⟩:=À (th kind (ar t) q);rw[<-hV]at f ⊢;generalize j:bI V.1=ev;refine O ?_;refine aL rfl (j ▸ L7 V.1 5) ?_;refine gZ ?_;clear Y;intro w' Y;by_cases F:V.1=5
 ·rw[aM F]at f
  rw[show decide (V.1≠0/\V.1=5)=true from dy ⟨U,F⟩];refine O ?_;refine aL rfl (Ta (kind:=1) (fun h=>absurd h dc) dc dc (bk (s:=r) Y) U B (Y.ct 1 rfl:iI _ g i q)) ?_;refine gZ ?_;clear Y;intro w' Y;rw[<-f];by_cases D:R.1=0
  ·rw[fK D]
   refine O ?_;exact cR (v:=E R.2) (v':=.nilIface) rfl rfl rfl ⟨rfl,gm Y⟩
  rw[cS D];refine O ?_;exact cR (v:=E R.2) (v':=.iface 57 (E R.1)) rfl rfl rfl ⟨rfl,gm Y⟩
 rw[aC F]at f;rw[show decide (V.1≠0/\V.1=5)=false from dU fun h=>F h.2];subst f;refine O ?_;exact cR (v:=E R.2) (v':=ev) rfl rfl rfl ⟨by rw[j],gm Y⟩
end
end Go.Proofs.YtmapkjoefdgjfaaGreatDoor
