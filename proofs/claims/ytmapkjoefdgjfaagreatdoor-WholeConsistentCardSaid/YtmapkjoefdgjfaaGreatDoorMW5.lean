/- Several texts. -/
import Derived.Test.YtmapkjoefdgjfaaGreatDoorMW4
set_option linter.unusedSimpArgs false
set_option linter.unusedVariables false
set_option maxRecDepth 8000
set_option maxHeartbeats 16000000
open List Nat
namespace Go.Proofs.YtmapkjoefdgjfaaGreatDoor
open Go.Sl Go
attribute [local irreducible] vc opsW opsD opV opW PureV ReadV Thn Blk
instance qzK:C7 Tryz.prog 291 2:=⟨3,kr,fun w=>kr⟩
theorem qo0 {w0:World}(a1 a2 b1 b2:Int) :
  Calls Tryz.prog 190 #[.agg #[.int .i64 a1,.int .i64 a2],.agg #[.int .i64 b1,.int .i64 b2]] w0 fun e w'=>e=.returned (.int .i64 (lV (a1,a2) (b1,b2)))/\∃ (q:Nat) (os:Array Obj),w'=Sort.grow (w0.drewN q) os:=by
 have hw:=Sat.start w0;have hd:=Dr.refl w0;refine bn (args:=[.agg #[.int .i64 a1,.int .i64 a2],.agg #[.int .i64 b1,.int .i64 b2]]) mixed Tryz.func190 ?_;refine rU ?_;refine qu ?_;refine qeR (vs:=[.int .i64 a1,.int .i64 a2]) rfl hw hd ?_;clear hw hd;intro p w hw hd;refine qeR (vs:=[.int .i64 b1,.int .i64 b2]) rfl hw hd ?_;clear hw hd;intro p2 w hw hd;refine ab ?_;refine qio (pl [0,1,2,3,5,6,7,8,4] (.chk 6::.chk 8::pl [9,10,11,12] [])) hw hd kr ?_;clear hw hd;intro w hw hd;refine xN ?_;refine eD (v:=.pointer (some (p.add 0))) rfl (zh (n:=2) (j:=0) rfl rfl om om) ?_;refine ab ?_;refine eD (v:=.pointer (some (p2.add 0))) rfl (zh (n:=2) (j:=0) rfl rfl om om) ?_;refine ab ?_;refine eD (v:=.pointer (some (p.add 1))) rfl (zh (n:=2) (j:=1) rfl rfl om om) ?_;refine ab ?_;refine eD (v:=.pointer (some (p2.add 1))) rfl (zh (n:=2) (j:=1) rfl rfl om om) ?_;refine ab ?_;refine aJ rfl wX ?_;rintro _ w' ⟨rfl,rfl⟩;refine⟨_,rfl,?_⟩;obtain⟨c1,lz⟩:∃ c,c=eC a1 b1:=⟨_,rfl⟩
 rw[<-lz];refine ab ?_;refine aJ rfl wX ?_;rintro _ w' ⟨rfl,rfl⟩;refine⟨_,rfl,?_⟩;obtain⟨c2,xj⟩:∃ c,c=eC a2 b2:=⟨_,rfl⟩
 rw[<-xj];refine ab ?_;refine qck (T:=aa) (len:=2) (parts:=[(0,.tmp 9),(1,.tmp 14)]) [c1,c2] [.int .i64 c1,.int .i64 c2] rfl rfl rfl rfl rfl (le_of_ble_eq_true rfl) (zero_lt_succ _) (le_of_ble_eq_true rfl) hw hd ?_;clear hw hd;intro s w hw hd;refine ab ?_;refine aJ rfl (qjn (Sat.rs hw 0 rfl)) ?_;rintro _ w' ⟨rfl,rfl⟩;refine⟨_,rfl,?_⟩;refine ab ?_;exact aW (v:=.int .i64 (sb [c1,c2])) rfl rfl ⟨by rw[lz,xj];rfl,sV hw hd⟩
theorem qpq {g:List Bool}{k:Nat}(hk:k<g.length):eP g (k+1)=eP g k++(if g.getD k ah.dflt then [(k:Int)] else []):=by
 unfold eP;rw[range_succ,filterMap_append];congr 1;by_cases h:g.getD k ah.dflt=true
 ·simp only[filterMap_cons,filterMap_nil,h,if_true]
 ·simp only[filterMap_cons,filterMap_nil,h,if_false,Bool.false_eq_true]
theorem qjL (g:List Bool):∀ k,(eP g k).length<=k
 | 0=>by simp[eP]
 | k+1=>by
  have:=qjL g k;unfold eP at *
  rw[range_succ,filterMap_append,length_append];have:(filterMap (fun i=>if g.getD i ah.dflt=true then some (i:Int) else none) [k]).length<=1:=by
   simp only[filterMap_cons,filterMap_nil];split<;>simp
  omega
theorem ql7 {w0:World}{cv ev gv:Value}{S:Ak}(hS:Aw w0 cv ev gv S) (hb:S.goals.length<=4096) :
  Calls Tryz.prog 120 #[bN S cv ev gv] w0 fun e w'=>∃ v,e=.returned v/\Sat w0 w' [OS aa 3 v (rq S.goals)]:=by
 have hg:=hS.goals;have kL:=hg.bo;have hw:=Sat.start w0;refine bn (args:=[bN S cv ev gv]) mixed Tryz.func120 ?_;unfold bN;refine db ?_;intro p w hw;refine cd [3,5,9,19] (G:=Nat × Value) (fun x=>[(3,x.2),(9,.int .i64 x.1)]) (fun x w=>x.1<=S.goals.length/\Sat w0 w [OS aa 3 x.2 (eP S.goals x.1)]) (fun x=>S.goals.length-x.1) (0,.slice none 0 0) (fun _=>rfl) ⟨rfl,rfl,trivial⟩ ⟨zero_le _,(lB hw).nil⟩ ?_;clear hw;rintro σ ⟨k,o⟩ w ⟨hk,hw⟩
 dsimp only at hk hw
 have hlk:=qjL S.goals k;refine ab ?_;refine ai ?_ ?_<;>intro h1
 ·have aK:k<S.goals.length:=by omega
  have wF:=qpq aK;refine ab ?_;by_cases hc:S.goals.getD k ah.dflt=true
  ·rw[hc]
   rw[if_pos hc]at wF
   repeat (first|refine bV ?_|(refine cB ?_;clear hw;intro s w hw))
   refine⟨(k+1,s),⟨rfl,rfl,trivial⟩,aH,⟨by omega,?_⟩,by omega⟩;rw[wF];exact hw.aT
  ·rw[Bool.eq_false_iff.2 hc]
   rw[if_neg hc,append_nil]at wF;refine ab ?_;exact⟨(k+1,o),⟨rfl,rfl,trivial⟩,aH,⟨by omega,by rw[wF];exact hw.aT⟩,by omega⟩
 have fT:k=S.goals.length:=by omega
 subst fT;refine ab ?_;exact aW rfl rfl ⟨o,rfl,by unfold rq;exact hw.aT⟩
theorem qpr {l:List Int}{k:Nat}(hk:k<l.length) (h0:0<k):fW (l.take (k+1))=max (fW (l.take k)) (l.getD k aa.dflt):=by
 cases l with
 | nil=>simp at hk
 | cons x r =>
  obtain⟨j,rfl⟩:∃ j,k=j+1:=⟨k-1,by omega⟩
  have hr:j<r.length:=by simpa using hk
  unfold fW;rw[take_succ_cons,take_succ_cons,dJ aa.dflt hr];show (r.take j++[r.getD j aa.dflt]).foldl max x=_;rw[foldl_append];rfl
theorem qh6 {w0:World}{v:Value}{l:List Int}(hl:RS aa w0 v l) (h0:0<l.length) :
  Calls Tryz.prog 168 #[v] w0 fun e w'=>e=.returned (.int .i64 (fW l))/\Sat w0 w' []:=by
 have jv:=hl.bo;have hw:=Sat.start w0;refine bn (args:=[v]) mixed Tryz.func168 ?_;refine ab ?_;refine ai ?_ ?_<;>intro h1
 ·omega
 refine ab ?_;refine cd [3,4,12,23] (G:=Nat) (fun k=>[(3,.int .i64 (fW (l.take k))),(4,.int .i64 k)]) (fun k w=>1<=k/\k<=l.length/\Sat w0 w []) (fun k=>l.length-k) 1 (fun _=>rfl) ⟨by rw[show l.take 1=[l.getD 0 aa.dflt] from by cases l with|nil=>simp at h0|cons x r=>rfl];rfl,rfl,trivial⟩ ⟨Nat.le_refl _,h0,hw⟩ ?_;clear hw;rintro σ k w ⟨jb,hk,hw⟩;refine ab ?_;refine ai ?_ ?_<;>intro h2
 ·have aK:k<l.length:=by omega
  refine ab ?_;exact⟨k+1,⟨by rw[qpr aK om];show Value.int .i64 _=Value.int .i64 _;congr 1;split<;>omega,rfl,trivial⟩,aH,⟨by omega,by omega,hw.aT⟩,by omega⟩
 rw[take_of_length_le om];refine ab ?_;exact aW rfl rfl ⟨rfl,hw.aT⟩
theorem qg3 {w0:World}{v:Value}{l:List Int}(hl:RS aa w0 v l) (h0:0<l.length) (hm:0<=fW l/\fW l<=65536) :
  Calls Tryz.prog 148 #[v] w0 fun e w'=>e=.returned (.int .i64 (fW l+1))/\Sat w0 w' []:=by
 obtain⟨pD,j6⟩:=hm;have hw:=Sat.start w0;refine bn (args:=[v]) mixed Tryz.func148 ?_;refine ab ?_;refine aJ rfl (qh6 hl h0) ?_;refine mf ?_;clear hw;intro w' hw;refine ab ?_;exact aW rfl rfl ⟨rfl,hw.aT⟩
theorem qrf {α:Type}{d:α}{A B:List α}(hl:A.length=B.length) (h:∀ i,i<A.length->A.getD i d=B.getD i d):A=B:=by
 apply ext_getElem hl;intro i h1 h2;have:=h i h1
 rwa[getD_at h1,getD_at h2]at this
instance qzp:Ce Tryz.prog 3 .i64:=⟨kr⟩
theorem qts {x y:Fact}(h1:x.var=y.var) (h2:x.val=y.val):x=y:=by cases x;cases y;simp_all
instance qzq:Bk Tryz.prog 63 2:=⟨kr⟩
theorem qvN {w0:World}{xa xb:Value}{A B:List Fact}(hA:RS aq w0 xa A) (hB:RS aq w0 xb B) :
  Calls Tryz.prog 61 #[xa,xb] w0 fun e w'=>(∃ r,e=.returned (.bool r)/\(r=true↔A=B))/\Sat w0 w' []:=by
 have hAb:=hA.bo;have hBb:=hB.bo;have hw:=Sat.start w0;refine bn (args:=[xa,xb]) mixed Tryz.func61 ?_;refine ab ?_;refine ai ?_ ?_<;>intro h1
 ·refine ab ?_
  exact aW (v:=.bool false) rfl rfl ⟨⟨false,rfl,dr fun e=>by rw[e]at h1;omega⟩,hw.aT⟩
 refine ab ?_;refine cd [4,5,13,25] (G:=Nat) (fun i=>[(13,.int .i64 i)]) (fun i w=>i<=A.length/\(∀ m,m<i->A.getD m aq.dflt=B.getD m aq.dflt)/\Sat w0 w []) (fun i=>A.length-i) 0 (fun _=>rfl) ⟨rfl,trivial⟩ ⟨zero_le _,fun i hi=>absurd hi (not_lt_zero _),hw.aT⟩ ?_;clear hw;rintro σ i w ⟨hi,iM,hw⟩;refine ab ?_;refine ai ?_ ?_<;>intro h2
 ·have cI:i<A.length:=by omega
  refine fi ?_;intro w hw;refine eD rfl (qoj (us:=[(A.getD i aq.dflt).var,(A.getD i aq.dflt).val]) (zs:=[(B.getD i aq.dflt).var,(B.getD i aq.dflt).val]) rfl rfl rfl rfl) ?_;by_cases h3:A.getD i aq.dflt=B.getD i aq.dflt
  ·have hd:decide ([(A.getD i aq.dflt).var,(A.getD i aq.dflt).val]=[(B.getD i aq.dflt).var,(B.getD i aq.dflt).val])=true:=decide_eq_true (by rw[h3])
   refine me ?_;simp only[hd,Bool.not_true];refine ab ?_;refine⟨i+1,⟨rfl,trivial⟩,aH,⟨by omega,fun m hm=>?_,hw.aT⟩,by omega⟩;by_cases e:m=i
   ·subst e;exact h3
   ·exact iM m om
  ·have hd:decide ([(A.getD i aq.dflt).var,(A.getD i aq.dflt).val]=[(B.getD i aq.dflt).var,(B.getD i aq.dflt).val])=false:=decide_eq_false fun e=>h3 (by
    injection e with e1 e2
    injection e2 with e2 _
    exact qts e1 e2)
   refine me ?_;simp only[hd,Bool.not_false];refine ab ?_;exact aW (v:=.bool false) rfl rfl ⟨⟨false,rfl,dr fun e=>h3 (by rw[e])⟩,hw.aT⟩
 have iJ:i=A.length:=by omega
 subst iJ;refine ab ?_;exact aW (v:=.bool true) rfl rfl ⟨⟨true,rfl,fU (qrf om iM)⟩,hw.aT⟩
theorem qhd {w0:World}{xa xb:Value}{A B:List Int}(hA:RS aa w0 xa A) (hB:RS aa w0 xb B) :
  Calls Tryz.prog 60 #[xa,xb] w0 fun e w'=>(∃ r,e=.returned (.bool r)/\(r=true↔A=B))/\Sat w0 w' []:=by
 have hAb:=hA.bo;have hBb:=hB.bo;have hw:=Sat.start w0;refine bn (args:=[xa,xb]) mixed Tryz.func60 ?_;refine ab ?_;refine ai ?_ ?_<;>intro h1
 ·refine ab ?_
  exact aW (v:=.bool false) rfl rfl ⟨⟨false,rfl,dr fun e=>by rw[e]at h1;omega⟩,hw.aT⟩
 refine ab ?_;refine cd [4,5,13,25] (G:=Nat) (fun i=>[(13,.int .i64 i)]) (fun i w=>i<=A.length/\(∀ m,m<i->A.getD m aa.dflt=B.getD m aa.dflt)/\Sat w0 w []) (fun i=>A.length-i) 0 (fun _=>rfl) ⟨rfl,trivial⟩ ⟨zero_le _,fun i hi=>absurd hi (not_lt_zero _),hw.aT⟩ ?_;clear hw;rintro σ i w ⟨hi,iM,hw⟩;refine ab ?_;refine ai ?_ ?_<;>intro h2
 ·have cI:i<A.length:=by omega
  refine fi ?_;intro w hw;refine ai ?_ ?_<;>intro h3
  ·refine ab ?_
   exact aW (v:=.bool false) rfl rfl ⟨⟨false,rfl,dr fun e=>by rw[e]at h3;exact h3 rfl⟩,hw.aT⟩
  ·refine ab ?_
   refine⟨i+1,⟨rfl,trivial⟩,aH,⟨by omega,fun m hm=>?_,hw.aT⟩,by omega⟩;by_cases e:m=i
   ·subst e;exact h3
   ·exact iM m om
 have iJ:i=A.length:=by omega
 subst iJ;refine ab ?_;exact aW (v:=.bool true) rfl rfl ⟨⟨true,rfl,fU (qrf om iM)⟩,hw.aT⟩
theorem qlX:(true == false)=false:=rfl
theorem qlY:(false == true)=false:=rfl
theorem tX (v:Value):gv false v=undef:=by unfold gv;rfl
theorem tY (v:Value):gv true v=v:=aQ rfl
theorem cX {G G':Prop}(h:G') (hs:Go.Sl.AU G'->G:=by intro da;(try simp only[beq_self_eq_true,qlX,qlY,Bool.false_and,Bool.true_and,Bool.false_or,Bool.true_or,Bool.not_true,Bool.not_false,Bool.cond_true,Bool.cond_false,tX,tY]);exact da.out):G:=hs ⟨h⟩
theorem sg1 {G G':Prop}(h:G') (hs:Go.Sl.AU G'->G:=by intro da;(try simp only[beq_self_eq_true,qlX,qlY,Bool.false_and,Bool.true_and,Bool.not_true,Bool.not_false,Bool.cond_true,Bool.cond_false,tX,tY]);exact da.out):G:=hs ⟨h⟩
theorem sg2 {G G':Prop}(h:G') (hs:Go.Sl.AU G'->G:=by intro da;(try simp only[beq_self_eq_true,qlX,qlY,Bool.false_and,Bool.true_and,Bool.and_true,Bool.and_false,Bool.false_or,Bool.true_or,Bool.or_false,Bool.not_true,Bool.not_false,Bool.cond_true,Bool.cond_false,tX,tY]);exact da.out):G:=hs ⟨h⟩
theorem r6 {S:Ak}(h:¬Ar S):fM S=false:=by unfold fM;simp only[h,decide_false]
theorem xX {S:Ak}(h:Ar S):fM S=true:=by unfold fM;simp only[h,decide_true]
def Da (S:Ak) (i:Nat):Prop:=(0<=(S.ak.getD i ax.dflt).src/\(S.ak.getD i ax.dflt).src<S.st)/\(0<=(S.ak.getD i ax.dflt).dst/\(S.ak.getD i ax.dflt).dst<S.st)/\(0<=(S.ak.getD i ax.dflt).bI/\(S.ak.getD i ax.dflt).bI<S.au.length)/\(0<i->df (S.ak.getD (i-1) ax.dflt) (S.ak.getD i ax.dflt)<0)
theorem Ar.edg {S:Ak}(h:Ar S) {i:Nat}(hi:i<S.ak.length):Da S i:=by
 obtain⟨_,_,_,_,_,_,_,_,h1,h2⟩:=h;obtain⟨a,b,c⟩:=h1 _ (bY ax.dflt hi);exact⟨a,b,c,fun h0=>h2 i h0 hi⟩
theorem qdi {w0:World}{cv ev gv:Value}{S:Ak}(hS:Aw w0 cv ev gv S) :
  Calls Tryz.prog 118 #[bN S cv ev gv] w0 fun e w'=>e=.returned (.bool (fM S))/\Sat w0 w' []:=by
 have vE:=hS.au;have nS:=hS.ak;have hgv:=hS.goals;have mY:=vE.bo;have uA:=nS.bo;have yI:=hgv.bo;have hw:=Sat.start w0;refine bn (args:=[bN S cv ev gv]) mixed Tryz.func118 ?_;unfold bN;refine db ?_;intro p w hw;refine ai ?_ ?_<;>intro h1
 ·have hn:¬Ar S:=fun⟨a,b,c,d,e,f,g,_⟩=>by omega
  refine ab ?_;exact aW (v:=.bool false) rfl rfl ⟨by rw[r6 hn],hw.aT⟩
 obtain⟨⟨⟨⟨⟨⟨a1,a2⟩,a3⟩,a4⟩,a5⟩,a6⟩,a7⟩:=h1;refine ab ?_;have hw:Sat w0 w [Ad p 142 [.int .i64 S.st,.int .i64 S.aY,cv,ev,gv]]:=hw;obtain⟨ps,uQ⟩:∃ q,q=p:=⟨p,rfl⟩
 subst uQ;refine cd [2,2,4,4,50,60] (G:=Nat) (fun k=>[(50,.int .i64 k),(2,.bool false)]) (fun k w=>k<=S.au.length/\(∀ i,i<k->0<=S.au.getD i aa.dflt/\S.au.getD i aa.dflt<=1048576)/\Sat w0 w [Ad ps 142 [.int .i64 S.st,.int .i64 S.aY,cv,ev,gv]]) (fun k=>S.au.length-k) 0 (fun _=>rfl) ⟨rfl,rfl,trivial⟩ ⟨zero_le _,fun i hi=>absurd hi (not_lt_zero _),hw⟩ ?_;clear hw;rintro σ k w ⟨hk,jM,hw⟩;refine ab ?_;refine ai ?_ ?_<;>intro h2
 ·refine ab ?_
  refine ai ?_ ?_<;>intro h3
  ·have hn:¬Ar S:=fun⟨_,_,_,_,_,_,_,h,_⟩=>by
    have:=h _ (bY aa.dflt (show k<S.au.length by omega));omega
   refine ab ?_;exact aW (v:=.bool false) rfl rfl ⟨by rw[r6 hn],hw.aT⟩
  obtain⟨b1,b2⟩:=h3;refine ab ?_;refine⟨k+1,⟨rfl,rfl,trivial⟩,aH,⟨by omega,fun i hi=>?_,hw⟩,by omega⟩;by_cases e:i=k
  ·subst e;exact⟨b1,b2⟩
  ·exact jM i om
 have qyq:∀ c∈S.au,0<=c/\c<=1048576:=fun c hc=>by
  obtain⟨i,hi,rfl⟩:=getElem_of_mem hc;have:=jM i om
  rwa[getD_at hi]at this
 clear jM;refine ab ?_;refine cd [2,2,5,6,64,119] (G:=Nat) (fun k=>[(64,.int .i64 k),(2,.bool false)]) (fun k w=>k<=S.ak.length/\(∀ i,i<k->Da S i)/\Sat w0 w [Ad ps 142 [.int .i64 S.st,.int .i64 S.aY,cv,ev,gv]]) (fun k=>S.ak.length-k) 0 (fun _=>rfl) ⟨rfl,rfl,trivial⟩ ⟨zero_le _,fun i hi=>absurd hi (not_lt_zero _),hw⟩ ?_;clear hw;rintro σ k w ⟨hk,eE,hw⟩;refine ab ?_;refine ai ?_ ?_<;>intro h4
 ·have aK:k<S.ak.length:=by omega
  obtain⟨a,ha⟩:∃ a,a=S.ak.getD k ax.dflt:=⟨_,rfl⟩
  have hEk:Da S k↔(0<=a.src/\a.src<S.st)/\(0<=a.dst/\a.dst<S.st)/\(0<=a.bI/\a.bI<S.au.length)/\(0<k->df (S.ak.getD (k-1) ax.dflt) a<0):=by rw[ha];exact Iff.rfl
  refine cK ?_;intro p w hw;have hw:Sat w0 w [Ad p 190 [.int .i64 a.src,.int .i64 a.bI,.int .i64 a.dst],Ad ps 142 [.int .i64 S.st,.int .i64 S.aY,cv,ev,gv]]:=by rw[ha];exact hw
  refine nK ?_;clear hw;intro w hw;refine ab ?_;by_cases gh:(decide (a.src<0) || decide (S.st<=a.src) || decide (a.dst<0) || decide (S.st<=a.dst) || decide (a.bI<0) || decide ((S.au.length:Int)<=a.bI))=true
  ·have hn:¬Ar S:=fun h=>by
    have:=(hEk.1 (h.edg aK))
    simp only[Bool.or_eq_true,decide_eq_true_eq]at gh;omega
   try simp only[gh];refine cX ?_
   refine ab ?_;exact aW (v:=.bool false) rfl rfl ⟨by rw[r6 hn],hw.aT⟩
  ·rw[Bool.not_eq_true]at gh
   try simp only[gh];refine cX ?_
   simp only[Bool.or_eq_false_iff,decide_eq_false_iff_not]at gh;refine ab ?_;by_cases jb:0<k
   ·have hd:decide ((0:Int)<(k:Int))=true:=decide_eq_true om
    try simp only[hd];refine cX ?_
    refine ab ?_;refine aJ rfl (qkV (S.ak.getD ((k:Int)-1).toNat ax.dflt) a) ?_;rintro _ w' ⟨rfl,q,os,rfl⟩;refine⟨_,rfl,?_⟩;replace hw:=(hw.ahead q).grow os;have e1:((k:Int)-1).toNat=k-1:=by omega
    rw[e1];obtain⟨c,hc⟩:∃ c,c=df (S.ak.getD (k-1) ax.dflt) a:=⟨_,rfl⟩
    rw[<-hc]at hEk ⊢;clear hc;refine ab ?_;refine ai ?_ ?_<;>intro h5
    ·have hn:¬Ar S:=fun h=>by
      have:=(hEk.1 (h.edg aK)).2.2.2 jb;omega
     refine ab ?_;exact aW (v:=.bool false) rfl rfl ⟨by rw[r6 hn],hw.aT⟩
    ·refine ab ?_
     refine⟨k+1,⟨rfl,rfl,trivial⟩,aH,⟨by omega,fun i hi=>?_,hw.aT⟩,by omega⟩;by_cases e:i=k
     ·subst e;exact hEk.2 ⟨by omega,by omega,by omega,fun _=>by omega⟩
     ·exact eE i om
   ·have hd:decide ((0:Int)<(k:Int))=false:=decide_eq_false om
    try simp only[hd];refine cX ?_
    refine ab ?_;refine⟨k+1,⟨rfl,rfl,trivial⟩,aH,⟨by omega,fun i hi=>?_,hw.aT⟩,by omega⟩;by_cases e:i=k
    ·subst e;exact hEk.2 ⟨by omega,by omega,by omega,fun h=>absurd h jb⟩
    ·exact eE i om
 refine ab ?_;refine aW (v:=.bool true) rfl rfl ⟨?_,hw.aT⟩;rw[xX ⟨a1,a2,a3,a4,a5,by omega,by omega,qyq,fun e he=>?_,fun i h0 hi=>(eE i om).2.2.2 h0⟩];obtain⟨i,hi,rfl⟩:=getElem_of_mem he;have:=eE i om;unfold Da at this;rw[getD_at hi]at this;exact⟨this.1,this.2.1,this.2.2.1⟩
instance qy2:CI Tryz.prog 288 9 3:=⟨kr⟩
instance qy3:B1 Tryz.prog 3 (.int .i64 0):=⟨kr⟩
def iC:Ty ByteArray:=⟨1,fun b=>[.string b],fun _=>rfl,⟨#[]⟩⟩
def oW:List ByteArray->Nat->List (ByteArray × Value)
 | [],_=>[]
 | s::u,i=>(s,.int .i64 i)::oW u (i+1)
def qa (u:List ByteArray) (s:ByteArray):Nat:=u.findIdx fun x=>decide (x=s)
theorem qqo (s:ByteArray):∀ (u:List ByteArray) (i:Nat),oW (u++[s]) i=oW u i++[(s,.int .i64 (i+u.length:Nat))]
 | [],i=>rfl
 | x::u,i=>by
  simp only[cons_append,oW,qqo s u (i+1),length_cons];rw[show i+1+u.length=i+(u.length+1) from by omega]
theorem qlE:∀ (u:List ByteArray) (i:Nat),(oW u i).length=u.length
 | [],_=>rfl
 | _::u,i=>by simp only[oW,length_cons,qlE u]
theorem qiX {s:ByteArray}:∀ {u:List ByteArray}{i j:Nat},s∉u->fC s (oW u i) j=none
 | [],_,_,_=>rfl
 | x::u,i,j,h=>by
  simp only[oW,fC];rw[if_neg (fun e=>h (by rw[e];simp)),qiX (fun h2=>h (mem_cons_of_mem _ h2))]
theorem qna {s:ByteArray}:∀ {u:List ByteArray}{i j:Nat},s∈u->(fC s (oW u i) j).map (·.2)=some (.int .i64 (i+qa u s:Nat))
 | [],_,_,h=>by simp at h
 | x::u,i,j,h=>by
  simp only[oW,fC,qa,findIdx_cons];by_cases e:s=x
  ·rw[if_pos e,decide_eq_true e.symm];rfl
  ·rw[if_neg e,decide_eq_false (Ne.symm e)]
   rcases mem_cons.1 h with h|h
   ·exact absurd h e
   ·rw[qna (i:=i+1) h]
    simp only[cond_false,qa];rw[show i+1+u.findIdx (fun x=>decide (x=s))=i+(u.findIdx (fun x=>decide (x=s))+1) from by omega]
def zl (u:List ByteArray) (s:ByteArray):List ByteArray:=if u.any (fun x=>decide (x=s)) then u else u++[s]
theorem qsZ {l:List ByteArray}{k:Nat}(hk:k<l.length):bF (l.take (k+1))=zl (bF (l.take k)) (l.getD k iC.dflt):=by
 unfold bF;rw[dJ iC.dflt hk,foldl_append];rfl
theorem qnb:∀ (l u:List ByteArray),∃ r,l.foldl (fun u s=>if u.any (fun x=>decide (x=s)) then u else u++[s]) u=u++r
 | [],u=>⟨[],by simp⟩
 | s::l,u=>by
  rw[foldl_cons];obtain⟨r,hr⟩:=qnb l (if u.any (fun x=>decide (x=s)) then u else u++[s]);rw[hr];split
  ·exact⟨r,rfl⟩
  ·exact⟨s::r,by simp⟩
theorem qqp (l:List ByteArray) (k:Nat):∃ r,bF l=bF (l.take k)++r:=by
 have h:=qnb (l.drop k) (bF (l.take k));obtain⟨r,hr⟩:=h;refine⟨r,?_⟩;rw[<-hr];unfold bF;rw[<-foldl_append,take_append_drop]
theorem qqq {u r:List ByteArray}{s:ByteArray}(h:s∈u):qa (u++r) s=qa u s:=by
 unfold qa;rw[findIdx_append,if_pos];exact findIdx_lt_length_of_exists ⟨s,h,decide_eq_true rfl⟩
theorem qvn {u r:List ByteArray}{s:ByteArray}(h:s∉u):qa (u++[s]++r) s=u.length:=by
 rw[qqq (by simp)];unfold qa;rw[findIdx_append,if_neg]
 ·simp
 ·intro bD
  have:=findIdx_getElem (w:=bD);have h2:=of_decide_eq_true this;exact h (by rw[<-h2];exact getElem_mem _)
theorem qvo (l:List ByteArray):∀ u:List ByteArray,(l.foldl (fun u s=>if u.any (fun x=>decide (x=s)) then u else u++[s]) u).length<=u.length+l.length:=by
 induction l with
 | nil=>intro u;simp
 | cons s l ih =>
  intro u;rw[foldl_cons];refine Nat.le_trans (ih _) ?_;split
  ·simp only[length_cons];omega
  ·simp only[length_append,length_cons,length_nil];omega
theorem qv8 (l:List ByteArray):(bF l).length<=l.length:=by have:=qvo l [];simpa [bF] using this
theorem qk2 {w0:World}{v:Value}{L:List ByteArray}(hl:RS iC w0 v L) (hn:L.length<=65536) :
  Calls Tryz.prog 172 #[v] w0 fun e w'=>∃ cv,e=.returned (.tuple #[cv,.int .i64 ((bF L).length:Nat)])/\Sat w0 w' [OS aa 3 cv (cm L)]:=by
 have hw:=Sat.start w0;refine bn (args:=[v]) mixed Tryz.func172 ?_;refine ab ?_;refine qoD lX hw ?_;clear hw;intro m w hw;refine ab ?_;have qy4:cm L=L.map fun s=>(qa (bF L) s:Int):=rfl;have hw:Sat w0 w [OS aa 3 (.slice none 0 0) [],Cg lX m (oW (bF (L.take 0)) 0)]:=by rw[take_zero,show oW (bF []) 0=[] from rfl];exact(hw.nil (T:=aa) (e:=3)).aT
 refine dj [5,5,7,9,13,34] (G:=Nat) (H:=Value) (fun k ov=>[(13,.int .i64 k),(5,ov)]) (fun k ov w=>k<=L.length/\Sat w0 w [OS aa 3 ov ((L.take k).map fun s=>(qa (bF L) s:Int)),Cg lX m (oW (bF (L.take k)) 0)]) (fun k _=>L.length-k) 0 (.slice none 0 0) (fun _ _=>rfl) ⟨rfl,rfl,trivial⟩ ⟨zero_le _,hw⟩ ?_;clear hw;rintro σ k ov w ⟨hk,hw⟩;refine ab ?_;refine ai ?_ ?_<;>intro h1
 ·have aK:k<L.length:=by omega
  have r5:=qsZ aK;have hU:=qv8 (L.take k);rw[length_take]at hU;obtain⟨u,hu⟩:∃ u,u=bF (L.take k):=⟨_,rfl⟩
  obtain⟨sx,hs⟩:∃ q,q=L.getD k iC.dflt:=⟨_,rfl⟩
  rw[<-hu,<-hs]at r5;rw[<-hu]at hw hU;have qG:((L.take k).map fun s=>(qa (bF L) s:Int)).length=k:=by rw[length_map,length_take];omega
  refine ab ?_;rw[<-hs];refine sq rfl (ql0 (m:=m) (κ:=lX) (q:=sx) rfl rfl hw inferInstance) ?_;by_cases hm:sx∈u
  ·have hg:qd (oW u 0) sx=some (.int .i64 (qa u sx:Nat)):=by
    have:=qna (i:=0) (j:=0) hm;rw[Nat.zero_add]at this;exact this
   rw[hg]
   repeat (first|refine bV ?_|(refine cB ?_;clear hw;intro s w hw))
   have tP:bF (L.take (k+1))=u:=by rw[r5];unfold zl;rw[if_pos (qjc.2 hm)]
   obtain⟨r,hr⟩:=qqp L (k+1);have hfi:qa (bF L) sx=qa u sx:=by rw[hr,tP,qqq hm]
   refine⟨k+1,s,⟨rfl,rfl,trivial⟩,aH,⟨by omega,?_⟩,by omega⟩;rw[tP,dJ iC.dflt aK,map_append,<-hs];simp only[map_cons,map_nil,hfi];exact hw.aT
  ·have hg:qd (oW u 0) sx=none:=by unfold qd;rw[qiX hm];rfl
   rw[hg];have tP:bF (L.take (k+1))=u++[sx]:=by rw[r5];unfold zl;rw[if_neg (fun h=>hm (qjc.1 h))]
   obtain⟨r,hr⟩:=qqp L (k+1);have hfi:qa (bF L) sx=u.length:=by rw[hr,tP,qvn hm]
   have uV:=qlE u 0;refine ab ?_;refine sq rfl (qrs (m:=m) (κ:=lX) rfl hw inferInstance) ?_;rw[uV];refine ab ?_;refine qkR (m:=m) (κ:=lX) (q:=sx) (v:=.int .i64 (u.length:Nat)) rfl rfl rfl hw inferInstance ?_;clear hw;intro w hw;have hmp:qf (oW u 0) sx (.int .i64 (u.length:Nat))=oW (u++[sx]) 0:=by
    unfold qf;rw[qiX hm,qqo,Nat.zero_add]
   rw[hmp]at hw
   repeat (first|refine bV ?_|(refine cB ?_;clear hw;intro s w hw))
   refine⟨k+1,s,⟨rfl,rfl,trivial⟩,aH,⟨by omega,?_⟩,by omega⟩;rw[tP,dJ iC.dflt aK,map_append,<-hs];simp only[map_cons,map_nil,hfi];exact hw.aT
 rw[take_of_length_le om,<-qy4]at hw;have uV:=qlE (bF L) 0;refine ab ?_;refine sq rfl (qrs (m:=m) (κ:=lX) rfl hw inferInstance) ?_;rw[uV];refine ab ?_;exact dz (v:=ov) (v':=.int .i64 ((bF L).length:Nat)) rfl rfl rfl ⟨ov,rfl,hw.aT⟩
theorem qrL {w0:World}(b:Bool):Calls Tryz.prog 188 #[.bool b] w0 fun e w'=>e=.returned (.string (il b))/\Sat w0 w' []:=by
 have hw:=Sat.start w0;refine bn (args:=[.bool b]) mixed Tryz.func188 ?_
 cases b with
 | true =>
  refine ab ?_
  exact aW (v:=.string (il true)) rfl rfl ⟨rfl,hw⟩
 | false =>
  refine ab ?_;exact aW (v:=.string (il false)) rfl rfl ⟨rfl,hw⟩
instance qy5:Ae Tryz.prog 188:=⟨kr⟩
theorem qrM {w0:World}(b:Bool):Calls Tryz.prog 171 #[.bool b] w0 fun e w'=>e=.returned (.string (il b))/\Sat w0 w' []:=by
 have hw:=Sat.start w0;refine bn (args:=[.bool b]) mixed Tryz.func171 ?_;refine ab ?_;refine aJ rfl (qrL b) ?_;refine mf ?_;clear hw;intro w' hw;refine ab ?_;exact aW (v:=.string (il b)) rfl rfl ⟨rfl,hw⟩
end Go.Proofs.YtmapkjoefdgjfaaGreatDoor
