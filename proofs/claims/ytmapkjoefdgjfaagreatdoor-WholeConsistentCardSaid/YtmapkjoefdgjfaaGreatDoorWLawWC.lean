/-
  The statement 'WholeConsistent' returns true.
-/
import Derived.Test.YtmapkjoefdgjfaaGreatDoorWEstC
import Derived.Test.YtmapkjoefdgjfaaGreatDoorWTame
import Derived.Test.YtmapkjoefdgjfaaGreatDoorWHAw
import Derived.Test.YtmapkjoefdgjfaaGreatDoorWLawEB
set_option linter.unusedSimpArgs false
set_option linter.unusedVariables false
set_option maxRecDepth 8000
set_option maxHeartbeats 16000000
open List Nat
namespace Go.Proofs.YtmapkjoefdgjfaaGreatDoor
open Go.Sl Go
theorem quH {P:Program}{ρ:Fr}{t ty:TypeId}{pos}{af}{g}{dst}{x y:Operand}{xv yv v:Value}(hx:aG ρ x=xv) (hy:aG ρ y=yv) (h:∀ w,(Instr.index t xv yv).run P w=.ok v w):PureV P ⟨dst,.index t x y,ty,pos,af,g⟩ ρ v:=fun w=>by
 simp only[execOp,hx,hy,Sem.run_bind,h,Result.andThen_ok,Sem.run_pure]
attribute [local irreducible] vc opsW opsD opV opW PureV ReadV Thn Blk
def ks5:List Nat:=[0,1,6,7,8]
theorem qwv (w:World):(Instr.index 35 (.agg #[.int .i64 0,.int .i64 1,.int .i64 6,.int .i64 7,.int .i64 8]) (.int .i64 0)).run Tryz.prog w=.ok (.int .i64 0) w:=kr
theorem qww (w:World):(Instr.index 35 (.agg #[.int .i64 0,.int .i64 1,.int .i64 6,.int .i64 7,.int .i64 8]) (.int .i64 1)).run Tryz.prog w=.ok (.int .i64 1) w:=kr
theorem qwx (w:World):(Instr.index 35 (.agg #[.int .i64 0,.int .i64 1,.int .i64 6,.int .i64 7,.int .i64 8]) (.int .i64 2)).run Tryz.prog w=.ok (.int .i64 6) w:=kr
theorem qwy (w:World):(Instr.index 35 (.agg #[.int .i64 0,.int .i64 1,.int .i64 6,.int .i64 7,.int .i64 8]) (.int .i64 3)).run Tryz.prog w=.ok (.int .i64 7) w:=kr
theorem qwz (w:World):(Instr.index 35 (.agg #[.int .i64 0,.int .i64 1,.int .i64 6,.int .i64 7,.int .i64 8]) (.int .i64 4)).run Tryz.prog w=.ok (.int .i64 8) w:=kr
theorem quI {k:Nat}(hk:k<5) (w:World):(Instr.index 35 (.agg #[.int .i64 0,.int .i64 1,.int .i64 6,.int .i64 7,.int .i64 8]) (.int .i64 (k:Int))).run Tryz.prog w=.ok (.int .i64 ((ks5.getD k 0:Nat):Int)) w:=by
 have:k=0\/k=1\/k=2\/k=3\/k=4:=by omega
 rcases this with rfl|rfl|rfl|rfl|rfl
 ·exact qwv w
 ·exact qww w
 ·exact qwx w
 ·exact qwy w
 ·exact qwz w
theorem qvQ {k:Nat}(hk:k<5):ks5.getD k 0∈[0,1,6,7,8]/\ks5.getD k 0<9:=by
 have:k=0\/k=1\/k=2\/k=3\/k=4:=by omega
 rcases this with rfl|rfl|rfl|rfl|rfl<;>decide
theorem qdJ {w0:World}{a b c d:Value}{vs:List AK}{t:Aa}(hT:Bv w0) (hB:Bp w0) (ht:Am w0 a b c d vs t) :
  Calls Tryz.prog 3 #[.agg #[a,b,c,d]] w0 fun e w'=>e=.returned (.bool true)/\Sat w0 w' []:=by
 have ru:=ht.vars.bo;have hob:=ht.ops.rs.bo;have l5:=ht.ops.len;have hw:=Sat.start w0;refine bn (args:=[.agg #[a,b,c,d]]) mixed Tryz.func3 ?_
 repeat (first|refine bV ?_|(refine dK ?_;clear hw;intro p w hw)|(refine fL ?_;clear hw;intro w hw)|(refine cB ?_;clear hw;intro s w hw))
 obtain⟨pt,dO⟩:∃ pt,pt=p:=⟨p,rfl⟩
 subst dO;refine aJ rfl (qr1 (ht.at hw)) ?_;rintro _ w' ⟨⟨r,rfl,hr⟩,aj⟩;replace hw:=hw.bz aj;clear aj;refine⟨_,rfl,?_⟩;have o8:=ht.vars;have mi:=ht.ops.rs;cases r
 ·repeat (first|refine bV ?_|(refine dK ?_;clear hw;intro p w hw)|(refine fL ?_;clear hw;intro w hw)|(refine cB ?_;clear hw;intro s w hw))
  refine aJ rfl qcB ?_;rintro _ w' ⟨rfl,aj⟩;replace hw:=hw.bz aj;clear aj;refine⟨_,rfl,?_⟩
  repeat (first|refine bV ?_|(refine dK ?_;clear hw;intro p w hw)|(refine fL ?_;clear hw;intro w hw)|(refine cB ?_;clear hw;intro s w hw))
  exact aW (v:=.bool true) rfl rfl ⟨rfl,lB hw⟩
 have hs:=hr rfl;have hg:=hs.cr;have hm5:=hs.many;have eW:=hg.vars;have iL:(aB t.vars).length=(bK t.vars).toNat:=uc hg.pos;have uj:=wq hg.pos;by_cases q1:(8:Int)<(vs.length:Int)
 ·have hd:decide ((8:Int)<(vs.length:Int))=true:=decide_eq_true q1
  repeat (first|refine bV ?_|(refine dK ?_;clear hw;intro p w hw)|(refine fL ?_;clear hw;intro w hw)|(refine cB ?_;clear hw;intro s w hw))
  try simp only[hd];refine cX ?_
  repeat (first|refine bV ?_|(refine dK ?_;clear hw;intro p w hw)|(refine fL ?_;clear hw;intro w hw)|(refine cB ?_;clear hw;intro s w hw))
  refine aJ rfl qcB ?_;rintro _ w' ⟨rfl,aj⟩;replace hw:=hw.bz aj;clear aj;refine⟨_,rfl,?_⟩
  repeat (first|refine bV ?_|(refine dK ?_;clear hw;intro p w hw)|(refine fL ?_;clear hw;intro w hw)|(refine cB ?_;clear hw;intro s w hw))
  exact aW (v:=.bool true) rfl rfl ⟨rfl,lB hw⟩
 have ee:decide ((8:Int)<(vs.length:Int))=false:=decide_eq_false q1;by_cases q2:(4:Int)<(t.vars.length:Int)
 ·have hd:decide ((4:Int)<(t.vars.length:Int))=true:=decide_eq_true q2
  repeat (first|refine bV ?_|(refine dK ?_;clear hw;intro p w hw)|(refine fL ?_;clear hw;intro w hw)|(refine cB ?_;clear hw;intro s w hw))
  try simp only[ee];refine cX ?_
  repeat (first|refine bV ?_|(refine dK ?_;clear hw;intro p w hw)|(refine fL ?_;clear hw;intro w hw)|(refine cB ?_;clear hw;intro s w hw))
  try simp only[hd];refine cX ?_
  repeat (first|refine bV ?_|(refine dK ?_;clear hw;intro p w hw)|(refine fL ?_;clear hw;intro w hw)|(refine cB ?_;clear hw;intro s w hw))
  refine aJ rfl qcB ?_;rintro _ w' ⟨rfl,aj⟩;replace hw:=hw.bz aj;clear aj;refine⟨_,rfl,?_⟩
  repeat (first|refine bV ?_|(refine dK ?_;clear hw;intro p w hw)|(refine fL ?_;clear hw;intro w hw)|(refine cB ?_;clear hw;intro s w hw))
  exact aW (v:=.bool true) rfl rfl ⟨rfl,lB hw⟩
 have jI:decide ((4:Int)<(t.vars.length:Int))=false:=decide_eq_false q2
 repeat (first|refine bV ?_|(refine dK ?_;clear hw;intro p w hw)|(refine fL ?_;clear hw;intro w hw)|(refine cB ?_;clear hw;intro s w hw))
 try simp only[ee];refine cX ?_
 repeat (first|refine bV ?_|(refine dK ?_;clear hw;intro p w hw)|(refine fL ?_;clear hw;intro w hw)|(refine cB ?_;clear hw;intro s w hw))
 try simp only[jI];refine cX ?_
 repeat (first|refine bV ?_|(refine dK ?_;clear hw;intro p w hw)|(refine fL ?_;clear hw;intro w hw)|(refine cB ?_;clear hw;intro s w hw))
 refine aJ rfl (qk0 (m:=81) (o8.at hw) hg.pos (by decide) (by decide)) ?_;rintro _ w' ⟨rfl,aj⟩;replace hw:=hw.bz aj;clear aj;refine⟨_,rfl,?_⟩;obtain⟨mm,x9⟩:∃ mm,mm=mD t.vars 81:=⟨_,rfl⟩
 rw[<-x9];by_cases q3:(81:Int)<mm
 ·have hd:decide ((81:Int)<mm)=true:=decide_eq_true q3
  repeat (first|refine bV ?_|(refine dK ?_;clear hw;intro p w hw)|(refine fL ?_;clear hw;intro w hw)|(refine cB ?_;clear hw;intro s w hw))
  try simp only[hd];refine cX ?_
  repeat (first|refine bV ?_|(refine dK ?_;clear hw;intro p w hw)|(refine fL ?_;clear hw;intro w hw)|(refine cB ?_;clear hw;intro s w hw))
  refine aJ rfl qcB ?_;rintro _ w' ⟨rfl,aj⟩;replace hw:=hw.bz aj;clear aj;refine⟨_,rfl,?_⟩
  repeat (first|refine bV ?_|(refine dK ?_;clear hw;intro p w hw)|(refine fL ?_;clear hw;intro w hw)|(refine cB ?_;clear hw;intro s w hw))
  exact aW (v:=.bool true) rfl rfl ⟨rfl,lB hw⟩
 have zY:decide ((81:Int)<mm)=false:=decide_eq_false q3
 repeat (first|refine bV ?_|(refine dK ?_;clear hw;intro p w hw)|(refine fL ?_;clear hw;intro w hw)|(refine cB ?_;clear hw;intro s w hw))
 try simp only[zY];refine cX ?_
 repeat (first|refine bV ?_|(refine dK ?_;clear hw;intro p w hw)|(refine fL ?_;clear hw;intro w hw)|(refine cB ?_;clear hw;intro s w hw))
 refine aJ rfl qcB ?_;rintro _ w' ⟨rfl,aj⟩;replace hw:=hw.bz aj;clear aj;refine⟨_,rfl,?_⟩;replace hw:Sat w0 w' [Ad pt 26 [a,b,c,d]]:=hw
 repeat (first|refine bV ?_|(refine dK ?_;clear hw;intro p w hw)|(refine fL ?_;clear hw;intro w hw)|(refine cB ?_;clear hw;intro s w hw))
 refine aJ rfl (qrA (ht.at hw) hs om (hT.at hw) (hB.at hw)) ?_;rintro _ w' ⟨lv,ps,Gs,rfl,hO,aj⟩;replace hw:=hw.call2 aj;clear aj;refine⟨_,rfl,?_⟩;have iP:=hO.pl;have kL:=hO.gl;have hpm:=qvD ps
 repeat (first|refine bV ?_|(refine dK ?_;clear hw;intro p w hw)|(refine fL ?_;clear hw;intro w hw)|(refine cB ?_;clear hw;intro s w hw))
 refine aJ rfl (qg2 (ht.vars.at hw) hg.pos om om) ?_;rintro _ w' ⟨av,ss,rfl,aj⟩;replace hw:=hw.call2 aj;clear aj;refine⟨_,rfl,?_⟩;have mj:=hw.bw;replace hw:Sat w0 w' [Ab aa 3 ss (aB t.vars),OS al 22 av ss,OS al 36 lv (ps.map Value.pointer),Aj (fun w=>Bx w ps t Gs),Ad pt 26 [a,b,c,d]]:=hw.aT
 repeat (first|refine bV ?_|(refine dK ?_;clear hw;intro p w hw)|(refine fL ?_;clear hw;intro w hw)|(refine cB ?_;clear hw;intro s w hw))
 refine qiQ (parts:=[(0,.const (.int .i64 0)),(1,.const (.int .i64 1)),(2,.const (.int .i64 6)),(3,.const (.int .i64 7)),(4,.const (.int .i64 8))]) (vs:=[(0,.int .i64 0),(1,.int .i64 1),(2,.int .i64 6),(3,.int .i64 7),(4,.int .i64 8)]) (v:=.agg #[.int .i64 0,.int .i64 1,.int .i64 6,.int .i64 7,.int .i64 8]) rfl (fun w=>kr) ?_
 repeat (first|refine bV ?_|(refine dK ?_;clear hw;intro p w hw)|(refine fL ?_;clear hw;intro w hw)|(refine cB ?_;clear hw;intro s w hw))
 refine cd [2,2,7,10,12,12,50,108] (G:=Nat) (fun k=>[(50,.int .i64 k)]) (fun k w=>k<=5/\Sat w0 w [Ab aa 3 ss (aB t.vars),OS al 22 av ss,OS al 36 lv (ps.map Value.pointer),Aj (fun w=>Bx w ps t Gs),Ad pt 26 [a,b,c,d]]) (fun k=>5-k) 0 (fun _=>rfl) ⟨rfl,trivial⟩ ⟨zero_le _,hw⟩ ?_;clear hw;rintro σ k w ⟨hk,hw⟩
 repeat (first|refine bV ?_|(refine dK ?_;clear hw;intro p w hw)|(refine nL ?_;clear hw;intro w hw)|(refine cB ?_;clear hw;intro s w hw))
 refine ai ?_ ?_<;>intro h1
 ·have aK:k<5:=by omega
  obtain⟨uk,oh⟩:=qvQ aK;have hix:=quI aK;obtain⟨m,hm⟩:∃ m,m=ks5.getD k 0:=⟨_,rfl⟩
  rw[<-hm]at uk oh hix;have hCo:=(hO.ok m uk).2;obtain⟨G,hG⟩:∃ G,G=Gs.getD m fun _=>0:=⟨_,rfl⟩
  rw[<-hG]at hCo;have hA:Dh t G:=by rw[hG];exact(hO.ok m uk).1
  have eT:m<ps.length:=by omega
  obtain⟨q,hq,_⟩:=(hw.dM 3 rfl) m uk;have hE:∀ {w:World}{Γ:List HP}{X Y Z:HP},Sat w0 w (X::Y::Z::Aj (fun w=>Bx w ps t Gs)::Γ)->Ay w q t G:=fun {w Γ X Y Z} h=>by
   obtain⟨q',h1,h2⟩:=(h.dM 3 rfl) m uk;rw[hq]at h1;obtain rfl:=Option.some.inj h1;rw[hG];exact h2
  repeat (first|refine bV ?_|(refine dK ?_;clear hw;intro p w hw)|(refine fL ?_;clear hw;intro w hw)|(refine cB ?_;clear hw;intro s w hw))
  refine eD rfl (quH rfl rfl hix) ?_
  repeat (first|refine bV ?_|(refine dK ?_;clear hw;intro p w hw)|(refine fL ?_;clear hw;intro w hw)|(refine cB ?_;clear hw;intro s w hw))
  obtain⟨vv,hvv⟩:∃ v,v=s:=⟨s,rfl⟩
  subst hvv;obtain⟨N,hN⟩:∃ N,N=(aB t.vars).length:=⟨_,rfl⟩
  have hNs:ss.length=N:=by omega
  refine dj [9,10,58,72] (G:=Nat) (H:=List Int) (fun i _=>[(58,.int .i64 i)]) (fun i V w=>i<=N/\V.length=N/\(∀ j,j<i->V.getD j aa.dflt=j4 t G ((aB t.vars).getD j []))/\Sat w0 w [Ab aa 3 ss (aB t.vars),OS al 22 av ss,OS al 36 lv (ps.map Value.pointer),Aj (fun w=>Bx w ps t Gs),Ad pt 26 [a,b,c,d],OS aa 3 vv V]) (fun i _=>N-i) 0 (replicate (ss.length:Int).toNat 0) (fun _ _=>rfl) ⟨rfl,trivial⟩ ⟨zero_le _,by rw[length_replicate];omega,fun j hj=>absurd hj (not_lt_zero _),hw.aT⟩ ?_;clear hw;rintro σ1 i V w ⟨hi,hVl,hV,hw⟩
  repeat (first|refine bV ?_|(refine dK ?_;clear hw;intro p w hw)|(refine nL ?_;clear hw;intro w hw)|(refine cB ?_;clear hw;intro s w hw))
  refine ai ?_ ?_<;>intro h2
  ·have cI:i<(aB t.vars).length:=by omega
   obtain⟨br,uU⟩:=qdq hg.pos cI;have jx:∀ {Γ:List HP}(w:World),Sat w0 w (Ab aa 3 ss (aB t.vars)::Γ)->RS aa w (cU ss i) ((aB t.vars).getD i []):=fun w h=>h.row cI
   repeat (first|refine bV ?_|(refine dK ?_;clear hw;intro p w hw)|(refine fL ?_;clear hw;intro w hw)|(refine cB ?_;clear hw;intro s w hw))
   rw[qtq ps eT,hq]
   repeat (first|refine bV ?_|(refine dK ?_;clear hw;intro p w hw)|(refine fL ?_;clear hw;intro w hw)|(refine cB ?_;clear hw;intro s w hw))
   refine aJ rfl (qd6 (hE hw) (jx _ hw)) ?_;rintro _ w' ⟨rfl,aj⟩;replace hw:=hw.bz aj;clear aj;refine⟨_,rfl,?_⟩;obtain⟨n,hn⟩:∃ n,n=j4 t G ((aB t.vars).getD i []):=⟨_,rfl⟩
   rw[<-hn]
   repeat (first|refine bV ?_|(refine dK ?_;clear hw;intro p w hw)|(refine fL ?_;clear hw;intro w hw)|(refine cB ?_;clear hw;intro s w hw))
   refine⟨i+1,V.set i n,⟨rfl,trivial⟩,aH,⟨by omega,by rw[length_set];exact hVl,fun j hj=>?_,hw.aT⟩,by omega⟩;rw[ia];by_cases e:i=j
   ·subst e;rw[if_pos ⟨rfl,by omega⟩,hn]
   ·rw[if_neg (fun h=>e h.1)];exact hV j om
  have hiN:i=N:=by omega
  subst hiN
  repeat (first|refine bV ?_|(refine dK ?_;clear hw;intro p w hw)|(refine fL ?_;clear hw;intro w hw)|(refine cB ?_;clear hw;intro s w hw))
  refine aJ rfl (qoH (ht.at hw) hg om) ?_;rintro _ w' ⟨ev,rfl,aj⟩;replace hw:=hw.jC aj;clear aj;refine⟨_,rfl,?_⟩;have la:=(aM (s:=ev) hw).bo;replace hw:Sat w0 w' [Ab aa 3 ss (aB t.vars),OS al 22 av ss,OS al 36 lv (ps.map Value.pointer),Aj (fun w=>Bx w ps t Gs),Ad pt 26 [a,b,c,d],OS aa 3 vv V,OS ax 41 ev (gF t)]:=hw.aT
  repeat (first|refine bV ?_|(refine dK ?_;clear hw;intro p w hw)|(refine fL ?_;clear hw;intro w hw)|(refine cB ?_;clear hw;intro s w hw))
  refine cd [2,2,12,12,76,107] (G:=Nat) (fun x=>[(76,.int .i64 x)]) (fun x w=>x<=(gF t).length/\Sat w0 w [Ab aa 3 ss (aB t.vars),OS al 22 av ss,OS al 36 lv (ps.map Value.pointer),Aj (fun w=>Bx w ps t Gs),Ad pt 26 [a,b,c,d],OS aa 3 vv V,OS ax 41 ev (gF t)]) (fun x=>(gF t).length-x) 0 (fun _=>rfl) ⟨rfl,trivial⟩ ⟨zero_le _,hw⟩ ?_;clear hw;rintro σ2 x w ⟨hx,hw⟩
  repeat (first|refine bV ?_|(refine dK ?_;clear hw;intro p w hw)|(refine nL ?_;clear hw;intro w hw)|(refine cB ?_;clear hw;intro s w hw))
  refine ai ?_ ?_<;>intro h3
  ·have ku:x<(gF t).length:=by omega
   obtain⟨i,op,hi,ho,kb,he⟩:=qnN.1 (bY ax.dflt ku);obtain⟨br,uU⟩:=qdq hg.pos hi;obtain⟨z,hz⟩:∃ z,z=(aB t.vars).getD i []:=⟨_,rfl⟩
   rw[<-hz]at br uU kb he;have oo:=qA hg br ho;obtain⟨wI,lg⟩:=qnL hg.pos oo;have hrb:=ya oo;obtain⟨r,hr⟩:∃ r:Nat,(r:Int)=cN t.vars (bm t z op):=⟨(cN t.vars (bm t z op)).toNat,by omega⟩
   rw[<-hr]at wI lg hrb he;rw[Int.toNat_natCast]at wI lg;have hVi:=hV i om;have hVr:=hV r om;rw[lg]at hVr;rw[<-hz]at hVi;have hc:=hCo z op br ho kb;have qyc:j4 t G z=G z:=by unfold j4;rw[if_pos br]
   have yb:j4 t G (bm t z op)=G (bm t z op):=by unfold j4;rw[if_pos oo]
   have bW:=ht.ops.at_ op ho;have gg:=bW.cost;have mE:=zZ hg ho;have yc:(az bJ vs op).cost=pJ t op:=gg;have qzM:0<=V.getD r aa.dflt:=by rw[hVr,yb];exact hA.nn _
   have jb:0<=(az bJ vs op).cost/\(az bJ vs op).cost<=1048576:=by rw[yc];exact mE
   have hle:V.getD i aa.dflt<=(az bJ vs op).cost+V.getD r aa.dflt:=by rw[hVi,hVr,qyc,yb,yc];exact hc
   have gz:i<V.length:=by omega
   have hrV:r<V.length:=by omega
   have hoV:op<vs.length:=by omega
   have jI:decide ((az bJ vs op).cost+V.getD r aa.dflt<V.getD i aa.dflt)=false:=decide_eq_false om
   repeat (first|refine bV ?_|(refine dK ?_;clear hw;intro p w hw)|(refine fL ?_;clear hw;intro w hw)|(refine cB ?_;clear hw;intro s w hw))
   replace hw:Sat w0 w [Ad p 41 [.int .i64 (i:Nat),.int .i64 (op:Nat),.int .i64 (r:Nat)],Ab aa 3 ss (aB t.vars),OS al 22 av ss,OS al 36 lv (ps.map Value.pointer),Aj (fun w=>Bx w ps t Gs),Ad pt 26 [a,b,c,d],OS aa 3 vv V,OS ax 41 ev (gF t)]:=by rw[he]at hw;exact hw
   refine nK ?_;clear hw;intro w hw
   repeat (first|refine bV ?_|(refine dK ?_;clear hw;intro p w hw)|(refine fL ?_;clear hw;intro w hw)|(refine cB ?_;clear hw;intro s w hw))
   by_cases hf:V.getD r aa.dflt<1125899906842624
   ·have ee:decide (V.getD r aa.dflt<1125899906842624)=true:=decide_eq_true hf
    try simp only[ee];refine cX ?_
    repeat (first|refine bV ?_|(refine dK ?_;clear hw;intro p w hw)|(refine fL ?_;clear hw;intro w hw)|(refine cB ?_;clear hw;intro s w hw))
    try simp only[jI];refine cX ?_
    repeat (first|refine bV ?_|(refine dK ?_;clear hw;intro p w hw)|(refine fL ?_;clear hw;intro w hw)|(refine cB ?_;clear hw;intro s w hw))
    exact⟨x+1,⟨rfl,trivial⟩,aH,⟨by omega,hw.aT⟩,by omega⟩
   ·have ee:decide (V.getD r aa.dflt<1125899906842624)=false:=decide_eq_false hf
    try simp only[ee];refine cX ?_
    repeat (first|refine bV ?_|(refine dK ?_;clear hw;intro p w hw)|(refine fL ?_;clear hw;intro w hw)|(refine cB ?_;clear hw;intro s w hw))
    exact⟨x+1,⟨rfl,trivial⟩,aH,⟨by omega,hw.aT⟩,by omega⟩
  repeat (first|refine bV ?_|(refine dK ?_;clear hw;intro p w hw)|(refine nL ?_;clear hw;intro w hw)|(refine cB ?_;clear hw;intro s w hw))
  exact⟨k+1,⟨rfl,trivial⟩,aH,⟨by omega,hw.aT⟩,by omega⟩
 repeat (first|refine bV ?_|(refine dK ?_;clear hw;intro p w hw)|(refine nL ?_;clear hw;intro w hw)|(refine cB ?_;clear hw;intro s w hw))
 exact aW (v:=.bool true) rfl rfl ⟨rfl,lB hw⟩
end Go.Proofs.YtmapkjoefdgjfaaGreatDoor
