/-
  The statement 'AstarHeuristics' returns true.
-/
import Derived.Test.YtkmbenhffledpaaGreatMW17
import Derived.Test.YtkmbenhffledpaaGreatMW18
import Derived.Test.YtkmbenhffledpaaGreatMW21
import Derived.Test.YtkmbenhffledpaaGreatMW16
import Derived.Test.YtkmbenhffledpaaGreatWSatE
import Derived.Test.YtkmbenhffledpaaGreatMSlB
set_option linter.unusedSimpArgs false
set_option linter.unusedVariables false
namespace Go.Proofs.YtkmbenhffledpaaGreat
open Go.Sl Go
attribute [local irreducible] vc opsW opsD opV opW PureV ReadV Thn Blk
set_option maxRecDepth 8000 in
set_option maxHeartbeats 8000000 in
theorem qdF {w0:World}{a b c d:Value}{vs:List OpV}{t:TTask}{kind:Int}(ht:RTask w0 a b c d vs t) (hkd:0≤kind∧kind≤255) :
  Calls Tryz.prog 5 #[.agg #[a,b,c,d],.int .u8 kind] w0 fun e w'=>e=.returned (.bool true)∧Sat w0 w' []:=by
 have hw:=Sat.start w0
 refine qab (args:=[.agg #[a,b,c,d],.int .u8 kind]) mixed Tryz.func5 rfl (by kernel_rfl) (Nat.le_of_ble_eq_true rfl) ?_
 repeat (first|refine qaa ?_|(refine qaf ?_;clear hw;intro p w hw))
 obtain⟨pt,hpt⟩:∃ pt,pt=p:=⟨p,rfl⟩
 subst hpt
 refine qac rfl (qnp (ht.at hw)) ?_
 rintro _ w' ⟨⟨r,rfl,hr⟩,hk'⟩
 replace hw:=hw.call0 hk'
 clear hk'
 refine⟨_,rfl,?_⟩
 cases r
 ·repeat refine qaa ?_
  refine qac rfl qgR ?_
  rintro _ w' ⟨rfl,hk'⟩
  replace hw:=hw.call0 hk'
  clear hk'
  refine⟨_,rfl,?_⟩
  repeat refine qaa ?_
  exact qae (v:=.bool true) rfl rfl ⟨rfl,qaG hw⟩
 obtain⟨hs,hmy⟩:=hr.1 rfl
 have hg:=hs.good
 have hB:=hs.many
 have hvl:=hg.vars
 have hsl:(statesL t.vars).length=(prodL t.vars).toNat:=qaK hg.pos
 have hpp:=qbW hg.pos
 obtain⟨bb,hL0⟩:=qmF hg (by omega)
 repeat refine qaa ?_
 refine qac rfl qgR ?_
 rintro _ w' ⟨rfl,hk'⟩
 replace hw:=hw.call0 hk'
 clear hk'
 refine⟨_,rfl,?_⟩
 replace hw:Sat w0 w' [Box pt 26 [a,b,c,d]]:=hw
 repeat refine qaa ?_
 refine qau rfl (qom rfl rfl (by decide)) ?_
 have h5:=tmod5 hkd.1
 obtain⟨md,hmd⟩:∃ md,md=kind.tmod 5:=⟨_,rfl⟩
 rw [←hmd] at h5 ⊢
 rcases h5 with h5|h5|h5|h5|h5
 ·subst h5
  repeat refine qaa ?_
  obtain⟨H,hHe⟩:∃ H,H=blindH t:=⟨_,rfl⟩
  obtain⟨ev,hev⟩:∃ ev,ev=Value.pointer none:=⟨_,rfl⟩
  have hH:HOk t H:=by rw [hHe];exact qfv hg
  have hadm:∀ y q d,Pln t y q d→H y<inf∧H y≤d:=fun y q d hp=>by rw [hHe];exact qgb hg hp
  have hAll:(srchA ⟨t,H,none⟩ 100000).1≠.unknown:=(qfo (A:=⟨t,H,none⟩) (lim:=100000) (M:=17179869184) hH (by rw [hHe];exact qeN hg) hadm rfl (fun y h=>by rw [hHe] at h ⊢;exact Int.le_trans (qik hg y h) (by decide)) (by decide) (by show (statesL t.vars).length<100000;omega) hL0).1
  repeat refine qaa ?_
  have heG:EstA w' ev t H:=.inl ⟨hev,hHe⟩
  rw [←hev]
  refine qac rfl (qbr (ev:=ev) (L:=100000) (lim:=100000) (ht.at hw) hH heG rfl (by decide) (.inl hB)) ?_
  rintro _ w' ⟨pv,pl,rfl,hP,hk'⟩
  replace hw:=hw.call1 hk'
  clear hk'
  refine⟨_,rfl,?_⟩
  have opv:=(rsO (s:=pv) hw).one
  have hBst:=qcY (A:=⟨t,H,none⟩) hH hadm hL0 hP
  generalize srchA ⟨t,H,none⟩ 100000=R at hP hBst hAll ⊢
  obtain⟨hpl,hxl,hcase⟩:=hBst
  have hpl1:pl.length≤(statesL t.vars).length:=hpl
  have hpl2:pl.length≤1048576:=by omega
  repeat (first|refine qaa ?_|(refine qaf ?_;clear hw;intro p w hw))
  obtain⟨p7,hp7⟩:∃ p7,p7=p:=⟨p,rfl⟩
  subst hp7
  refine qat (n:=4) (p:=p7) (vs:=[.int .i64 (vdA R.1),pv,.int .i64 (coL t pl),.int .i64 R.2.ex.length]) rfl rfl hw inferInstance rfl rfl (by simp only [List.all_cons,List.all_nil,opv];rfl) ?_
  clear hw
  intro w hw
  replace hcase:=(or_assoc.2 hcase).resolve_right (fun h=>hAll h.1)
  rcases hcase with ⟨i,r1,r2,r3,r4,_⟩|⟨r1,rfl,r2⟩
  ·rw [show vdA R.1=1 by rw [r1];rfl] at hw
   repeat refine qaa ?_
   refine qas [.op 0,.op 1,.op 2,.op 3,.op 4,.op 5,.op 6,.chk 3,.chk 4,.op 7,.op 8,.op 9] hw (by kernel_rfl) ?_;clear hw;intro w hw
   repeat refine qaa ?_
   refine qac rfl (qbj (ht.at hw) hg hB) ?_
   rintro _ w' ⟨m,rfl,hm,hk'⟩
   replace hw:=hw.call0 hk'
   clear hk'
   refine⟨_,rfl,?_⟩
   have hme:=qa4 hm hL0
   repeat refine qaa ?_
   refine qac rfl (qaU (pv:=pv) (p:=pl) (vd:=1) (co:=coL t pl) (ex:=R.2.ex.length) (best:=m) (ht.at hw) hg (rsO (s:=pv) hw) hpl2 (.inr ⟨by omega,rfl,by rw [hme];exact r2,by rw [hme];exact r3⟩)) ?_
   rintro _ w' ⟨rfl,hk'⟩
   replace hw:=hw.call0 hk'
   clear hk'
   refine⟨_,rfl,?_⟩
   repeat refine qaa ?_
   exact qae (v:=.bool true) rfl rfl ⟨rfl,qaG hw⟩
  ·rw [show vdA R.1=2 by rw [r1];rfl] at hw
   have r3:bb=inf:=by
    rcases r2 with r2|⟨bd,h1,_⟩
    ·exact r2
    ·cases h1
   rw [qeT] at hw
   repeat refine qaa ?_
   refine qas [.op 0,.op 1,.op 2,.op 3,.op 4,.op 5,.op 6,.chk 3,.chk 4,.op 7,.op 8,.op 9] hw (by kernel_rfl) ?_;clear hw;intro w hw
   repeat refine qaa ?_
   refine qac rfl (qbj (ht.at hw) hg hB) ?_
   rintro _ w' ⟨m,rfl,hm,hk'⟩
   replace hw:=hw.call0 hk'
   clear hk'
   refine⟨_,rfl,?_⟩
   have hme:=qa4 hm hL0
   repeat refine qaa ?_
   refine qac rfl (qaU (pv:=pv) (p:=[]) (vd:=2) (co:=0) (ex:=R.2.ex.length) (best:=m) (ht.at hw) hg (rsO (s:=pv) hw) (by decide) (.inl ⟨by omega,rfl,rfl,rfl⟩)) ?_
   rintro _ w' ⟨rfl,hk'⟩
   replace hw:=hw.call0 hk'
   clear hk'
   refine⟨_,rfl,?_⟩
   repeat refine qaa ?_
   exact qae (v:=.bool true) rfl rfl ⟨rfl,qaG hw⟩
 ·subst h5
  repeat refine qaa ?_
  refine qac rfl (qkn (ht.at hw) hg) ?_
  rintro _ w' ⟨pe,rfl,hk'⟩
  replace hw:=hw.call1 hk'
  clear hk'
  refine⟨_,rfl,?_⟩
  obtain⟨H,hHe⟩:∃ H,H=hmaxH t:=⟨_,rfl⟩
  obtain⟨ev,hev⟩:∃ ev,ev=Value.pointer (some pe):=⟨_,rfl⟩
  rw [←hHe] at hw
  have hH:HOk t H:=by rw [hHe];exact qiD hg
  have hadm:∀ y q d,Pln t y q d→H y<inf∧H y≤d:=fun y q d hp=>by rw [hHe];exact qoH hg hp
  have hAll:(srchA ⟨t,H,none⟩ 100000).1≠.unknown:=(qfo (A:=⟨t,H,none⟩) (lim:=100000) (M:=17179869184) hH (by rw [hHe];exact qm8 hg) hadm rfl (fun y h=>by rw [hHe] at h ⊢;exact Int.le_trans (qeV hg y h) (by decide)) (by decide) (by show (statesL t.vars).length<100000;omega) hL0).1
  repeat refine qaa ?_
  have heG:EstA w' ev t H:=.inr ⟨pe,hev,hw.rdE 0 rfl⟩
  rw [←hev]
  refine qac rfl (qbr (ev:=ev) (L:=100000) (lim:=100000) (ht.at hw) hH heG rfl (by decide) (.inl hB)) ?_
  rintro _ w' ⟨pv,pl,rfl,hP,hk'⟩
  replace hw:=hw.call1 hk'
  clear hk'
  refine⟨_,rfl,?_⟩
  have opv:=(rsO (s:=pv) hw).one
  have hBst:=qcY (A:=⟨t,H,none⟩) hH hadm hL0 hP
  generalize srchA ⟨t,H,none⟩ 100000=R at hP hBst hAll ⊢
  obtain⟨hpl,hxl,hcase⟩:=hBst
  have hpl1:pl.length≤(statesL t.vars).length:=hpl
  have hpl2:pl.length≤1048576:=by omega
  repeat (first|refine qaa ?_|(refine qaf ?_;clear hw;intro p w hw))
  obtain⟨p7,hp7⟩:∃ p7,p7=p:=⟨p,rfl⟩
  subst hp7
  refine qat (n:=4) (p:=p7) (vs:=[.int .i64 (vdA R.1),pv,.int .i64 (coL t pl),.int .i64 R.2.ex.length]) rfl rfl hw inferInstance rfl rfl (by simp only [List.all_cons,List.all_nil,opv];rfl) ?_
  clear hw
  intro w hw
  replace hcase:=(or_assoc.2 hcase).resolve_right (fun h=>hAll h.1)
  rcases hcase with ⟨i,r1,r2,r3,r4,_⟩|⟨r1,rfl,r2⟩
  ·rw [show vdA R.1=1 by rw [r1];rfl] at hw
   repeat refine qaa ?_
   refine qas [.op 0,.op 1,.op 2,.op 3,.op 4,.op 5,.op 6,.chk 3,.chk 4,.op 7,.op 8,.op 9] hw (by kernel_rfl) ?_;clear hw;intro w hw
   repeat refine qaa ?_
   refine qac rfl (qbj (ht.at hw) hg hB) ?_
   rintro _ w' ⟨m,rfl,hm,hk'⟩
   replace hw:=hw.call0 hk'
   clear hk'
   refine⟨_,rfl,?_⟩
   have hme:=qa4 hm hL0
   repeat refine qaa ?_
   refine qac rfl (qaU (pv:=pv) (p:=pl) (vd:=1) (co:=coL t pl) (ex:=R.2.ex.length) (best:=m) (ht.at hw) hg (rsO (s:=pv) hw) hpl2 (.inr ⟨by omega,rfl,by rw [hme];exact r2,by rw [hme];exact r3⟩)) ?_
   rintro _ w' ⟨rfl,hk'⟩
   replace hw:=hw.call0 hk'
   clear hk'
   refine⟨_,rfl,?_⟩
   repeat refine qaa ?_
   exact qae (v:=.bool true) rfl rfl ⟨rfl,qaG hw⟩
  ·rw [show vdA R.1=2 by rw [r1];rfl] at hw
   have r3:bb=inf:=by
    rcases r2 with r2|⟨bd,h1,_⟩
    ·exact r2
    ·cases h1
   rw [qeT] at hw
   repeat refine qaa ?_
   refine qas [.op 0,.op 1,.op 2,.op 3,.op 4,.op 5,.op 6,.chk 3,.chk 4,.op 7,.op 8,.op 9] hw (by kernel_rfl) ?_;clear hw;intro w hw
   repeat refine qaa ?_
   refine qac rfl (qbj (ht.at hw) hg hB) ?_
   rintro _ w' ⟨m,rfl,hm,hk'⟩
   replace hw:=hw.call0 hk'
   clear hk'
   refine⟨_,rfl,?_⟩
   have hme:=qa4 hm hL0
   repeat refine qaa ?_
   refine qac rfl (qaU (pv:=pv) (p:=[]) (vd:=2) (co:=0) (ex:=R.2.ex.length) (best:=m) (ht.at hw) hg (rsO (s:=pv) hw) (by decide) (.inl ⟨by omega,rfl,rfl,rfl⟩)) ?_
   rintro _ w' ⟨rfl,hk'⟩
   replace hw:=hw.call0 hk'
   clear hk'
   refine⟨_,rfl,?_⟩
   repeat refine qaa ?_
   exact qae (v:=.bool true) rfl rfl ⟨rfl,qaG hw⟩
 ·subst h5
  repeat refine qaa ?_
  refine qac rfl (qrL (ht.at hw) hg) ?_
  rintro _ w' ⟨pe,rfl,hk'⟩
  replace hw:=hw.call1 hk'
  clear hk'
  refine⟨_,rfl,?_⟩
  obtain⟨H,hHe⟩:∃ H,H=lmH t:=⟨_,rfl⟩
  obtain⟨ev,hev⟩:∃ ev,ev=Value.pointer (some pe):=⟨_,rfl⟩
  rw [←hHe] at hw
  have hH:HOk t H:=by rw [hHe];exact lm_ok hg
  have hadm:∀ y q d,Pln t y q d→H y<inf∧H y≤d:=fun y q d hp=>by rw [hHe];exact qtq hg hp
  have hAll:True:=trivial
  repeat refine qaa ?_
  have heG:EstA w' ev t H:=.inr ⟨pe,hev,hw.rdE 0 rfl⟩
  rw [←hev]
  refine qac rfl (qbr (ev:=ev) (L:=100000) (lim:=100000) (ht.at hw) hH heG rfl (by decide) (.inl hB)) ?_
  rintro _ w' ⟨pv,pl,rfl,hP,hk'⟩
  replace hw:=hw.call1 hk'
  clear hk'
  refine⟨_,rfl,?_⟩
  have opv:=(rsO (s:=pv) hw).one
  have hBst:=qcY (A:=⟨t,H,none⟩) hH hadm hL0 hP
  generalize srchA ⟨t,H,none⟩ 100000=R at hP hBst hAll ⊢
  obtain⟨hpl,hxl,hcase⟩:=hBst
  have hpl1:pl.length≤(statesL t.vars).length:=hpl
  have hpl2:pl.length≤1048576:=by omega
  repeat (first|refine qaa ?_|(refine qaf ?_;clear hw;intro p w hw))
  obtain⟨p7,hp7⟩:∃ p7,p7=p:=⟨p,rfl⟩
  subst hp7
  refine qat (n:=4) (p:=p7) (vs:=[.int .i64 (vdA R.1),pv,.int .i64 (coL t pl),.int .i64 R.2.ex.length]) rfl rfl hw inferInstance rfl rfl (by simp only [List.all_cons,List.all_nil,opv];rfl) ?_
  clear hw
  intro w hw
  rcases or_assoc.2 hcase with hcase|⟨r1,rfl,r2⟩
  rotate_left
  ·rw [show vdA R.1=3 by rw [r1];rfl,r2] at hw
   repeat refine qaa ?_
   refine qau rfl (qom rfl rfl (by decide)) ?_
   rw [←hmd]
   repeat refine qaa ?_
   exact qae (v:=.bool true) rfl rfl ⟨rfl,qaG hw⟩
  rcases hcase with ⟨i,r1,r2,r3,r4,_⟩|⟨r1,rfl,r2⟩
  ·rw [show vdA R.1=1 by rw [r1];rfl] at hw
   repeat refine qaa ?_
   refine qas [.op 0,.op 1,.op 2,.op 3,.op 4,.op 5,.op 6,.chk 3,.chk 4,.op 7,.op 8,.op 9] hw (by kernel_rfl) ?_;clear hw;intro w hw
   repeat refine qaa ?_
   refine qac rfl (qbj (ht.at hw) hg hB) ?_
   rintro _ w' ⟨m,rfl,hm,hk'⟩
   replace hw:=hw.call0 hk'
   clear hk'
   refine⟨_,rfl,?_⟩
   have hme:=qa4 hm hL0
   repeat refine qaa ?_
   refine qac rfl (qaU (pv:=pv) (p:=pl) (vd:=1) (co:=coL t pl) (ex:=R.2.ex.length) (best:=m) (ht.at hw) hg (rsO (s:=pv) hw) hpl2 (.inr ⟨by omega,rfl,by rw [hme];exact r2,by rw [hme];exact r3⟩)) ?_
   rintro _ w' ⟨rfl,hk'⟩
   replace hw:=hw.call0 hk'
   clear hk'
   refine⟨_,rfl,?_⟩
   repeat refine qaa ?_
   exact qae (v:=.bool true) rfl rfl ⟨rfl,qaG hw⟩
  ·rw [show vdA R.1=2 by rw [r1];rfl] at hw
   have r3:bb=inf:=by
    rcases r2 with r2|⟨bd,h1,_⟩
    ·exact r2
    ·cases h1
   rw [qeT] at hw
   repeat refine qaa ?_
   refine qas [.op 0,.op 1,.op 2,.op 3,.op 4,.op 5,.op 6,.chk 3,.chk 4,.op 7,.op 8,.op 9] hw (by kernel_rfl) ?_;clear hw;intro w hw
   repeat refine qaa ?_
   refine qac rfl (qbj (ht.at hw) hg hB) ?_
   rintro _ w' ⟨m,rfl,hm,hk'⟩
   replace hw:=hw.call0 hk'
   clear hk'
   refine⟨_,rfl,?_⟩
   have hme:=qa4 hm hL0
   repeat refine qaa ?_
   refine qac rfl (qaU (pv:=pv) (p:=[]) (vd:=2) (co:=0) (ex:=R.2.ex.length) (best:=m) (ht.at hw) hg (rsO (s:=pv) hw) (by decide) (.inl ⟨by omega,rfl,rfl,rfl⟩)) ?_
   rintro _ w' ⟨rfl,hk'⟩
   replace hw:=hw.call0 hk'
   clear hk'
   refine⟨_,rfl,?_⟩
   repeat refine qaa ?_
   exact qae (v:=.bool true) rfl rfl ⟨rfl,qaG hw⟩
 ·subst h5
  repeat refine qaa ?_
  refine qac rfl (qgW (size:=2) (ht.at hw) hs) ?_
  rintro _ w' ⟨pe,Ds,Ps,rfl,hRun,hk'⟩
  replace hw:=hw.call1 hk'
  clear hk'
  refine⟨_,rfl,?_⟩
  obtain⟨H,hHe⟩:∃ H,H=satH t (chsL t 2) Ds:=⟨_,rfl⟩
  obtain⟨ev,hev⟩:∃ ev,ev=Value.pointer (some pe):=⟨_,rfl⟩
  rw [←hHe] at hw
  have hH:HOk t H:=by rw [hHe];exact (qiT hs hRun).hok
  have hadm:∀ y q d,Pln t y q d→H y<inf∧H y≤d:=fun y q d hp=>by rw [hHe];exact (qiT hs hRun).admH hp
  have hAll:(srchA ⟨t,H,none⟩ 100000).1≠.unknown:=(qfo (A:=⟨t,H,none⟩) (lim:=100000) (M:=17179869184) hH (by rw [hHe];exact (qiT hs hRun).cons) hadm rfl (fun y h=>by rw [hHe] at h ⊢;exact (qiT hs hRun).smallH y h) (by decide) (by show (statesL t.vars).length<100000;omega) hL0).1
  repeat refine qaa ?_
  have heG:EstA w' ev t H:=.inr ⟨pe,hev,hw.rdE 0 rfl⟩
  rw [←hev]
  refine qac rfl (qbr (ev:=ev) (L:=100000) (lim:=100000) (ht.at hw) hH heG rfl (by decide) (.inl hB)) ?_
  rintro _ w' ⟨pv,pl,rfl,hP,hk'⟩
  replace hw:=hw.call1 hk'
  clear hk'
  refine⟨_,rfl,?_⟩
  have opv:=(rsO (s:=pv) hw).one
  have hBst:=qcY (A:=⟨t,H,none⟩) hH hadm hL0 hP
  generalize srchA ⟨t,H,none⟩ 100000=R at hP hBst hAll ⊢
  obtain⟨hpl,hxl,hcase⟩:=hBst
  have hpl1:pl.length≤(statesL t.vars).length:=hpl
  have hpl2:pl.length≤1048576:=by omega
  repeat (first|refine qaa ?_|(refine qaf ?_;clear hw;intro p w hw))
  obtain⟨p7,hp7⟩:∃ p7,p7=p:=⟨p,rfl⟩
  subst hp7
  refine qat (n:=4) (p:=p7) (vs:=[.int .i64 (vdA R.1),pv,.int .i64 (coL t pl),.int .i64 R.2.ex.length]) rfl rfl hw inferInstance rfl rfl (by simp only [List.all_cons,List.all_nil,opv];rfl) ?_
  clear hw
  intro w hw
  replace hcase:=(or_assoc.2 hcase).resolve_right (fun h=>hAll h.1)
  rcases hcase with ⟨i,r1,r2,r3,r4,_⟩|⟨r1,rfl,r2⟩
  ·rw [show vdA R.1=1 by rw [r1];rfl] at hw
   repeat refine qaa ?_
   refine qas [.op 0,.op 1,.op 2,.op 3,.op 4,.op 5,.op 6,.chk 3,.chk 4,.op 7,.op 8,.op 9] hw (by kernel_rfl) ?_;clear hw;intro w hw
   repeat refine qaa ?_
   refine qac rfl (qbj (ht.at hw) hg hB) ?_
   rintro _ w' ⟨m,rfl,hm,hk'⟩
   replace hw:=hw.call0 hk'
   clear hk'
   refine⟨_,rfl,?_⟩
   have hme:=qa4 hm hL0
   repeat refine qaa ?_
   refine qac rfl (qaU (pv:=pv) (p:=pl) (vd:=1) (co:=coL t pl) (ex:=R.2.ex.length) (best:=m) (ht.at hw) hg (rsO (s:=pv) hw) hpl2 (.inr ⟨by omega,rfl,by rw [hme];exact r2,by rw [hme];exact r3⟩)) ?_
   rintro _ w' ⟨rfl,hk'⟩
   replace hw:=hw.call0 hk'
   clear hk'
   refine⟨_,rfl,?_⟩
   repeat refine qaa ?_
   exact qae (v:=.bool true) rfl rfl ⟨rfl,qaG hw⟩
  ·rw [show vdA R.1=2 by rw [r1];rfl] at hw
   have r3:bb=inf:=by
    rcases r2 with r2|⟨bd,h1,_⟩
    ·exact r2
    ·cases h1
   rw [qeT] at hw
   repeat refine qaa ?_
   refine qas [.op 0,.op 1,.op 2,.op 3,.op 4,.op 5,.op 6,.chk 3,.chk 4,.op 7,.op 8,.op 9] hw (by kernel_rfl) ?_;clear hw;intro w hw
   repeat refine qaa ?_
   refine qac rfl (qbj (ht.at hw) hg hB) ?_
   rintro _ w' ⟨m,rfl,hm,hk'⟩
   replace hw:=hw.call0 hk'
   clear hk'
   refine⟨_,rfl,?_⟩
   have hme:=qa4 hm hL0
   repeat refine qaa ?_
   refine qac rfl (qaU (pv:=pv) (p:=[]) (vd:=2) (co:=0) (ex:=R.2.ex.length) (best:=m) (ht.at hw) hg (rsO (s:=pv) hw) (by decide) (.inl ⟨by omega,rfl,rfl,rfl⟩)) ?_
   rintro _ w' ⟨rfl,hk'⟩
   replace hw:=hw.call0 hk'
   clear hk'
   refine⟨_,rfl,?_⟩
   repeat refine qaa ?_
   exact qae (v:=.bool true) rfl rfl ⟨rfl,qaG hw⟩
 ·subst h5
  repeat refine qaa ?_
  refine qac rfl (qhW (ht.at hw) hg) ?_
  rintro _ w' ⟨pe,rfl,hk'⟩
  replace hw:=hw.call1 hk'
  clear hk'
  refine⟨_,rfl,?_⟩
  obtain⟨H,hHe⟩:∃ H,H=blindH t:=⟨_,rfl⟩
  obtain⟨ev,hev⟩:∃ ev,ev=Value.pointer (some pe):=⟨_,rfl⟩
  rw [←hHe] at hw
  have hH:HOk t H:=by rw [hHe];exact qfv hg
  have hadm:∀ y q d,Pln t y q d→H y<inf∧H y≤d:=fun y q d hp=>by rw [hHe];exact qgb hg hp
  have hAll:(srchA ⟨t,H,none⟩ 100000).1≠.unknown:=(qfo (A:=⟨t,H,none⟩) (lim:=100000) (M:=17179869184) hH (by rw [hHe];exact qeN hg) hadm rfl (fun y h=>by rw [hHe] at h ⊢;exact Int.le_trans (qik hg y h) (by decide)) (by decide) (by show (statesL t.vars).length<100000;omega) hL0).1
  repeat refine qaa ?_
  have heG:EstA w' ev t H:=.inr ⟨pe,hev,hw.rdE 0 rfl⟩
  rw [←hev]
  refine qac rfl (qbr (ev:=ev) (L:=100000) (lim:=100000) (ht.at hw) hH heG rfl (by decide) (.inl hB)) ?_
  rintro _ w' ⟨pv,pl,rfl,hP,hk'⟩
  replace hw:=hw.call1 hk'
  clear hk'
  refine⟨_,rfl,?_⟩
  have opv:=(rsO (s:=pv) hw).one
  have hBst:=qcY (A:=⟨t,H,none⟩) hH hadm hL0 hP
  generalize srchA ⟨t,H,none⟩ 100000=R at hP hBst hAll ⊢
  obtain⟨hpl,hxl,hcase⟩:=hBst
  have hpl1:pl.length≤(statesL t.vars).length:=hpl
  have hpl2:pl.length≤1048576:=by omega
  repeat (first|refine qaa ?_|(refine qaf ?_;clear hw;intro p w hw))
  obtain⟨p7,hp7⟩:∃ p7,p7=p:=⟨p,rfl⟩
  subst hp7
  refine qat (n:=4) (p:=p7) (vs:=[.int .i64 (vdA R.1),pv,.int .i64 (coL t pl),.int .i64 R.2.ex.length]) rfl rfl hw inferInstance rfl rfl (by simp only [List.all_cons,List.all_nil,opv];rfl) ?_
  clear hw
  intro w hw
  replace hcase:=(or_assoc.2 hcase).resolve_right (fun h=>hAll h.1)
  rcases hcase with ⟨i,r1,r2,r3,r4,_⟩|⟨r1,rfl,r2⟩
  ·rw [show vdA R.1=1 by rw [r1];rfl] at hw
   repeat refine qaa ?_
   refine qas [.op 0,.op 1,.op 2,.op 3,.op 4,.op 5,.op 6,.chk 3,.chk 4,.op 7,.op 8,.op 9] hw (by kernel_rfl) ?_;clear hw;intro w hw
   repeat refine qaa ?_
   refine qac rfl (qbj (ht.at hw) hg hB) ?_
   rintro _ w' ⟨m,rfl,hm,hk'⟩
   replace hw:=hw.call0 hk'
   clear hk'
   refine⟨_,rfl,?_⟩
   have hme:=qa4 hm hL0
   repeat refine qaa ?_
   refine qac rfl (qaU (pv:=pv) (p:=pl) (vd:=1) (co:=coL t pl) (ex:=R.2.ex.length) (best:=m) (ht.at hw) hg (rsO (s:=pv) hw) hpl2 (.inr ⟨by omega,rfl,by rw [hme];exact r2,by rw [hme];exact r3⟩)) ?_
   rintro _ w' ⟨rfl,hk'⟩
   replace hw:=hw.call0 hk'
   clear hk'
   refine⟨_,rfl,?_⟩
   repeat refine qaa ?_
   exact qae (v:=.bool true) rfl rfl ⟨rfl,qaG hw⟩
  ·rw [show vdA R.1=2 by rw [r1];rfl] at hw
   have r3:bb=inf:=by
    rcases r2 with r2|⟨bd,h1,_⟩
    ·exact r2
    ·cases h1
   rw [qeT] at hw
   repeat refine qaa ?_
   refine qas [.op 0,.op 1,.op 2,.op 3,.op 4,.op 5,.op 6,.chk 3,.chk 4,.op 7,.op 8,.op 9] hw (by kernel_rfl) ?_;clear hw;intro w hw
   repeat refine qaa ?_
   refine qac rfl (qbj (ht.at hw) hg hB) ?_
   rintro _ w' ⟨m,rfl,hm,hk'⟩
   replace hw:=hw.call0 hk'
   clear hk'
   refine⟨_,rfl,?_⟩
   have hme:=qa4 hm hL0
   repeat refine qaa ?_
   refine qac rfl (qaU (pv:=pv) (p:=[]) (vd:=2) (co:=0) (ex:=R.2.ex.length) (best:=m) (ht.at hw) hg (rsO (s:=pv) hw) (by decide) (.inl ⟨by omega,rfl,rfl,rfl⟩)) ?_
   rintro _ w' ⟨rfl,hk'⟩
   replace hw:=hw.call0 hk'
   clear hk'
   refine⟨_,rfl,?_⟩
   repeat refine qaa ?_
   exact qae (v:=.bool true) rfl rfl ⟨rfl,qaG hw⟩
end Go.Proofs.YtkmbenhffledpaaGreat
