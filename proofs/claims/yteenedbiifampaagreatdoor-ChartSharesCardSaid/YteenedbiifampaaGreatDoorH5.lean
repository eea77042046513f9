/- ChartShares, part 5 of its proof: declarations that the last part uses. -/
import Derived.Test.YteenedbiifampaaGreatDoorH4
set_option maxHeartbeats 1000000
set_option maxRecDepth 4000
set_option linter.unusedSimpArgs false
set_option linter.unusedVariables false
set_option linter.unusedSectionVars false
namespace Go.Sx.Pe
open Go Go.Proofs Go.Sx.Pn
theorem ahJ:aL Tryz.prog 96 aqJ:=by
 refine aY (Tb:=tab) mixed aB Tryz.func96 rfl rfl ?_
 rintro (a:aJ×List Int) hpre
 refine ai (ai rfl (ai rfl rfl)) ?_
 have hl:a.2.length≤1000000:=hpre
 refine ah (p:=a.2.length=0) (gB (by omega)) (fun h0=>?_) (fun h0=>?_)
 ·refine ai (ai (fun _=>trivial) ?_) trivial
  show ak _ (iP (eX a.1.sts.length a.2))
  rw[eX,if_pos h0]
  exact rfl
 have hA:eX a.1.sts.length a.2=dx (mH a.1.sts.length a.2) a.2.length:=by unfold eX;rw[if_neg h0]
 refine ei (bE.inv { X:=Nat,up:=fun k=>[(5,.s (iA k))],uo:=fun k=>[],inv:=fun k=>k≤a.2.length∧(∀j,j<k→mH a.1.sts.length a.2 j=0),meas:=fun k=>a.2.length-k,x0:=0 }) ?_
 refine ai (ai (ai (by exact (a4 (ai rfl rfl))) (ai (by exact (ai (ai (fun _=>rfl) (iE (by simp only[zz,reduceCtorEq];rfl))) rfl)) (by exact trivial))) rfl) (ai (ai (afc _) ?_) ?_)
 ·exact fun j hj=>absurd hj (alJ _)
 intro (k:Nat) ⟨hk,hall⟩
 refine ah (p:=k<a.2.length) (au (by omega)) (fun h1=>?_) (fun h1=>?_)
 ·refine ei (.seq [0,1,2,3,4,5,6,7,8,9,10,11,12,13,14]) (ai (by kernel_rfl) ?_)
  refine ai (ai (abq _) (iN (n:=a.2.length) (by omega))) (ai rfl ?_)
  refine ah (p:=a.2.getD k 0<0) (au Iff.rfl) (fun h2=>?_) (fun h2=>?_)
  ·have e:mH a.1.sts.length a.2 k=2:=by unfold mH;rw[if_pos (by omega)]
   refine ai (ai (fun _=>trivial) ?_) trivial
   show ak _ (iP (eX a.1.sts.length a.2))
   rw[hA,cB h1 hall (by rw[e];decide),e]
   exact rfl
  refine ai (ai (abq _) (iN (n:=a.2.length) (by omega))) (ai rfl ?_)
  refine ah (p:=(a.1.sts.length:Int)≤a.2.getD k 0) (cu Iff.rfl) (fun h3=>?_) (fun h3=>?_)
  ·have e:mH a.1.sts.length a.2 k=2:=by unfold mH;rw[if_pos (by omega)]
   refine ai (ai (fun _=>trivial) ?_) trivial
   show ak _ (iP (eX a.1.sts.length a.2))
   rw[hA,cB h1 hall (by rw[e];decide),e]
   exact rfl
  refine ei (.seq [0,1,2,3,4,5,6,7,8,9,10,11,12,13]) (ai (by kernel_rfl) ?_)
  refine ah (p:=0<k) (au (by omega)) (fun h4=>?_) (fun h4=>?_)
  ·have hw:IntKind.i64.wrap ((k:Int)-1)=((k-1:Nat):Int):=aj6 h4 (by omega)
   refine ai (ai (abq _) (iN (n:=a.2.length) (by omega))) (ai rfl ?_)
   refine ai (ai (by rw[hw];exact abq _) (by rw[hw];show ((k-1:Nat):Int)<(a.2.length:Int);omega)) ?_
   refine ai rfl ?_
   refine ah (p:=a.2.getD k 0≤a.2.getD (k-1) 0) (by exact cu (by rw[hw];exact Iff.rfl)) (fun h5=>?_) (fun h5=>?_)
   ·have e:mH a.1.sts.length a.2 k=9:=by unfold mH;rw[if_neg (by omega),if_pos ⟨h4,h5⟩]
    refine ai (ai (fun _=>trivial) ?_) trivial
    show ak _ (iP (eX a.1.sts.length a.2))
    rw[hA,cB h1 hall (by rw[e];decide),e]
    exact rfl
   ·refine ei (k+1) (ai (ai rfl rfl) (ai (ai (ai rfl (ai (ai rfl rfl) (ai (ai rfl rfl) (ai (ai (ai (fun _=>rfl) (aP (by omega))) rfl) trivial)))) rfl) (ai (ai (iL (by omega)) ?_) (iM (by omega)))))
    intro j hj
    by_cases hjk:j=k
    ·subst hjk;unfold mH;rw[if_neg (by omega),if_neg (fun h=>h5 h.2)]
    ·exact hall j (by omega)
  ·refine ei (k+1) (ai (ai rfl rfl) (ai (ai (ai rfl (ai (ai rfl rfl) (ai (ai rfl rfl) (ai (ai (ai (fun _=>rfl) (aP (by omega))) rfl) trivial)))) rfl) (ai (ai (iL (by omega)) ?_) (iM (by omega)))))
   intro j hj
   by_cases hjk:j=k
   ·subst hjk;unfold mH;rw[if_neg (by omega),if_neg (fun h=>h4 h.1)]
   ·exact hall j (by omega)
 ·obtain rfl:k=a.2.length:=by omega
  refine ai (ai (fun _=>trivial) ?_) trivial
  show ak _ (iP (eX a.1.sts.length a.2))
  rw[hA,gD hall]
  exact rfl
def jR (c:aJ):Int:=2*c.act+c.ins.length+c.sts.length
def wM (c:aJ):Prop:=0≤c.act∧c.act≤1000∧c.ins.length≤1000000∧c.sts.length≤1000000
def aoO:Spec:=bT (fun c:aJ=>[jJ c]) wM (fun c=>iP (jR c))
theorem aiJ:aL Tryz.prog 149 aoO:=by
 refine aY (Tb:=tab) mixed aB Tryz.func149 rfl rfl ?_
 rintro (c:aJ) hpre
 refine ai (ai rfl (ai rfl rfl)) ?_
 obtain ⟨h1,h2,h3,h4⟩:=hpre
 have h1:0≤c.act:=h1
 have h2:c.act≤1000:=h2
 have h3:c.ins.length≤1000000:=h3
 have h4:c.sts.length≤1000000:=h4
 refine ai (ai (fun _=>trivial) ?_) trivial
 show IntKind.i64.wrap (IntKind.i64.wrap (IntKind.i64.wrap (2*c.act)+(c.ins.length:Int))+(c.sts.length:Int))=jR c
 rw[jk (n:=2*c.act) (by omega) (by omega),jk (n:=2*c.act+(c.ins.length:Int)) (by omega) (by omega),jk (by omega) (by omega)];rfl
theorem afI:aL Tryz.prog 47 aoO:=by
 refine aY (Tb:=tab) mixed aB Tryz.func47 rfl rfl ?_
 rintro (c:aJ) hpre
 refine ai (ai rfl (ai rfl rfl)) ?_
 obtain ⟨h1,h2,h3,h4⟩:=hpre
 have h1:0≤c.act:=h1
 have h2:c.act≤1000:=h2
 have h3:c.ins.length≤1000000:=h3
 have h4:c.sts.length≤1000000:=h4
 refine ai (ai (fun _=>trivial) ?_) trivial
 show IntKind.i64.wrap (IntKind.i64.wrap (IntKind.i64.wrap (2*c.act)+(c.ins.length:Int))+(c.sts.length:Int))=jR c
 rw[jk (n:=2*c.act) (by omega) (by omega),jk (n:=2*c.act+(c.ins.length:Int)) (by omega) (by omega),jk (by omega) (by omega)];rfl
def iJ (c:aJ) (t:jP):Int:=if ¬eX c.sts.length t.fr=0 then eX c.sts.length t.fr else if ¬eX c.sts.length t.to=0 then eX c.sts.length t.to else dn t.wh (jR c)
def akt (t:jP):Prop:=t.fr.length≤1000000∧t.to.length≤1000000∧t.wh.size≤1000000
def asP:Spec:=bT (fun a:aJ×jP=>[jJ a.1,trA a.2]) (fun a=>wM a.1∧akt a.2) (fun a=>iP (iJ a.1 a.2))
theorem arG:aL Tryz.prog 91 asP:=by
 refine aY (Tb:=tab) mixed aB Tryz.func91 rfl rfl ?_
 rintro (a:aJ×jP) hpre
 refine ai (ai rfl (ai rfl rfl)) ?_
 obtain ⟨hs,h1,h2,h3⟩:=hpre
 refine ei (bE.unroll 3) ?_
 refine ai (by decide) ?_
 refine ai (by decide) ?_
 refine ei _ (ai (aeD) (ei ((a.1,a.2.fr)) (ei [] (ai (a4 (ai (fun _=>Or.inl rfl) (ai nof (Or.inl rfl)))) (ai (by exact (ai (ai rfl (ai (ai rfl (fun _ _=>rfl)) (ai (ai rfl (fun _ _=>rfl)) (ai rfl (fun _ _=>rfl))))) (ai rfl (fun _ _=>rfl)))) (ai trivial (ai (h1) ?_)))))))
 refine bg (p:=eX a.1.sts.length a.2.fr=0) (bK (by dsimp only;omega)) (fun g1=>?_) (fun g1=>?_)
 ·refine ai (ai (fun _=>trivial) ?_) trivial
  show ak _ (iP (iJ a.1 a.2))
  rw[iJ,if_pos g1]
  exact rfl
 refine ai (by decide) ?_
 refine ai (by decide) ?_
 refine ei _ (ai (aeD) (ei ((a.1,a.2.to)) (ei [] (ai (a4 (ai (fun _=>Or.inl rfl) (ai nof (Or.inl rfl)))) (ai (by exact (ai (ai rfl (ai (ai rfl (fun _ _=>rfl)) (ai (ai rfl (fun _ _=>rfl)) (ai rfl (fun _ _=>rfl))))) (ai rfl (fun _ _=>rfl)))) (ai trivial (ai (h2) ?_)))))))
 refine bg (p:=eX a.1.sts.length a.2.to=0) (bK (by dsimp only;omega)) (fun g2=>?_) (fun g2=>?_)
 ·refine ai (ai (fun _=>trivial) ?_) trivial
  show ak _ (iP (iJ a.1 a.2))
  rw[iJ,if_neg (fun h=>h g1),if_pos g2]
  exact rfl
 refine ei (.seq [0,1,2,3,4,5]) (ai (by kernel_rfl) ?_)
 refine ei _ (ai (aiJ) (ei (a.1) (ei [] (ai (a4 (ai (fun _=>Or.inl rfl) (ai nof (Or.inl rfl)))) (ai (by exact (ai rfl (ai (ai rfl (fun _ _=>rfl)) (ai (ai rfl (fun _ _=>rfl)) (ai rfl (fun _ _=>rfl)))))) (ai trivial (ai (hs) ?_)))))))
 refine ei _ (ai (ab5) (ei ((a.2.wh,jR a.1)) (ei [] (ai (a4 (ai (fun _=>Or.inl rfl) (ai nof (Or.inl rfl)))) (ai (by exact (ai (ai rfl (ai rfl (ai rfl (fun _ _=>rfl)))) rfl)) (ai trivial (ai (h3) ?_)))))))
 refine ai (ai (fun _=>trivial) ?_) trivial
 show ak _ (iP (iJ a.1 a.2))
 rw[iJ,if_neg (fun h=>h g1),if_neg (fun h=>h g2)]
 exact rfl
def anA:Spec:=bT (fun a:aJ×List Stp=>[.p false (akj a.2),.p false (.bnd 90 [vC a.1])]) (fun a=>a.2.length≤1000000∧∀s∈a.2,s.st.length≤1000000) (fun a=>iP (dx (fun k=>eU a.1.act (a.2.getD k st0)) a.2.length))
theorem aj2:aL Tryz.prog 92 anA:=by
 refine aY (Tb:=tab) mixed aB Tryz.func92 rfl rfl ?_
 rintro (a:aJ×List Stp) hpre
 refine ai (ai rfl (ai rfl rfl)) ?_
 obtain ⟨hl,hs⟩:=hpre
 have hl:a.2.length≤1000000:=hl
 refine ei (bE.inv { X:=Nat,up:=fun k=>[(10,.s (iA k))],uo:=fun k=>[],inv:=fun k=>k≤a.2.length∧(∀j,j<k→eU a.1.act (a.2.getD j st0)=0),meas:=fun k=>a.2.length-k,x0:=0 }) ?_
 refine ai (ai (ai (by exact (a4 (ai rfl rfl))) (ai (by exact (ai (ai (fun _=>rfl) (iE (by simp only[zz,reduceCtorEq];rfl))) rfl)) (by exact trivial))) rfl) (ai (ai (afc _) ?_) ?_)
 ·exact fun j hj=>absurd hj (alJ _)
 intro (k:Nat) ⟨hk,hall⟩
 refine ah (p:=k<a.2.length) (au (by omega)) (fun h1=>?_) (fun h1=>?_)
 ·refine ai (ai (abq _) (iN (n:=a.2.length) (by omega))) (ai rfl ?_)
  refine ei _ (ai (step_ok) (ei ((a.1,a.2.getD k st0)) (ei [] (ai (a4 (ai (fun _=>Or.inl rfl) (ai nof (Or.inl rfl)))) (ai (by exact (ai (ai rfl (ai (ai rfl (fun _ _=>rfl)) (ai (ai rfl (fun _ _=>rfl)) (ai rfl (fun _ _=>rfl))))) (ai (ai rfl (fun _ _=>rfl)) (iE (by simp only[zz,reduceCtorEq]))))) (ai trivial (ai (hs _ (adh (bI st0 h1))) ?_)))))))
  refine bg (p:=eU a.1.act (a.2.getD k st0)=0) (bK (by dsimp only;omega)) (fun h2=>?_) (fun h2=>?_)
  ·refine ai (ai (fun _=>trivial) ?_) trivial
   show ak _ (iP (dx (fun k=>eU a.1.act (a.2.getD k st0)) a.2.length))
   rw[cB h1 hall h2]
   exact rfl
  refine ei (k+1) (ai (ai rfl rfl) (ai (ai (ai rfl (ai (ai rfl rfl) (ai (ai rfl rfl) (ai (ai (ai (fun _=>rfl) (aP (by omega))) rfl) trivial)))) rfl) (ai (ai (iL (by omega)) ?_) (iM (by omega)))))
  intro j hj
  by_cases hjk:j=k
  ·subst hjk;exact h2
  ·exact hall j (by omega)
 ·obtain rfl:k=a.2.length:=by omega
  refine ai (ai (fun _=>trivial) ?_) trivial
  show ak _ (iP (dx (fun k=>eU a.1.act (a.2.getD k st0)) a.2.length))
  rw[gD hall]
  exact rfl
def anp:Spec:=bT (fun a:aJ×List jP=>[.p false (an3 a.2),.p false (.bnd 91 [vC a.1])]) (fun a=>a.2.length≤1000000∧wM a.1∧∀s∈a.2,akt s) (fun a=>iP (dx (fun k=>iJ a.1 (a.2.getD k aF)) a.2.length))
theorem ajF:aL Tryz.prog 93 anp:=by
 refine aY (Tb:=tab) mixed aB Tryz.func93 rfl rfl ?_
 rintro (a:aJ×List jP) hpre
 refine ai (ai rfl (ai rfl rfl)) ?_
 obtain ⟨hl,hc,hs⟩:=hpre
 have hl:a.2.length≤1000000:=hl
 refine ei (bE.inv { X:=Nat,up:=fun k=>[(10,.s (iA k))],uo:=fun k=>[],inv:=fun k=>k≤a.2.length∧(∀j,j<k→iJ a.1 (a.2.getD j aF)=0),meas:=fun k=>a.2.length-k,x0:=0 }) ?_
 refine ai (ai (ai (by exact (a4 (ai rfl rfl))) (ai (by exact (ai (ai (fun _=>rfl) (iE (by simp only[zz,reduceCtorEq];rfl))) rfl)) (by exact trivial))) rfl) (ai (ai (afc _) ?_) ?_)
 ·exact fun j hj=>absurd hj (alJ _)
 intro (k:Nat) ⟨hk,hall⟩
 refine ah (p:=k<a.2.length) (au (by omega)) (fun h1=>?_) (fun h1=>?_)
 ·refine ai (ai (abq _) (iN (n:=a.2.length) (by omega))) (ai rfl ?_)
  refine ei _ (ai (arG) (ei ((a.1,a.2.getD k aF)) (ei [] (ai (a4 (ai (fun _=>Or.inl rfl) (ai nof (Or.inl rfl)))) (ai (by exact (ai (ai rfl (ai (ai rfl (fun _ _=>rfl)) (ai (ai rfl (fun _ _=>rfl)) (ai rfl (fun _ _=>rfl))))) (ai (ai rfl (fun _ _=>rfl)) (ai (ai rfl (fun _ _=>rfl)) (ai (iE (by simp only[zz,reduceCtorEq])) (ai (iE (by simp only[zz,reduceCtorEq])) (ai rfl (fun _ _=>rfl)))))))) (ai trivial (ai (⟨hc,hs _ (adh (bI aF h1))⟩) ?_)))))))
  refine bg (p:=iJ a.1 (a.2.getD k aF)=0) (bK (by dsimp only;omega)) (fun h2=>?_) (fun h2=>?_)
  ·refine ai (ai (fun _=>trivial) ?_) trivial
   show ak _ (iP (dx (fun k=>iJ a.1 (a.2.getD k aF)) a.2.length))
   rw[cB h1 hall h2]
   exact rfl
  refine ei (k+1) (ai (ai rfl rfl) (ai (ai (ai rfl (ai (ai rfl rfl) (ai (ai rfl rfl) (ai (ai (ai (fun _=>rfl) (aP (by omega))) rfl) trivial)))) rfl) (ai (ai (iL (by omega)) ?_) (iM (by omega)))))
  intro j hj
  by_cases hjk:j=k
  ·subst hjk;exact h2
  ·exact hall j (by omega)
 ·obtain rfl:k=a.2.length:=by omega
  refine ai (ai (fun _=>trivial) ?_) trivial
  show ak _ (iP (dx (fun k=>iJ a.1 (a.2.getD k aF)) a.2.length))
  rw[gD hall]
  exact rfl
def bD (c:aJ):Int:=
 if c.act<1∨6<c.act then 2 else if ¬dL c.ins=0 then dL c.ins else if c.sts.length=0 then 13 else if 24<c.sts.length∨32<c.trs.length then 5 else
 if ¬dx (fun k=>eU c.act (c.sts.getD k st0)) c.sts.length=0 then dx (fun k=>eU c.act (c.sts.getD k st0)) c.sts.length else dx (fun k=>iJ c (c.trs.getD k aF)) c.trs.length
def jd (c:aJ):Prop:=(∀s∈c.sts,s.st.length≤1000000)∧∀t∈c.trs,akt t
theorem pV {l:List (List UInt8)} (h:dL l=0):l.length≤16:=by
 unfold dL at h
 split at h
 ·cases h
 ·omega
def arJ:Spec:=bT (fun c:aJ=>[jJ c]) jd (fun c=>iP (bD c))
theorem ahd:aL Tryz.prog 26 arJ:=by
 refine aY (Tb:=tab) mixed aB Tryz.func26 rfl rfl ?_
 rintro (c:aJ) hpre
 refine ai (ai rfl (ai rfl rfl)) ?_
 obtain ⟨hst,htr⟩:=hpre
 refine ah (p:=c.act<1) (au (by omega)) (fun h1=>?_) (fun h1=>?_)
 ·refine ai (ai (fun _=>trivial) ?_) trivial
  show ak _ (iP (bD c))
  rw[bD,if_pos (.inl h1)]
  exact rfl
 refine ah (p:=6<c.act) (au (by omega)) (fun h2=>?_) (fun h2=>?_)
 ·refine ai (ai (fun _=>trivial) ?_) trivial
  show ak _ (iP (bD c))
  rw[bD,if_pos (.inr h2)]
  exact rfl
 have e0:¬(c.act<1∨6<c.act):=fun h=>h.elim h1 h2
 refine ei _ (ai (alc) (ei (c.ins) (ei [] (ai (a4 (ai (fun _=>Or.inl rfl) (ai nof (Or.inl rfl)))) (ai (by exact (ai rfl (fun _ _=>rfl))) (ai trivial (ai (trivial) ?_)))))))
 refine bg (p:=dL c.ins=0) (bK (by omega)) (fun h3=>?_) (fun h3=>?_)
 ·refine ai (ai (fun _=>trivial) ?_) trivial
  show ak _ (iP (bD c))
  rw[bD,if_neg e0,if_pos h3]
  exact rfl
 have h16:=pV h3
 have e1:¬¬dL c.ins=0:=fun h=>h h3
 refine ah (p:=c.sts.length=0) (gB (by omega)) (fun h4=>?_) (fun h4=>?_)
 ·refine ai (ai (fun _=>trivial) ?_) trivial
  show ak _ (iP (bD c))
  rw[bD,if_neg e0,if_neg e1,if_pos h4]
  exact rfl
 refine ah (p:=24<c.sts.length) (au (by omega)) (fun h5=>?_) (fun h5=>?_)
 ·refine ai (ai (fun _=>trivial) ?_) trivial
  show ak _ (iP (bD c))
  rw[bD,if_neg e0,if_neg e1,if_neg h4,if_pos (.inl h5)]
  exact rfl
 refine ah (p:=32<c.trs.length) (au (by omega)) (fun h6=>?_) (fun h6=>?_)
 ·refine ai (ai (fun _=>trivial) ?_) trivial
  show ak _ (iP (bD c))
  rw[bD,if_neg e0,if_neg e1,if_neg h4,if_pos (.inr h6)]
  exact rfl
 have e2:¬(24<c.sts.length∨32<c.trs.length):=fun h=>h.elim h5 h6
 refine ei (.seq [0,1,2,3,4,5]) (ai (by kernel_rfl) ?_)
 refine ei _ (ai (aj2) (ei ((c,c.sts)) (ei [] (ai (a4 (ai (fun _=>Or.inl rfl) (ai nof (Or.inl rfl)))) (ai (by exact (ai (ai rfl (fun _ _=>rfl)) (ai rfl rfl))) (ai trivial (ai (⟨by show c.sts.length≤1000000;omega,hst⟩) ?_)))))))
 refine bg (p:=dx (fun k=>eU c.act (c.sts.getD k st0)) c.sts.length=0) (bK (by dsimp only;omega)) (fun h7=>?_) (fun h7=>?_)
 ·refine ai (ai (fun _=>trivial) ?_) trivial
  show ak _ (iP (bD c))
  rw[bD,if_neg e0,if_neg e1,if_neg h4,if_neg e2,if_pos h7]
  exact rfl
 have hsm:wM c:=⟨by omega,by omega,by omega,by omega⟩
 refine ei _ (ai (ajF) (ei ((c,c.trs)) (ei [] (ai (a4 (ai (fun _=>Or.inl rfl) (ai nof (Or.inl rfl)))) (ai (by exact (ai (ai rfl (fun _ _=>rfl)) (ai rfl rfl))) (ai trivial (ai (⟨by show c.trs.length≤1000000;omega,hsm,htr⟩) ?_)))))))
 refine ai (ai (fun _=>trivial) ?_) trivial
 show ak _ (iP (bD c))
 rw[bD,if_neg e0,if_neg e1,if_neg h4,if_neg e2,if_neg (fun h=>h h7)]
 exact rfl
theorem ad6:aL Tryz.prog 27 arJ:=by
 refine aY (Tb:=tab) mixed aB Tryz.func27 rfl rfl ?_
 rintro (c:aJ) hpre
 refine ai (ai rfl (ai rfl rfl)) ?_
 obtain ⟨hst,htr⟩:=hpre
 refine ah (p:=c.act<1) (au (by omega)) (fun h1=>?_) (fun h1=>?_)
 ·refine ai (ai (fun _=>trivial) ?_) trivial
  show ak _ (iP (bD c))
  rw[bD,if_pos (.inl h1)]
  exact rfl
 refine ah (p:=6<c.act) (au (by omega)) (fun h2=>?_) (fun h2=>?_)
 ·refine ai (ai (fun _=>trivial) ?_) trivial
  show ak _ (iP (bD c))
  rw[bD,if_pos (.inr h2)]
  exact rfl
 have e0:¬(c.act<1∨6<c.act):=fun h=>h.elim h1 h2
 refine ei _ (ai (ajO) (ei (c.ins) (ei [] (ai (a4 (ai (fun _=>Or.inl rfl) (ai nof (Or.inl rfl)))) (ai (by exact (ai rfl (fun _ _=>rfl))) (ai trivial (ai (trivial) ?_)))))))
 refine bg (p:=dL c.ins=0) (bK (by omega)) (fun h3=>?_) (fun h3=>?_)
 ·refine ai (ai (fun _=>trivial) ?_) trivial
  show ak _ (iP (bD c))
  rw[bD,if_neg e0,if_pos h3]
  exact rfl
 have h16:=pV h3
 have e1:¬¬dL c.ins=0:=fun h=>h h3
 refine ah (p:=c.sts.length=0) (gB (by omega)) (fun h4=>?_) (fun h4=>?_)
 ·refine ai (ai (fun _=>trivial) ?_) trivial
  show ak _ (iP (bD c))
  rw[bD,if_neg e0,if_neg e1,if_pos h4]
  exact rfl
 refine ah (p:=24<c.sts.length) (au (by omega)) (fun h5=>?_) (fun h5=>?_)
 ·refine ai (ai (fun _=>trivial) ?_) trivial
  show ak _ (iP (bD c))
  rw[bD,if_neg e0,if_neg e1,if_neg h4,if_pos (.inl h5)]
  exact rfl
 refine ah (p:=32<c.trs.length) (au (by omega)) (fun h6=>?_) (fun h6=>?_)
 ·refine ai (ai (fun _=>trivial) ?_) trivial
  show ak _ (iP (bD c))
  rw[bD,if_neg e0,if_neg e1,if_neg h4,if_pos (.inr h6)]
  exact rfl
 have e2:¬(24<c.sts.length∨32<c.trs.length):=fun h=>h.elim h5 h6
 have hA:bD c=if ¬dx (fun k=>eU c.act (c.sts.getD k st0)) c.sts.length=0 then dx (fun k=>eU c.act (c.sts.getD k st0)) c.sts.length else dx (fun k=>iJ c (c.trs.getD k aF)) c.trs.length:=by
  unfold bD;rw[if_neg e0,if_neg e1,if_neg h4,if_neg e2]
 refine ei (bE.inv { X:=Nat,up:=fun k=>[(4,.s (iA k))],uo:=fun k=>[],inv:=fun k=>k≤c.sts.length∧(∀j,j<k→eU c.act (c.sts.getD j st0)=0),meas:=fun k=>c.sts.length-k,x0:=0 }) ?_
 refine ai (ai (ai (by exact (a4 (ai rfl rfl))) (ai (by exact (ai (ai (fun _=>rfl) (iE (by simp only[zz,reduceCtorEq];rfl))) rfl)) (by exact trivial))) rfl) (ai (ai (afc _) ?_) ?_)
 ·exact fun j hj=>absurd hj (alJ _)
 intro (k:Nat) ⟨hk,hall⟩
 refine ah (p:=k<c.sts.length) (au (by omega)) (fun g1=>?_) (fun g1=>?_)
 ·refine ei (.seq [0,1,2,3,4,5,6,7]) (ai (by kernel_rfl) ?_)
  refine ai (ai (abq _) (iN (n:=c.sts.length) (by omega))) (ai rfl ?_)
  refine ei _ (ai (aos) (ei ((c,c.sts.getD k st0)) (ei [] (ai (a4 (ai (fun _=>Or.inl rfl) (ai nof (Or.inl rfl)))) (ai (by exact (ai (ai rfl (ai (ai rfl (fun _ _=>rfl)) (ai (ai rfl (fun _ _=>rfl)) (ai rfl (fun _ _=>rfl))))) (ai (ai rfl (fun _ _=>rfl)) (iE (by simp only[zz,reduceCtorEq]))))) (ai trivial (ai (hst _ (adh (bI st0 g1))) ?_)))))))
  refine bg (p:=eU c.act (c.sts.getD k st0)=0) (bK (by dsimp only;omega)) (fun g2=>?_) (fun g2=>?_)
  ·have e:=cB (f:=fun k=>eU c.act (c.sts.getD k st0)) g1 hall g2
   refine ai (ai (fun _=>trivial) ?_) trivial
   show ak _ (iP (bD c))
   rw[hA,if_pos (show ¬dx (fun k=>eU c.act (c.sts.getD k st0)) c.sts.length=0 by rw[e];exact g2),e]
   exact rfl
  refine ei (k+1) (ai (ai rfl rfl) (ai (ai (ai rfl (ai (ai rfl rfl) (ai (ai rfl rfl) (ai (ai (ai (fun _=>rfl) (aP (by omega))) rfl) trivial)))) rfl) (ai (ai (iL (by omega)) ?_) (iM (by omega)))))
  intro j hj
  by_cases hjk:j=k
  ·subst hjk;exact g2
  ·exact hall j (by omega)
 ·obtain rfl:k=c.sts.length:=by omega
  rw[if_neg (fun h=>h (gD hall))] at hA
  refine ei (bE.inv { X:=Nat,up:=fun j=>[(6,.s (iA j))],uo:=fun j=>[],inv:=fun j=>j≤c.trs.length∧(∀i,i<j→iJ c (c.trs.getD i aF)=0),meas:=fun j=>c.trs.length-j,x0:=0 }) ?_
  refine ai (ai (ai (by exact (a4 (ai rfl rfl))) (ai (by exact (ai (ai (fun _=>rfl) (iE (by simp only[zz,reduceCtorEq];rfl))) rfl)) (by exact trivial))) rfl) (ai (ai (afc _) ?_) ?_)
  ·exact fun i hi=>absurd hi (alJ _)
  intro (j:Nat) ⟨hj,hallt⟩
  refine ah (p:=j<c.trs.length) (au (by omega)) (fun g3=>?_) (fun g3=>?_)
  ·refine ai (ai (abq _) (iN (n:=c.trs.length) (by omega))) (ai rfl ?_)
   have hto:=htr _ (adh (bI aF g3))
   refine ei _ (ai (ahJ) (ei ((c,(c.trs.getD j aF).fr)) (ei [] (ai (a4 (ai (fun _=>Or.inl rfl) (ai nof (Or.inl rfl)))) (ai (by exact (ai (ai rfl (ai (ai rfl (fun _ _=>rfl)) (ai (ai rfl (fun _ _=>rfl)) (ai rfl (fun _ _=>rfl))))) (ai rfl (fun _ _=>rfl)))) (ai trivial (ai (hto.1) ?_)))))))
   refine bg (p:=eX c.sts.length (c.trs.getD j aF).fr=0) (bK (by dsimp only;omega)) (fun g4=>?_) (fun g4=>?_)
   ·have e:iJ c (c.trs.getD j aF)=eX c.sts.length (c.trs.getD j aF).fr:=by unfold iJ;rw[if_pos g4]
    refine ai (ai (fun _=>trivial) ?_) trivial
    show ak _ (iP (bD c))
    rw[hA,cB (f:=fun k=>iJ c (c.trs.getD k aF)) g3 hallt (by rw[e];exact g4),e]
    exact rfl
   refine ei _ (ai (ahJ) (ei ((c,(c.trs.getD j aF).to)) (ei [] (ai (a4 (ai (fun _=>Or.inl rfl) (ai nof (Or.inl rfl)))) (ai (by exact (ai (ai rfl (ai (ai rfl (fun _ _=>rfl)) (ai (ai rfl (fun _ _=>rfl)) (ai rfl (fun _ _=>rfl))))) (ai rfl (fun _ _=>rfl)))) (ai trivial (ai (hto.2.1) ?_)))))))
   refine bg (p:=eX c.sts.length (c.trs.getD j aF).to=0) (bK (by dsimp only;omega)) (fun g5=>?_) (fun g5=>?_)
   ·have e:iJ c (c.trs.getD j aF)=eX c.sts.length (c.trs.getD j aF).to:=by unfold iJ;rw[if_neg (fun h=>h g4),if_pos g5]
    refine ai (ai (fun _=>trivial) ?_) trivial
    show ak _ (iP (bD c))
    rw[hA,cB (f:=fun k=>iJ c (c.trs.getD k aF)) g3 hallt (by rw[e];exact g5),e]
    exact rfl
   refine ei (.seq [0,1,2,3,4,5]) (ai (by kernel_rfl) ?_)
   have hsm:wM c:=⟨by omega,by omega,by omega,by omega⟩
   refine ei _ (ai (afI) (ei (c) (ei [] (ai (a4 (ai (fun _=>Or.inl rfl) (ai nof (Or.inl rfl)))) (ai (by exact (ai rfl (ai (ai rfl (fun _ _=>rfl)) (ai (ai rfl (fun _ _=>rfl)) (ai rfl (fun _ _=>rfl)))))) (ai trivial (ai (hsm) ?_)))))))
   refine ei _ (ai (alk) (ei (((c.trs.getD j aF).wh,jR c)) (ei [] (ai (a4 (ai (fun _=>Or.inl rfl) (ai nof (Or.inl rfl)))) (ai (by exact (ai (ai (iE (by simp only[zz,reduceCtorEq])) (ai (iE (by simp only[zz,reduceCtorEq])) (ai rfl (fun _ _=>rfl)))) rfl)) (ai trivial (ai (trivial) ?_)))))))
   have e:iJ c (c.trs.getD j aF)=dn (c.trs.getD j aF).wh (jR c):=by unfold iJ;rw[if_neg (fun h=>h g4),if_neg (fun h=>h g5)]
   refine bg (p:=dn (c.trs.getD j aF).wh (jR c)=0) (bK (by dsimp only;omega)) (fun g6=>?_) (fun g6=>?_)
   ·refine ai (ai (fun _=>trivial) ?_) trivial
    show ak _ (iP (bD c))
    rw[hA,cB (f:=fun k=>iJ c (c.trs.getD k aF)) g3 hallt (by rw[e];exact g6),e]
    exact rfl
   refine ei (j+1) (ai (ai rfl rfl) (ai (ai (ai rfl (ai (ai rfl rfl) (ai (ai rfl rfl) (ai (ai (ai (fun _=>rfl) (aP (by omega))) rfl) trivial)))) rfl) (ai (ai (iL (by omega)) ?_) (iM (by omega)))))
   intro i hi
   by_cases hij:i=j
   ·subst hij;rw[e];exact g6
   ·exact hallt i (by omega)
  ·obtain rfl:j=c.trs.length:=by omega
   refine ai (ai (fun _=>trivial) ?_) trivial
   show ak _ (iP (bD c))
   rw[hA,gD hallt]
   exact rfl
abbrev dec (n : Nat) : List UInt8 := Lib.decDigits n
def adI (n:Nat):List UInt8:=if n=0 then [] else dec n
theorem alY (n:Nat):adI n=if n=0 then [] else adI (n / 10)++[UInt8.ofNat (48+n % 10)]:=by
 unfold adI
 by_cases h:n=0
 ·rw[if_pos h,if_pos h]
 ·rw[if_neg h,if_neg h]
  unfold dec
  rw[Lib.decDigits]
  by_cases h2:n<10
  ·rw[dif_pos h2,if_pos (by omega),atK h2];rfl
  ·rw[dif_neg h2,if_neg (by omega)]
theorem apn (s:List UInt8) (l h:Nat):(strOf s).extract l h=strOf ((s.take h).drop l):=by
 apply ByteArray.ext
 simp only[strOf,ByteArray.data_extract]
 apply Array.ext'
 simp[List.drop_take]
theorem wT:aL Tryz.prog 79 (bT (fun n:Nat=>[iA n]) (fun n=>n<100) (fun n=>sP (dec n))):=
 afY (afb (α:=Nat) Tryz.func79 rfl rfl (vals:=fun n=>[.int .i64 n]) (pre:=fun n=>n<100) (ret:=fun n=>.string (strOf (dec n))) (fun _ _=>rfl)
  fun n hn w=>(Tryz.strconv_Itoa_small n hn w).mono fun e w' h=>by
   obtain ⟨h1,h2⟩:=h
   subst h2
   exact ⟨h1,RowKit.Below.refl _ _⟩) id
  (fun _ _=>rfl) (fun _ _=>rfl) (fun _ _=>rfl) (fun _ _=>rfl) (fun _ h=>h)
def adD (i:Nat) (d:UInt8):List UInt8:=[UInt8.ofNat (97+i),d]
def jo:Nat→List (List UInt8)
 | 0=>[]
 | n+1=>jo n++[adD n 48,adD n 49]
theorem aaG:∀n,(jo n).length=2*n
 | 0=>rfl
 | n+1=>by rw[jo,aaf,aaG n];simp;omega
def yN (k:Nat):List UInt8:=121 :: dec k
def nH:Nat→List (List UInt8)
 | 0=>[]
 | n+1=>nH n++[yN n]
theorem aaL:∀n,(nH n).length=n
 | 0=>rfl
 | n+1=>by rw[nH,aaf,aaL n];rfl
def dO (c:aJ):List (List UInt8):=jo c.act.toNat++c.ins++nH c.sts.length
theorem aa4 {a b:List (List UInt8)} {n:Nat} {f g:Nat→List PV} (hn:n=a.length) (hf:∀k,k<a.length→f k=[sP (a.getD k [])]) (hg:∀k,k<b.length→g k=[sP (b.getD k [])]):∀k,k<(a++b).length→bS n f g k=[sP ((a++b).getD k [])]:=by
 intro k hk
 subst hn
 unfold bS
 by_cases h:k<a.length
 ·rw[if_pos h,hf k h,abo,abo,afk h]
 ·have hb:k-a.length<b.length:=by rw[aaf] at hk;omega
  rw[if_neg h,hg _ hb,abo,abo,agH (by omega)]
def ssR (l:List (List UInt8)):LV:=.rw 9 1 l.length (fun k=>[sP (l.getD k [])])
def abc:List UInt8:=[97,98,99,100,101,102]
theorem arK {d:Nat} (h:d<6):(strOf abc).extract ((d:Int)).toNat (((d+1:Nat):Int)).toNat=strOf [UInt8.ofNat (97+d)]:=by
 rw[arZ,arZ,apn]
 have:∀d:Fin 6,(abc.take (d.1+1)).drop d.1=[UInt8.ofNat (97+d.1)]:=by decide
 exact congrArg strOf (this ⟨d,h⟩)
def ahB (c:aJ):Prop:=1≤c.act∧c.act≤6∧c.ins.length≤1000∧c.sts.length≤99
def as8:Spec:=iO (fun c:aJ=>[jJ c]) ahB (fun c=>ssP (dO c))
theorem apC {x y:List UInt8} {a b:ByteArray} (ha:a=strOf x) (hb:b=strOf y):∀k,k<[x,y].length→bn 1 [.val (.string a),.val (.string b)] k=[sP ([x,y].getD k [])]:=by
 intro k hk
 have hk:k<2:=hk
 subst ha;subst hb
 match k,hk with
 | 0,_=>rfl
 | 1,_=>rfl
theorem ajg {x:List UInt8} {a:ByteArray} (ha:a=strOf x):∀k,k<[x].length→bn 1 [.val (.string a)] k=[sP ([x].getD k [])]:=by
 intro k hk
 have hk:k<1:=hk
 subst ha
 obtain rfl:k=0:=by omega
 rfl
theorem aI {l:List PV} (n:Nat) (h:l.length=n):∀k,k<n→(bn 1 l k).length=1:=by
 intro k hk
 subst h
 induction l generalizing k with
 | nil=>simp at hk
 | cons d l ih=>
  cases k with
  | zero=>rfl
  | succ k=>
   have h1:=ih k (by simpa using hk)
   show (bn 1 (d :: l) (k+1)).length=1
   have:bn 1 (d :: l) (k+1)=bn 1 l k:=by
    unfold bn
    rw[apT,apT];rfl
   rw[this];exact h1
theorem afw {n:Nat} (h:n≤10000):n≤maxLen∧n*16≤140737488355328:=⟨by unfold maxLen;omega,by omega⟩
theorem aqT:aL Tryz.prog 76 as8:=by
 refine aY (Tb:=tab) mixed aB Tryz.func76 rfl rfl ?_
 rintro (c:aJ) hpre
 refine ai (ai rfl (ai rfl rfl)) ?_
 obtain ⟨h1,h2,h3,h4⟩:=hpre
 have h1:1≤c.act:=h1
 have h2:c.act≤6:=h2
 have h3:c.ins.length≤1000:=h3
 have h4:c.sts.length≤99:=h4
 refine ei (bE.inv { X:=Nat,up:=fun i=>[(9,.s (iA i)),(3,ssR (jo i))],uo:=fun i=>[],inv:=fun i=>i≤c.act.toNat∧(True),meas:=fun i=>c.act.toNat-i,x0:=0 }) ?_
 refine ai (ai (ai (by exact (a4 (ai rfl rfl))) (ai (by exact (ai (ai (ai (fun _=>rfl) (iE (by simp only[zz,reduceCtorEq];rfl))) rfl) rfl)) (by exact trivial))) rfl) (ai (ai (afc _) ?_) ?_)
 ·trivial
 intro (i:Nat) ⟨hi,_⟩
 have hln:=aaG i
 refine ah (p:=i<c.act.toNat) (by exact au (by omega)) (fun g1=>?_) (fun g1=>?_)
 ·have hw:IntKind.i64.wrap ((i:Int)+1)=((i+1:Nat):Int):=aP (by omega)
  have hx:(strOf abc).extract ((i:Int)).toNat (IntKind.i64.wrap ((i:Int)+1)).toNat=strOf [UInt8.ofNat (97+i)]:=by rw[hw];exact arK (by omega)
  have hxs:((((strOf abc).extract ((i:Int)).toNat (IntKind.i64.wrap ((i:Int)+1)).toNat).size+1:Nat):Int)≤9223372036854775807:=by rw[hx,dK];show ((1+1:Nat):Int)≤_;decide
  refine ai (ai (abq _) (ai (by rw[hw];omega) (by rw[hw];show ((i+1:Nat):Int)≤6;omega))) ?_
  refine ai hxs (ai hxs ?_)
  refine ai (afw (by show (jo i).length+2≤10000;omega)) (ai (aI 2 rfl) ?_)
  refine ei (i+1) (ai (ai rfl rfl) (ai (ai (ai rfl (ai (ai rfl rfl) (ai (ai rfl rfl) (ai (ai (ai (ai (fun _=>rfl) (aP (by omega))) rfl) (ai rfl (ai rfl (ai ?_ ?_)))) trivial)))) rfl) (ai (ai (iL (by omega)) trivial) (iM (by omega)))))
  ·show (jo i).length+2=(jo (i+1)).length
   rw[jo,aaf];rfl
  ·exact fun k hk=>aa4 (a:=jo i) (b:=[adD i 48,adD i 49]) (n:=(jo i).length) (f:=fun k=>[sP ((jo i).getD k [])]) rfl (fun _ _=>rfl) (apC (x:=adD i 48) (y:=adD i 49) (a:=(strOf abc).extract ((i:Int)).toNat (IntKind.i64.wrap ((i:Int)+1)).toNat++strOf [48]) (b:=(strOf abc).extract ((i:Int)).toNat (IntKind.i64.wrap ((i:Int)+1)).toNat++strOf [49]) (by rw[hx,eD];rfl) (by rw[hx,eD];rfl)) k (by rw[aaf];exact hk)
 ·obtain rfl:i=c.act.toNat:=by omega
  refine ai (afw (by show (jo c.act.toNat).length+c.ins.length≤10000;omega)) (ai (fun _ _=>rfl) ?_)
  refine ei (bE.inv { X:=Nat,up:=fun j=>[(31,.s (iA j)),(3,ssR (jo c.act.toNat++c.ins++nH j))],uo:=fun j=>[],inv:=fun j=>j≤c.sts.length∧(True),meas:=fun j=>c.sts.length-j,x0:=0 }) ?_
  refine ai (ai (ai (by exact (a4 (ai rfl rfl))) (ai ?_ ?_)) rfl) (ai (ai (afc _) ?_) ?_)
  ·refine (ai (ai (ai (fun _=>rfl) (iE (by simp only[zz,reduceCtorEq];rfl))) rfl) (ai rfl (ai rfl (ai ?_ ?_))))
   ·show (jo c.act.toNat).length+c.ins.length=(jo c.act.toNat++c.ins++nH 0).length
    rw[aaf,aaf];rfl
   ·intro k hk
    have:=aa4 (a:=jo c.act.toNat) (b:=c.ins) (n:=(jo c.act.toNat).length) (f:=fun k=>[sP ((jo c.act.toNat).getD k [])]) (g:=fun k=>[sP (c.ins.getD k [])]) rfl (fun _ _=>rfl) (fun _ _=>rfl) k (by rw[aaf];exact hk)
    rw[this]
    show _=[sP ((jo c.act.toNat++c.ins++[]).getD k [])]
    rw[arD]
  ·exact trivial
  ·trivial
  intro (j:Nat) ⟨hj,_⟩
  have hlj:=aaL j
  have hla:(jo c.act.toNat++c.ins++nH j).length=2*c.act.toNat+c.ins.length+j:=by rw[aaf,aaf,hln,hlj]
  refine ah (p:=j<c.sts.length) (au (by omega)) (fun g2=>?_) (fun g2=>?_)
  ·refine ei _ (ai (wT) (ei (j) (ei [] (ai (a4 (ai (fun _=>Or.inl rfl) (ai nof (Or.inl rfl)))) (ai (by exact rfl) (ai trivial (ai ((by show j<100;omega)) ?_)))))))
   have hd:(dec j).length≤2:=by
    have:∀j:Fin 100,(Lib.decDigits j.1).length≤2:=by decide +kernel
    exact this ⟨j,by omega⟩
   refine ai (by show (((strOf [121]).size+(strOf (dec j)).size:Nat):Int)≤9223372036854775807;rw[dK,dK,List.length_singleton];omega) ?_
   refine ai (afw (by show (jo c.act.toNat++c.ins++nH j).length+1≤10000;omega)) (ai (aI 1 rfl) ?_)
   refine ei (j+1) (ai (ai rfl rfl) (ai (ai (ai rfl (ai (ai rfl rfl) (ai (ai rfl rfl) (ai (ai (ai (ai (fun _=>rfl) (aP (by omega))) rfl) (ai rfl (ai rfl (ai ?_ ?_)))) trivial)))) rfl) (ai (ai (iL (by omega)) trivial) (iM (by omega)))))
   ·show (jo c.act.toNat++c.ins++nH j).length+1=(jo c.act.toNat++c.ins++nH (j+1)).length
    rw[nH,aaf,aaf,aaf,aaf,aaf];rfl
   ·have e:jo c.act.toNat++c.ins++nH (j+1)=(jo c.act.toNat++c.ins++nH j)++[yN j]:=by rw[nH];simp
    have:=aa4 (a:=jo c.act.toNat++c.ins++nH j) (b:=[yN j]) rfl (fun _ _=>rfl) (ajg (x:=yN j) (a:=strOf [121]++strOf (dec j)) (by rw[eD];rfl))
    rw[←e] at this
    intro k hk
    exact this k (by rw[e,aaf];exact hk)
  ·obtain rfl:j=c.sts.length:=by omega
   refine ai (ai (fun h=>absurd (show false=true from h) (by decide)) ?_) trivial
   show ak _ (ssP (dO c))
   rw[dO]
   exact (ai rfl (fun _ _=>rfl))
theorem gL {c:aJ} (h:bD c=0):(1≤c.act∧c.act≤6)∧dL c.ins=0∧(0<c.sts.length∧c.sts.length≤24)∧c.trs.length≤32∧(∀k,k<c.sts.length→eU c.act (c.sts.getD k st0)=0)∧∀k,k<c.trs.length→iJ c (c.trs.getD k aF)=0:=by
 unfold bD at h
 split at h
 ·cases h
 split at h
 ·rename_i h1 h2;exact absurd h h2
 split at h
 ·cases h
 split at h
 ·cases h
 split at h
 ·rename_i h1;exact absurd h h1
 rename_i h1 h2 h3 h4 h5
 refine ⟨by omega,aqu.1 h2,by omega,by omega,fun k hk=>nG (aqu.1 h5) k hk,fun k hk=>nG h k hk⟩
theorem aoa {c:aJ} (h:bD c=0):ahB c:=by
 obtain ⟨h1,h2,h3,h4,-⟩:=gL h
 have:=pV h2
 exact ⟨h1.1,h1.2,by omega,by omega⟩
def eP (m:List Bool) (k:Nat):PV:=bP (m.getD k false)
def mQ (m:List Bool):PV:=.arr 24 (eP m)
def uE (m:List Bool):SV:=.p false (mQ m)
theorem nO (g:Nat→PV):∀(n i k:Nat),k<n→(mg g i n)[k]?=some (g (i+k))
 | 0,_,_,h=>by omega
 | n+1,i,0,_=>rfl
 | n+1,i,k+1,h=>by
  show (mg g (i+1) n)[k]?=_
  rw[nO g n (i+1) k (by omega),show i+1+k=i+(k+1) by omega]
theorem aoy (m:List Bool) {k:Nat} (h:k<24):(dW 24 (eP m))[k]?=some (eP m k):=by
 unfold dW;rw[nO _ _ _ _ h,aiF]
def fU (n:Nat) (l:List Int):Prop:=∀k∈l,0≤k∧k<(n:Int)
theorem qp {n:Nat} {l:List Int} (h:fU n l) {k:Nat} (hk:k<l.length):0≤l.getD k 0∧l.getD k 0<(n:Int):=h _ (adh (bI 0 hk))
def fA (m:List Bool) (k:Int):Bool:=m.getD k.toNat false
def allM (m:List Bool) (l:List Int):Bool:=l.all (fA m)
def aqS (m:List Bool):PV:=.fn 161 [.pt (dW 24 (eP m)) 0]
theorem ao3:aL Tryz.prog 161 (bT (fun a:List Bool×Int=>[iA a.2,.p false (.pt (dW 24 (eP a.1)) 0)]) (fun a=>0≤a.2∧a.2<24) (fun a=>bP (!fA a.1 a.2))):=by
 refine aY (Tb:=tab) mixed aB Tryz.func161 rfl rfl ?_
 rintro (a:List Bool×Int) hpre
 refine ai (ai rfl (ai rfl rfl)) ?_
 have h1:0≤a.2:=hpre.1
 have h2:a.2<24:=hpre.2
 refine ai ⟨h1,h2⟩ ?_
 refine ei (eP a.1 a.2.toNat) (ai (by rw[aiF];exact aoy a.1 (by omega)) ?_)
 refine ai (ai (fun _=>trivial) ?_) trivial
 exact rfl
def ar5:Spec:=bT (fun a:List Bool×List Int=>[isA a.2,.p false (aqS a.1)]) (fun a=>fU 24 a.2∧a.2.length≤1000000) (fun a=>iP (jw (fun k=>!fA a.1 k) a.2))
theorem aqf:aL Tryz.prog 106 ar5:=by
 refine aY (Tb:=tab) mixed aB Tryz.func106 rfl rfl ?_
 rintro (a:List Bool×List Int) hpre
 refine ai (ai rfl (ai rfl rfl)) ?_
 obtain ⟨hx,hl⟩:=hpre
 have hl:a.2.length≤1000000:=hl
 refine ei (bE.inv { X:=Nat,up:=fun k=>[(8,.s (iA k))],uo:=fun k=>[],inv:=fun k=>k≤a.2.length∧(∀y∈a.2.take k,(!fA a.1 y)=false),meas:=fun k=>a.2.length-k,x0:=0 }) ?_
 refine ai (ai (ai (by exact (a4 (ai rfl rfl))) (ai (by exact (ai (ai (fun _=>rfl) (iE (by simp only[zz,reduceCtorEq];rfl))) rfl)) (by exact trivial))) rfl) (ai (ai (afc _) ?_) ?_)
 ·exact fun y hy=>absurd hy (by simp)
 intro (k:Nat) ⟨hk,hall⟩
 refine ah (p:=k<a.2.length) (au (by omega)) (fun h1=>?_) (fun h1=>?_)
 ·refine ai (ai (abq _) (iN (n:=a.2.length) (by omega))) (ai rfl ?_)
  refine ei _ (ai (ao3) (ei ((a.1,a.2.getD k 0)) (ei [] (ai (a4 (ai (fun _=>Or.inl rfl) (ai nof (Or.inl rfl)))) (ai (by exact (ai (iE (by simp only[zz,reduceCtorEq])) (ai rfl rfl))) (ai trivial (ai (qp hx h1) ?_)))))))
  refine aX (b:=!fA a.1 (a.2.getD k 0)) rfl (fun h2=>?_) (fun h2=>?_)
  ·refine ai (ai (fun _=>trivial) ?_) trivial
   show ak _ (iP (jw (fun k=>!fA a.1 k) a.2))
   rw[qJ (d:=0) h1 h2 hall]
   exact rfl
  refine ei (k+1) (ai (ai rfl rfl) (ai (ai (ai rfl (ai (ai rfl rfl) (ai (ai rfl rfl) (ai (ai (ai (fun _=>rfl) (aP (by omega))) rfl) trivial)))) rfl) (ai (ai (iL (by omega)) ?_) (iM (by omega)))))
  intro y hy
  rw[aQ 0 h1] at hy
  rcases ahN.1 hy with hy | hy
  ·exact hall y hy
  ·simp only[aiy] at hy;subst hy;exact h2
 ·obtain rfl:k=a.2.length:=by omega
  rw[ahb] at hall
  refine ai (ai (fun _=>trivial) ?_) trivial
  show ak _ (iP (jw (fun k=>!fA a.1 k) a.2))
  rw[tC hall]
  exact rfl
theorem apB:aL Tryz.prog 38 (bT (fun a:List Bool×List Int=>[isA a.2,.p false (aqS a.1)]) (fun a=>fU 24 a.2∧a.2.length≤1000000) (fun a=>bP (a.2.any fun k=>!fA a.1 k))):=by
 refine aY (Tb:=tab) mixed aB Tryz.func38 rfl rfl ?_
 rintro (a:List Bool×List Int) hpre
 refine ai (ai rfl (ai rfl rfl)) ?_
 refine ei _ (ai (aqf) (ei (a) (ei [] (ai (a4 (ai (fun _=>Or.inl rfl) (ai nof (Or.inl rfl)))) (ai (by exact (ai (ai rfl (fun _ _=>rfl)) (ai rfl rfl))) (ai trivial (ai (hpre) ?_)))))))
 refine ai (ai (fun _=>trivial) ?_) trivial
 show ak _ (bP (a.2.any fun k=>!fA a.1 k))
 rw[(qz (fun k=>!fA a.1 k) a.2).symm]
 exact rfl
theorem ahF:aL Tryz.prog 114 (bT (fun a:List Bool×List Int=>[uE a.1,isA a.2]) (fun a=>fU 24 a.2∧a.2.length≤1000000) (fun a=>bP (allM a.1 a.2))):=by
 refine jy [3000006] ?_
 refine aY (Tb:=tab) mixed aB Tryz.func114 rfl rfl ?_
 rintro (a:List Bool×List Int) hpre
 refine ai (ai rfl (ai rfl rfl)) ?_
 refine ei _ (ai (apB) (ei (a) (ei [] (ai (a4 (ai (fun _=>Or.inl rfl) (ai nof (Or.inl rfl)))) (ai (by exact (ai (ai rfl (fun _ _=>rfl)) (ai rfl rfl))) (ai trivial (ai (hpre) ?_)))))))
 refine ai (ai (fun _=>trivial) ?_) trivial
 show ak _ (bP (allM a.1 a.2))
 rw[show allM a.1 a.2=!(a.2.any fun k=>!fA a.1 k) by unfold allM;simp[List.not_any_eq_all_not]]
 exact rfl
def bL (l:List Bool):List Bool:=l++List.replicate (24-l.length) false
theorem oF (l:List Bool) (k:Nat):(bL l).getD k false=l.getD k false:=by
 unfold bL
 rw[abo,abo]
 by_cases h:k<l.length
 ·rw[afk h]
 ·rw[agH (by omega),asF (l:=l) (by omega),atW]
  split<;>rfl
theorem mK {l:List Bool} (h:l.length≤24):(bL l).length=24:=by unfold bL;rw[aaf,atA];omega
def mk0:List Bool:=bL []
def lK (c:aJ) (a:List Bool):Int:=if ¬bD c=0 then bD c else if ¬a.length=c.sts.length then 8 else 0
def kR (c:aJ) (a:List Bool):List Bool:=if lK c a=0 then bL a else mk0
def as3:Spec:=iO (fun a:aJ×List Bool=>[jJ a.1,ql a.2]) (fun a=>jd a.1) (fun a=>.tup [mQ (kR a.1 a.2),iP (lK a.1 a.2)])
theorem ai7:∀k,k<24→jZ (vals (List.replicate 24 (.bool false))) k=eP mk0 k:=by
 intro k hk
 rw[sV,adC 24 _ hk]
 unfold eP mk0
 rw[oF];rfl
theorem qD {c:aJ} {a:List Bool} (h:lK c a=0):bD c=0∧a.length=c.sts.length∧a.length≤24:=by
 unfold lK at h
 split at h
 ·rename_i h1;exact absurd h h1
 ·rename_i h1
  split at h
  ·cases h
  ·rename_i h2
   have h1:=aqu.1 h1
   have h2:=aqu.1 h2
   have:=(gL h1).2.2.1.2
   exact ⟨h1,h2,by omega⟩
theorem apV {l:List Bool} (h:l.length≤24):∀k,k<24→aaJ (jZ (vals (List.replicate 24 (.bool false)))) 0 (Nat.min l.length 24) (fun k=>[bP (l.getD k false)]) k=eP (bL l) k:=by
 intro k hk
 unfold aaJ
 have hm:Nat.min l.length 24=l.length:=atP h
 rw[hm]
 unfold eP
 rw[oF]
 by_cases hk2:k<l.length
 ·rw[if_pos ⟨afc _,by omega⟩,atw];rfl
 ·rw[if_neg (by omega),sV,adC 24 _ hk,abo,asF (by omega)];rfl
theorem akW:aL Tryz.prog 110 as3:=by
 refine aY (Tb:=tab) mixed aB Tryz.func110 rfl rfl ?_
 rintro (a:aJ×List Bool) hpre
 refine ai (ai rfl (ai rfl rfl)) ?_
 refine ei _ (ai (ahd) (ei (a.1) (ei [] (ai (a4 (ai (fun _=>Or.inl rfl) (ai nof (Or.inl rfl)))) (ai (by exact (ai rfl (ai (ai rfl (fun _ _=>rfl)) (ai (ai rfl (fun _ _=>rfl)) (ai rfl (fun _ _=>rfl)))))) (ai trivial (ai (hpre) ?_)))))))
 refine bg (p:=bD a.1=0) (bK (by omega)) (fun h1=>?_) (fun h1=>?_)
 ·have e:lK a.1 a.2=bD a.1:=by unfold lK;rw[if_pos h1]
  refine ai (ai (fun h=>absurd (show false=true from h) (by decide)) ?_) trivial
  show ak _ (.tup [mQ (kR a.1 a.2),iP (lK a.1 a.2)])
  rw[kR,e,if_neg h1]
  refine (ai (ai rfl ?_) rfl)
  exact ai7
 refine bg (p:=a.2.length=a.1.sts.length) (bK (by omega)) (fun h2=>?_) (fun h2=>?_)
 ·have e:lK a.1 a.2=8:=by unfold lK;rw[if_neg (fun h=>h h1),if_pos h2]
  refine ai (ai (fun h=>absurd (show false=true from h) (by decide)) ?_) trivial
  show ak _ (.tup [mQ (kR a.1 a.2),iP (lK a.1 a.2)])
  rw[kR,e,if_neg (show ¬(8:Int)=0 by decide)]
  refine (ai (ai rfl ?_) rfl)
  exact ai7
 have e:lK a.1 a.2=0:=by unfold lK;rw[if_neg (fun h=>h h1),if_neg (fun h=>h h2)]
 refine ai (ai (by decide) (ai (by decide) (by decide))) ?_
 refine ai (ai rfl (fun _ _=>rfl)) ?_
 refine ai (ai (fun h=>absurd (show false=true from h) (by decide)) ?_) trivial
 show ak _ (.tup [mQ (kR a.1 a.2),iP (lK a.1 a.2)])
 rw[kR,e,if_pos rfl]
 refine (ai (ai rfl ?_) rfl)
 exact apV (qD e).2.2
def jl (c:aJ) (a v:List Bool):Int:=if ¬lK c a=0 then lK c a else if ¬(v.length:Int)=jR c then 8 else 0
def asR:Spec:=iO (fun a:aJ×List Bool×List Bool=>[jJ a.1,ql a.2.1,ql a.2.2]) (fun a=>jd a.1) (fun a=>.tup [mQ (kR a.1 a.2.1),iP (jl a.1 a.2.1 a.2.2)])
theorem ado {c:aJ} (h:bD c=0):wM c:=by
 obtain ⟨h1,h2,h3,h4,-⟩:=gL h
 have:=pV h2
 exact ⟨by omega,by omega,by omega,by omega⟩
theorem agX:aL Tryz.prog 112 asR:=by
 refine aY (Tb:=tab) mixed aB Tryz.func112 rfl rfl ?_
 rintro (a:aJ×List Bool×List Bool) hpre
 refine ai (ai rfl (ai rfl rfl)) ?_
 refine ei _ (ai (akW) (ei ((a.1,a.2.1)) (ei [] (ai (a4 (ai (fun _=>Or.inl rfl) (ai nof (Or.inl rfl)))) (ai (by exact (ai (ai rfl (ai (ai rfl (fun _ _=>rfl)) (ai (ai rfl (fun _ _=>rfl)) (ai rfl (fun _ _=>rfl))))) (ai rfl (fun _ _=>rfl)))) (ai trivial (ai (hpre) ?_)))))))
 refine ah (p:=lK a.1 a.2.1=0) (gB (by dsimp only;omega)) (fun h1=>?_) (fun h1=>?_)
 ·refine ei _ (ai (aiJ) (ei (a.1) (ei [] (ai (a4 (ai (fun _=>Or.inl rfl) (ai nof (Or.inl rfl)))) (ai (by exact (ai rfl (ai (ai rfl (fun _ _=>rfl)) (ai (ai rfl (fun _ _=>rfl)) (ai rfl (fun _ _=>rfl)))))) (ai trivial (ai (ado (qD h1).1) ?_)))))))
  refine bg (p:=(a.2.2.length:Int)=jR a.1) (bK (by omega)) (fun h2=>?_) (fun h2=>?_)
  ·have e:jl a.1 a.2.1 a.2.2=8:=by unfold jl;rw[if_neg (fun h=>h h1),if_pos h2]
   refine ai (ai (fun h=>absurd (show false=true from h) (by decide)) ?_) trivial
   show ak _ (.tup [mQ (kR a.1 a.2.1),iP (jl a.1 a.2.1 a.2.2)])
   rw[e]
   exact (ai (ai rfl (fun _ _=>rfl)) rfl)
  ·have e:jl a.1 a.2.1 a.2.2=0:=by unfold jl;rw[if_neg (fun h=>h h1),if_neg (fun h=>h h2)]
   refine ai (ai (fun h=>absurd (show false=true from h) (by decide)) ?_) trivial
   show ak _ (.tup [mQ (kR a.1 a.2.1),iP (jl a.1 a.2.1 a.2.2)])
   rw[e]
   exact (ai (ai rfl (fun _ _=>rfl)) (iE (by simp only[zz,reduceCtorEq];omega)))
 ·have e:jl a.1 a.2.1 a.2.2=lK a.1 a.2.1:=by unfold jl;rw[if_pos h1]
  refine ai (ai (fun h=>absurd (show false=true from h) (by decide)) ?_) trivial
  show ak _ (.tup [mQ (kR a.1 a.2.1),iP (jl a.1 a.2.1 a.2.2)])
  rw[e]
  exact (ai (ai rfl (fun _ _=>rfl)) rfl)
theorem afF {n:Nat} {f g:Nat→List PV}:∀k,k<0+n→bS 0 f g k=g k:=fun k hk=>by
 unfold bS;rw[if_neg (alJ _),atw]
def asn:Spec:=bT (fun l:List (Bool)=>[ql l]) (fun l=>l.length≤1000000) (fun l=>kJ l)
theorem ape:aL Tryz.prog 40 asn:=by
 refine aY (Tb:=tab) mixed aB Tryz.func40 rfl rfl ?_
 rintro (l:List (Bool)) hpre
 refine ai (ai rfl (ai rfl rfl)) ?_
 have hl:l.length≤1000000:=hpre
 intro b hb
 refine aZ (fun h1=>?_) (fun h1=>?_)
 ·have h1:l.length=0:=hb h1
  refine ai (ai (fun _=>trivial) ?_) trivial
  show ak _ (kJ l)
  rw[aqH.1 h1]
  exact rfl
 ·refine ai (mxL (n:=0+l.length) (by omega) (by decide)) (ai (fun _ _=>rfl) ?_)
  refine ai (ai (fun _ k hk=>by rw[afF k hk];rfl) ?_) trivial
  refine (ai ?_ (fun _ _=>rfl))
  exact aiF _
def asS:Spec:=bT (fun a:aJ×List Bool=>[jJ a.1,uE a.2]) (fun a=>a.1.sts.length≤24∧a.2.length=24) (fun a=>kJ (a.2.take a.1.sts.length))
theorem ad1:aL Tryz.prog 98 asS:=by
 refine aY (Tb:=tab) mixed aB Tryz.func98 rfl rfl ?_
 rintro (a:aJ×List Bool) hpre
 refine ai (ai rfl (ai rfl rfl)) ?_
 obtain ⟨h1,h2⟩:=hpre
 have h1:a.1.sts.length≤24:=h1
 have h2:a.2.length=24:=h2
 refine ai (ai (by decide) (ai (abq _) (by show (a.1.sts.length:Int)≤24;omega))) ?_
 have htl:(a.2.take a.1.sts.length).length=a.1.sts.length:=by rw[ajz];omega
 refine ei _ (ai (ape) (ei (a.2.take a.1.sts.length) (ei [] (ai (ai rfl (ai rfl (ai rfl (ai rfl (ai (fun _=>Or.inl rfl) (ai (fun _=>ai rfl rfl) (Or.inl rfl))))))) (ai ?_ (ai (by exact trivial) (ai ((by show (a.2.take a.1.sts.length).length≤1000000;omega)) ?_)))))))
 ·refine (ai rfl (ai ?_ ?_))
  ·show ((a.1.sts.length:Int)).toNat-(0:Int).toNat=(a.2.take a.1.sts.length).length
   rw[htl];simp
  ·intro k hk
   have hk:k<((a.1.sts.length:Int)).toNat-(0:Int).toNat:=hk
   have hk:k<a.1.sts.length:=by simpa using hk
   show [bP (a.2.getD ((0:Int).toNat+k) false)]=[bP ((a.2.take a.1.sts.length).getD k false)]
   rw[show (0:Int).toNat+k=k by simp,abo,abo,alD,if_pos hk]
 refine ai (ai (fun _=>trivial) ?_) trivial
 exact (ai rfl (fun _ _=>rfl))
def isR (l:List Int):LV:=.rw 3 1 l.length (fun k=>[iP (l.getD k 0)])
theorem adS {a b:List Int} {n:Nat} {f g:Nat→List PV} (hn:n=a.length) (hf:∀k,k<a.length→f k=[iP (a.getD k 0)]) (hg:∀k,k<b.length→g k=[iP (b.getD k 0)]):∀k,k<(a++b).length→bS n f g k=[iP ((a++b).getD k 0)]:=by
 intro k hk
 subst hn
 unfold bS
 by_cases h:k<a.length
 ·rw[if_pos h,hf k h,abo,abo,afk h]
 ·have hb:k-a.length<b.length:=by rw[aaf] at hk;omega
  rw[if_neg h,hg _ hb,abo,abo,agH (by omega)]
theorem ai5 (a:List Int) (x:Int):∀k,k<a.length+1→bS a.length (fun k=>[iP (a.getD k 0)]) (bn 1 [iP x]) k=[iP ((a++[x]).getD k 0)]:=fun k hk=>
 adS (a:=a) (b:=[x]) rfl (fun _ _=>rfl) (fun j hj=>by
  have hj:j<1:=hj
  obtain rfl:j=0:=by omega
  rfl) k (by rw[aaf];exact hk)
def pE (c:aJ) (m vs:List Bool) (i:Nat):Bool:=allM m (c.trs.getD i aF).fr&&eG vs (c.trs.getD i aF).wh
def dD (p:Nat→Bool):Nat→List Int
 | 0=>[]
 | n+1=>if p n then dD p n++[(n:Int)] else dD p n
theorem xQ (p:Nat→Bool):∀n,(dD p n).length≤n
 | 0=>aha _
 | n+1=>by
  have:=xQ p n
  rw[dD];split
  ·rw[aaf];simp;omega
  ·omega
def atf:Spec:=iO (fun a:aJ×List Bool×List Bool=>[jJ a.1,uE a.2.1,ql a.2.2]) (fun a=>bD a.1=0∧jd a.1∧(a.2.2.length:Int)=jR a.1) (fun a=>.tup [jD (dD (pE a.1 a.2.1 a.2.2) a.1.trs.length),iP 0])
theorem aaP {n:Nat} {l:List Int} (h:eX n l=0) (hn:n≤24):fU 24 l∧fU n l∧0<l.length:=by
 unfold eX at h
 split at h
 ·cases h
 ·rename_i h0
  have h1:=nG h
  have:fU n l:=by
   intro k hk
   obtain ⟨i,hi,rfl⟩:=arp hk
   have h2:=h1 i hi
   unfold mH at h2
   have hg:l.getD i 0=l[i]:=by rw[abo,abn hi];rfl
   rw[hg] at h2
   split at h2
   ·cases h2
   ·omega
  exact ⟨fun k hk=>by have:=this k hk;omega,this,by omega⟩
theorem apO {c:aJ} {t:jP} (h:iJ c t=0) (hn:c.sts.length≤24):(fU 24 t.fr∧fU c.sts.length t.fr)∧(fU 24 t.to∧fU c.sts.length t.to)∧dn t.wh (jR c)=0:=by
 unfold iJ at h
 split at h
 ·rename_i h1;exact absurd h h1
 rename_i h1
 split at h
 ·rename_i h2;exact absurd h h2
 rename_i h2
 have g1:=aaP (aqu.1 h1) hn
 have g2:=aaP (aqu.1 h2) hn
 exact ⟨⟨g1.1,g1.2.1⟩,⟨g2.1,g2.2.1⟩,h⟩
theorem kM {c:aJ} (h:bD c=0) {i:Nat} (hi:i<c.trs.length):(fU 24 (c.trs.getD i aF).fr∧fU c.sts.length (c.trs.getD i aF).fr)∧(fU 24 (c.trs.getD i aF).to∧fU c.sts.length (c.trs.getD i aF).to)∧dn (c.trs.getD i aF).wh (jR c)=0:=by
 obtain ⟨_,_,h3,_,_,h6⟩:=gL h
 exact apO (h6 i hi) h3.2
theorem qI {c:aJ} (h:jd c) {i:Nat} (hi:i<c.trs.length):akt (c.trs.getD i aF):=h.2 _ (adh (bI aF hi))
theorem enabled_ok:aL Tryz.prog 113 atf:=by
 refine aY (Tb:=tab) mixed aB Tryz.func113 rfl rfl ?_
 rintro (a:aJ×List Bool×List Bool) hpre
 refine ai (ai rfl (ai rfl rfl)) ?_
 obtain ⟨hc,ho,hv⟩:=hpre
 have hc:bD a.1=0:=hc
 have ho:jd a.1:=ho
 have hv:(a.2.2.length:Int)=jR a.1:=hv
 have h32:=(gL hc).2.2.2.1
 refine ei (bE.inv { X:=Nat,up:=fun k=>[(16,.s (iA k)),(8,isR (dD (pE a.1 a.2.1 a.2.2) k))],uo:=fun k=>[],inv:=fun k=>k≤a.1.trs.length∧(True),meas:=fun k=>a.1.trs.length-k,x0:=0 }) ?_
 refine ai (ai (ai (by exact (a4 (ai rfl rfl))) (ai (by exact (ai (ai (ai (fun _=>rfl) (iE (by simp only[zz,reduceCtorEq];rfl))) rfl) rfl)) (by exact trivial))) rfl) (ai (ai (afc _) ?_) ?_)
 ·trivial
 intro (k:Nat) ⟨hk,_⟩
 have hfl:=xQ (pE a.1 a.2.1 a.2.2) k
 refine ah (p:=k<a.1.trs.length) (au (by omega)) (fun h1=>?_) (fun h1=>?_)
 ·refine ai (ai (abq _) (iN (n:=a.1.trs.length) (by omega))) (ai rfl ?_)
  obtain ⟨g1,g2,g3⟩:=kM hc h1
  have hto:=qI ho h1
  have hP:pE a.1 a.2.1 a.2.2 k=(allM a.2.1 (a.1.trs.getD k aF).fr&&eG a.2.2 (a.1.trs.getD k aF).wh):=rfl
  refine ei _ (ai (ahF) (ei ((a.2.1,(a.1.trs.getD k aF).fr)) (ei [] (ai (a4 (ai (fun _=>Or.inl rfl) (ai nof (Or.inl rfl)))) (ai (by exact (ai (ai rfl (fun _ _=>rfl)) (ai rfl (fun _ _=>rfl)))) (ai trivial (ai (⟨g1.1,hto.1⟩) ?_)))))))
  refine aX (b:=!allM a.2.1 (a.1.trs.getD k aF).fr) rfl (fun h2=>?_) (fun h2=>?_)
  ·have h2:allM a.2.1 (a.1.trs.getD k aF).fr=false:=by simpa using h2
   have e:dD (pE a.1 a.2.1 a.2.2) (k+1)=dD (pE a.1 a.2.1 a.2.2) k:=by rw[dD,if_neg (by rw[hP,h2,aqA];decide)]
   refine ei (k+1) (ai (ai rfl rfl) (ai (ai (ai rfl (ai (ai rfl rfl) (ai (ai rfl rfl) (ai (ai (ai (ai (fun _=>rfl) (aP (by omega))) rfl) (ai rfl (ai rfl (ai ?_ ?_)))) trivial)))) rfl) (ai (ai (iL (by omega)) trivial) (iM (by omega)))))
   ·rw[e]
   ·rw[e];exact fun _ _=>rfl
  have h2:allM a.2.1 (a.1.trs.getD k aF).fr=true:=by simpa using h2
  have hev:oz (a.1.trs.getD k aF).wh a.2.2=(eG a.2.2 (a.1.trs.getD k aF).wh,0):=by unfold oz;rw[hv,if_pos g3]
  refine ei _ (ai ((aaC apm ((a.1.trs.getD k aF).wh,a.2.2) hto.2.2 (by show PV.tup [bP (oz (a.1.trs.getD k aF).wh a.2.2).1,iP (oz (a.1.trs.getD k aF).wh a.2.2).2]=_;rw[hev]))) (ei (()) (ei [] (ai (a4 (ai (fun _=>Or.inl rfl) (ai nof (Or.inl rfl)))) (ai (by exact (ai (ai (iE (by simp only[zz,reduceCtorEq])) (ai (iE (by simp only[zz,reduceCtorEq])) (ai rfl (fun _ _=>rfl)))) (ai rfl (fun _ _=>rfl)))) (ai trivial (ai (trivial) ?_)))))))
  refine aX (b:=eG a.2.2 (a.1.trs.getD k aF).wh) rfl (fun h3=>?_) (fun h3=>?_)
  ·have e:dD (pE a.1 a.2.1 a.2.2) (k+1)=dD (pE a.1 a.2.1 a.2.2) k++[(k:Int)]:=by rw[dD,if_pos (by rw[hP,h2,h3];rfl)]
   refine ai (mxL (n:=(dD (pE a.1 a.2.1 a.2.2) k).length+1) (by omega) (by decide)) (ai (aI 1 rfl) ?_)
   refine ei (k+1) (ai (ai rfl rfl) (ai (ai (ai rfl (ai (ai rfl rfl) (ai (ai rfl rfl) (ai (ai (ai (ai (fun _=>rfl) (aP (by omega))) rfl) (ai rfl (ai rfl (ai ?_ ?_)))) trivial)))) rfl) (ai (ai (iL (by omega)) trivial) (iM (by omega)))))
   ·rw[e,aaf];rfl
   ·rw[e];exact ai5 _ _
  ·have e:dD (pE a.1 a.2.1 a.2.2) (k+1)=dD (pE a.1 a.2.1 a.2.2) k:=by rw[dD,if_neg (by rw[hP,h3,aq7];decide)]
   refine ei (k+1) (ai (ai rfl rfl) (ai (ai (ai rfl (ai (ai rfl rfl) (ai (ai rfl rfl) (ai (ai (ai (ai (fun _=>rfl) (aP (by omega))) rfl) (ai rfl (ai rfl (ai ?_ ?_)))) trivial)))) rfl) (ai (ai (iL (by omega)) trivial) (iM (by omega)))))
   ·rw[e]
   ·rw[e];exact fun _ _=>rfl
 ·obtain rfl:k=a.1.trs.length:=by omega
  refine ai (ai (fun _=>(by exact (ai (fun _ _=>rfl) trivial))) ?_) trivial
  exact (ai (ai rfl (fun _ _=>rfl)) rfl)
def ako (c:aJ) (a v:List Bool):List Int:=if jl c a v=0 then dD (pE c a v) c.trs.length else []
def abJ (c:aJ) (a v:List Bool):PV:=.tup [jD (ako c a v),iP (jl c a v)]
def asX:Spec:=iO (fun a:aJ×List Bool×List Bool=>[jJ a.1,ql a.2.1,ql a.2.2]) (fun a=>jd a.1) (fun a=>abJ a.1 a.2.1 a.2.2)
theorem adB {c:aJ} {a v:List Bool} (h:jl c a v=0):lK c a=0∧(v.length:Int)=jR c:=by
 unfold jl at h
 split at h
 ·rename_i h1;exact absurd h h1
 ·rename_i h1
  split at h
  ·cases h
  ·rename_i h2;exact ⟨aqu.1 h1,aqu.1 h2⟩
theorem anM (a:List Bool) (k:Int):fA (bL a) k=fA a k:=oF a k.toNat
theorem abN (a:List Bool) (l:List Int):allM (bL a) l=allM a l:=by
 unfold allM;rw[show fA (bL a)=fA a from funext (anM a)]
theorem alF (c:aJ) (a v:List Bool):pE c (bL a) v=pE c a v:=by
 funext i;unfold pE;rw[abN]
theorem akN:aL Tryz.prog 48 asX:=by
 refine aY (Tb:=tab) mixed aB Tryz.func48 rfl rfl ?_
 rintro (a:aJ×List Bool×List Bool) hpre
 refine ai (ai rfl (ai rfl rfl)) ?_
 refine ei _ (ai (agX) (ei (a) (ei [] (ai (a4 (ai (fun _=>Or.inl rfl) (ai nof (Or.inl rfl)))) (ai (by exact (ai (ai rfl (ai (ai rfl (fun _ _=>rfl)) (ai (ai rfl (fun _ _=>rfl)) (ai rfl (fun _ _=>rfl))))) (ai (ai rfl (fun _ _=>rfl)) (ai rfl (fun _ _=>rfl))))) (ai trivial (ai (hpre) ?_)))))))
 refine bg (p:=jl a.1 a.2.1 a.2.2=0) (bK (by omega)) (fun h1=>?_) (fun h1=>?_)
 ·refine ai (ai (fun h=>absurd (show false=true from h) (by decide)) ?_) trivial
  show ak _ (abJ a.1 a.2.1 a.2.2)
  rw[abJ,ako,if_neg h1]
  exact (ai rfl rfl)
 obtain ⟨g1,g2⟩:=adB h1
 have e1:kR a.1 a.2.1=bL a.2.1:=if_pos g1
 refine ei _ (ai ((jc enabled_ok (a.1,kR a.1 a.2.1,a.2.2) ⟨(qD g1).1,hpre,g2⟩ (r:=.tup [jD (dD (pE a.1 a.2.1 a.2.2) a.1.trs.length),iP 0]) (by show PV.tup [jD (dD (pE a.1 (kR a.1 a.2.1) a.2.2) a.1.trs.length),iP 0]=_;rw[e1,alF]))) (ei (()) (ei [] (ai (a4 (ai (fun _=>Or.inl rfl) (ai nof (Or.inl rfl)))) (ai (by exact (ai (ai rfl (ai (ai rfl (fun _ _=>rfl)) (ai (ai rfl (fun _ _=>rfl)) (ai rfl (fun _ _=>rfl))))) (ai (ai rfl (fun _ _=>rfl)) (ai rfl (fun _ _=>rfl))))) (ai trivial (ai (trivial) ?_)))))))
 refine ai (ai (fun h=>absurd (show false=true from h) (by decide)) ?_) trivial
 show ak _ (abJ a.1 a.2.1 a.2.2)
 rw[abJ,ako,if_pos h1,h1]
 exact (ai (ai rfl (fun _ _=>rfl)) rfl)
def bH (m:List Bool) (l:List Int) (b:Bool):List Bool:=l.foldl (fun m k=>m.set k.toNat b) m
theorem dR (b:Bool):∀(l:List Int) (m:List Bool),(bH m l b).length=m.length
 | [],_=>rfl
 | k :: l,m=>by
  show (bH (m.set k.toNat b) l b).length=_
  rw[dR b l,atF]
theorem pU (m:List Bool) (l:List Int) (k:Int) (b:Bool):bH m (l++[k]) b=(bH m l b).set k.toNat b:=by unfold bH;rw[asK];rfl
theorem aaV {m:List Bool} (hm:m.length=24) {j:Nat} (hj:j<24) (b:Bool) (k:Nat):oH (eP m) j (bP b) k=eP (m.set j b) k:=by
 unfold oH eP
 rw[abo,abo,atS]
 by_cases h:k=j
 ·rw[if_pos h,if_pos h.symm,if_pos (by omega)];rfl
 ·rw[if_neg h,if_neg (fun e=>h e.symm)]
def nT (m:List Bool) (t:jP):List Bool:=bH (bH m t.fr false) t.to true
def bf (c:aJ) (m:List Bool) (i:Nat):List Bool×Bool:=if allM m (c.trs.getD i aF).fr then (nT m (c.trs.getD i aF),true) else (m,false)
def mkO (m:List Bool):Ob:=.arr 117 24 (eP m)
def atg:Spec:=iO (fun a:aJ×List Bool×Nat=>[jJ a.1,uE a.2.1,iA a.2.2]) (fun a=>bD a.1=0∧jd a.1∧a.2.1.length=24∧a.2.2<a.1.trs.length) (fun a=>.tup [mQ (bf a.1 a.2.1 a.2.2).1,bP (bf a.1 a.2.1 a.2.2).2])
theorem amh:aL Tryz.prog 61 atg:=by
 refine aY (Tb:=tab) mixed aB Tryz.func61 rfl rfl ?_
 rintro ⟨c,m,i⟩ hpre
 refine ai (ai rfl (ai rfl rfl)) ?_
 obtain ⟨hc,ho,hm,hi⟩:=hpre
 have hc:bD c=0:=hc
 have ho:jd c:=ho
 have hm:m.length=24:=hm
 have hi:i<c.trs.length:=hi
 obtain ⟨g1,g2,g3⟩:=kM hc hi
 have hto:=qI ho hi
 refine ai (ai (abq _) (iN (n:=c.trs.length) (by omega))) (ai rfl ?_)
 refine ei _ (ai (ahF) (ei ((m,(c.trs.getD i aF).fr)) (ei [] (ai (a4 (ai (fun _=>Or.inl rfl) (ai nof (Or.inl rfl)))) (ai (by exact (ai (ai rfl (fun _ _=>rfl)) (ai rfl (fun _ _=>rfl)))) (ai trivial (ai (⟨g1.1,hto.1⟩) ?_)))))))
 refine aX (b:=!allM m (c.trs.getD i aF).fr) rfl (fun h2=>?_) (fun h2=>?_)
 ·have h2:allM m (c.trs.getD i aF).fr=false:=by simpa using h2
  have e:bf c m i=(m,false):=by unfold bf;rw[h2];rfl
  refine ai (ai (fun h=>absurd (show false=true from h) (by decide)) ?_) trivial
  show ak _ (.tup [mQ (bf c m i).1,bP (bf c m i).2])
  rw[e]
  exact (ai (ai rfl (fun _ _=>rfl)) rfl)
 have h2:allM m (c.trs.getD i aF).fr=true:=by simpa using h2
 have e:bf c m i=(nT m (c.trs.getD i aF),true):=by unfold bf;rw[h2];rfl
 have hf:(c.trs.getD i aF).fr.length≤1000000:=hto.1
 have ht:(c.trs.getD i aF).to.length≤1000000:=hto.2.1
 refine ei (bE.inv { X:=Nat,up:=fun k=>[(27,.s (iA k))],uo:=fun k=>[⟨1,117,[.ob (mkO (bH m ((c.trs.getD i aF).fr.take k) false))]⟩],inv:=fun k=>k≤(c.trs.getD i aF).fr.length∧(True),meas:=fun k=>(c.trs.getD i aF).fr.length-k,x0:=0 }) ?_
 refine ai (ai (ai (by exact (a4 (ai rfl rfl))) (ai ?_ ?_)) rfl) (ai (ai (afc _) ?_) ?_)
 ·exact (ai (ai (fun _=>rfl) (iE (by simp only[zz,reduceCtorEq];rfl))) rfl)
 ·exact (ai (ai rfl (ai rfl (fun _ _=>rfl))) trivial)
  skip
 ·trivial
 intro (k:Nat) ⟨hk,_⟩
 refine ah (p:=k<(c.trs.getD i aF).fr.length) (by simp only[zz,reduceCtorEq];omega) (fun h3=>?_) (fun h3=>?_)
 ·refine ai (ai (abq _) (iN (n:=(c.trs.getD i aF).fr.length) (by omega))) (ai rfl ?_)
  have hx:=qp g1.1 h3
  have h24:((c.trs.getD i aF).fr.getD k 0).toNat<24:=by omega
  refine ai hx ?_
  refine ai (by show 0+((c.trs.getD i aF).fr.getD k 0).toNat*1<24;omega) ?_
  refine ei (k+1) (ai (ai rfl rfl) (ai (ai (ai rfl (ai (ai rfl rfl) (ai (ai rfl rfl) (ai (ai (ai (fun _=>rfl) (aP (by omega))) rfl) (ai (ai rfl (ai rfl ?_)) trivial))))) rfl) (ai (ai (iL (by omega)) trivial) (iM (by omega)))))
  intro q hq
  show oH (eP (bH m ((c.trs.getD i aF).fr.take k) false)) (0+((c.trs.getD i aF).fr.getD k 0).toNat*1) (bP false) q=eP (bH m ((c.trs.getD i aF).fr.take (k+1)) false) q
  rw[aiF,apT,aaV (by rw[dR];exact hm) h24,aQ 0 h3,pU]
 ·obtain rfl:k=(c.trs.getD i aF).fr.length:=by omega
  rw[ahb]
  refine ei (bE.inv { X:=Nat,up:=fun j=>[(37,.s (iA j))],uo:=fun j=>[⟨1,117,[.ob (mkO (bH (bH m (c.trs.getD i aF).fr false) ((c.trs.getD i aF).to.take j) true))]⟩],inv:=fun j=>j≤(c.trs.getD i aF).to.length∧(True),meas:=fun j=>(c.trs.getD i aF).to.length-j,x0:=0 }) ?_
  refine ai (ai (ai (by exact (a4 (ai rfl rfl))) (ai ?_ ?_)) rfl) (ai (ai (afc _) ?_) ?_)
  ·exact (ai (ai (fun _=>rfl) (iE (by simp only[zz,reduceCtorEq];rfl))) rfl)
  ·exact (ai (ai rfl (ai rfl (fun _ _=>rfl))) trivial)
   skip
  ·trivial
  intro (j:Nat) ⟨hk,_⟩
  refine ah (p:=j<(c.trs.getD i aF).to.length) (by simp only[zz,reduceCtorEq];omega) (fun h3=>?_) (fun h3=>?_)
  ·refine ai (ai (abq _) (iN (n:=(c.trs.getD i aF).to.length) (by omega))) (ai rfl ?_)
   have hx:=qp g2.1 h3
   have h24:((c.trs.getD i aF).to.getD j 0).toNat<24:=by omega
   refine ai hx ?_
   refine ai (by show 0+((c.trs.getD i aF).to.getD j 0).toNat*1<24;omega) ?_
   refine ei (j+1) (ai (ai rfl rfl) (ai (ai (ai rfl (ai (ai rfl rfl) (ai (ai rfl rfl) (ai (ai (ai (fun _=>rfl) (aP (by omega))) rfl) (ai (ai rfl (ai rfl ?_)) trivial))))) rfl) (ai (ai (iL (by omega)) trivial) (iM (by omega)))))
   intro q hq
   show oH (eP (bH (bH m (c.trs.getD i aF).fr false) ((c.trs.getD i aF).to.take j) true)) (0+((c.trs.getD i aF).to.getD j 0).toNat*1) (bP true) q=eP (bH (bH m (c.trs.getD i aF).fr false) ((c.trs.getD i aF).to.take (j+1)) true) q
   rw[aiF,apT,aaV (by rw[dR];exact (dR _ _ _).trans hm) h24,aQ 0 h3,pU]
  ·obtain rfl:j=(c.trs.getD i aF).to.length:=by omega
   rw[ahb]
   refine ai (ai (fun h=>absurd (show false=true from h) (by decide)) ?_) trivial
   show ak _ (.tup [mQ (bf c m i).1,bP (bf c m i).2])
   rw[e]
   exact (ai (ai rfl (fun _ _=>rfl)) rfl)
def ara (m:List Bool) (t:jP):PV:=.fn 125 [.pt (dW 24 (eP m)) 0,.pt (trK t) 0]
def fB (l:List Int) (k:Int):Bool:=l.any fun y=>k==y
def nJ (m:List Bool) (t:jP) (k:Int):Bool:=fA m k&&!fB t.fr k
theorem aqd:aL Tryz.prog 125 (bT (fun a:(List Bool×jP)×Int=>[iA a.2,.p false (.pt (dW 24 (eP a.1.1)) 0),.p false (.pt (trK a.1.2) 0)]) (fun a=>(0≤a.2∧a.2<24)∧a.1.2.fr.length≤1000000) (fun a=>bP (nJ a.1.1 a.1.2 a.2))):=by
 refine aY (Tb:=tab) mixed aB Tryz.func125 rfl rfl ?_
 rintro (a:(List Bool×jP)×Int) hpre
 refine ai (ai rfl (ai rfl rfl)) ?_
 obtain ⟨⟨h1,h2⟩,h3⟩:=hpre
 have h1:0≤a.2:=h1
 have h2:a.2<24:=h2
 refine ai ⟨h1,h2⟩ ?_
 refine ei (eP a.1.1 a.2.toNat) (ai (by rw[aiF];exact aoy a.1.1 (by omega)) ?_)
 refine aX (b:=fA a.1.1 a.2) rfl (fun h4=>?_) (fun h4=>?_)
 ·refine ei _ (ai (aix) (ei ((a.1.2.fr,a.2)) (ei [] (ai (a4 (ai (fun _=>Or.inl rfl) (ai nof (Or.inl rfl)))) (ai (by exact (ai (ai rfl (fun _ _=>rfl)) rfl)) (ai trivial (ai (h3) ?_)))))))
  refine ai (ai (fun _=>trivial) ?_) trivial
  show ak _ (bP (nJ a.1.1 a.1.2 a.2))
  rw[show nJ a.1.1 a.1.2 a.2=!fB a.1.2.fr a.2 by unfold nJ;rw[h4];rfl]
  exact rfl
 ·refine ai (ai (fun _=>trivial) ?_) trivial
  show ak _ (bP (nJ a.1.1 a.1.2 a.2))
  rw[show nJ a.1.1 a.1.2 a.2=false by unfold nJ;rw[h4];rfl]
  exact rfl
def amE (a:(List Bool×jP)×List Int):Prop:=fU 24 a.2∧a.2.length≤1000000∧a.1.2.fr.length≤1000000
theorem apr:aL Tryz.prog 106 (bT (fun a:(List Bool×jP)×List Int=>[isA a.2,.p false (ara a.1.1 a.1.2)]) amE (fun a=>iP (jw (nJ a.1.1 a.1.2) a.2))):=by
 refine aY (Tb:=tab) mixed aB Tryz.func106 rfl rfl ?_
 rintro (a:(List Bool×jP)×List Int) hpre
 refine ai (ai rfl (ai rfl rfl)) ?_
 obtain ⟨hx,hl,hf⟩:=hpre
 have hl:a.2.length≤1000000:=hl
 refine ei (bE.inv { X:=Nat,up:=fun k=>[(8,.s (iA k))],uo:=fun k=>[],inv:=fun k=>k≤a.2.length∧(∀y∈a.2.take k,nJ a.1.1 a.1.2 y=false),meas:=fun k=>a.2.length-k,x0:=0 }) ?_
 refine ai (ai (ai (by exact (a4 (ai rfl rfl))) (ai (by exact (ai (ai (fun _=>rfl) (iE (by simp only[zz,reduceCtorEq];rfl))) rfl)) (by exact trivial))) rfl) (ai (ai (afc _) ?_) ?_)
 ·exact fun y hy=>absurd hy (by simp)
 intro (k:Nat) ⟨hk,hall⟩
 refine ah (p:=k<a.2.length) (au (by omega)) (fun h1=>?_) (fun h1=>?_)
 ·refine ai (ai (abq _) (iN (n:=a.2.length) (by omega))) (ai rfl ?_)
  refine ei _ (ai (aqd) (ei ((a.1,a.2.getD k 0)) (ei [] (ai (a4 (ai (fun _=>Or.inl rfl) (ai nof (Or.inl rfl)))) (ai (by exact (ai (iE (by simp only[zz,reduceCtorEq])) (ai (ai rfl rfl) (ai rfl rfl)))) (ai trivial (ai (⟨qp hx h1,hf⟩) ?_)))))))
  refine aX (b:=nJ a.1.1 a.1.2 (a.2.getD k 0)) rfl (fun h2=>?_) (fun h2=>?_)
  ·refine ai (ai (fun _=>trivial) ?_) trivial
   show ak _ (iP (jw (nJ a.1.1 a.1.2) a.2))
   rw[qJ (d:=0) h1 h2 hall]
   exact rfl
  refine ei (k+1) (ai (ai rfl rfl) (ai (ai (ai rfl (ai (ai rfl rfl) (ai (ai rfl rfl) (ai (ai (ai (fun _=>rfl) (aP (by omega))) rfl) trivial)))) rfl) (ai (ai (iL (by omega)) ?_) (iM (by omega)))))
  intro y hy
  rw[aQ 0 h1] at hy
  rcases ahN.1 hy with hy | hy
  ·exact hall y hy
  ·simp only[aiy] at hy;subst hy;exact h2
 ·obtain rfl:k=a.2.length:=by omega
  rw[ahb] at hall
  refine ai (ai (fun _=>trivial) ?_) trivial
  show ak _ (iP (jw (nJ a.1.1 a.1.2) a.2))
  rw[tC hall]
  exact rfl
theorem ao7:aL Tryz.prog 38 (bT (fun a:(List Bool×jP)×List Int=>[isA a.2,.p false (ara a.1.1 a.1.2)]) amE (fun a=>bP (a.2.any (nJ a.1.1 a.1.2)))):=by
 refine aY (Tb:=tab) mixed aB Tryz.func38 rfl rfl ?_
 rintro (a:(List Bool×jP)×List Int) hpre
 refine ai (ai rfl (ai rfl rfl)) ?_
 refine ei _ (ai (apr) (ei (a) (ei [] (ai (a4 (ai (fun _=>Or.inl rfl) (ai nof (Or.inl rfl)))) (ai (by exact (ai (ai rfl (fun _ _=>rfl)) (ai rfl rfl))) (ai trivial (ai (hpre) ?_)))))))
 refine ai (ai (fun _=>trivial) ?_) trivial
 show ak _ (bP (a.2.any (nJ a.1.1 a.1.2)))
 rw[(qz (nJ a.1.1 a.1.2) a.2).symm]
 exact rfl
def zf (c:aJ) (m:List Bool) (i:Nat):Bool:=(c.trs.getD i aF).to.any (nJ m (c.trs.getD i aF))
def asY:Spec:=bT (fun a:aJ×List Bool×Nat=>[jJ a.1,uE a.2.1,iA a.2.2]) (fun a=>bD a.1=0∧jd a.1∧a.2.2<a.1.trs.length) (fun a=>bP (zf a.1 a.2.1 a.2.2))
theorem aeu:aL Tryz.prog 62 asY:=by
 refine jy [3000015] ?_
 refine aY (Tb:=tab) mixed aB Tryz.func62 rfl rfl ?_
 rintro ⟨c,m,i⟩ hpre
 refine ai (ai rfl (ai rfl rfl)) ?_
 obtain ⟨hc,ho,hi⟩:=hpre
 have hc:bD c=0:=hc
 have ho:jd c:=ho
 have hi:i<c.trs.length:=hi
 obtain ⟨g1,g2,g3⟩:=kM hc hi
 have hto:=qI ho hi
 refine ai (ai (abq _) (iN (n:=c.trs.length) (by omega))) (ai rfl ?_)
 refine ei _ (ai (ao7) (ei (((m,c.trs.getD i aF),(c.trs.getD i aF).to)) (ei [] (ai (a4 (ai (fun _=>Or.inl rfl) (ai nof (Or.inl rfl)))) (ai (by exact (ai (ai rfl (fun _ _=>rfl)) (ai rfl rfl))) (ai trivial (ai (⟨g2.1,hto.2.1,hto.1⟩) ?_)))))))
 refine ai (ai (fun _=>trivial) ?_) trivial
 exact rfl
def kQ (c:aJ) (s:List Bool×List Int) (i:Int):List Bool×List Int:=if allM s.1 (c.trs.getD i.toNat aF).fr then (bH s.1 (c.trs.getD i.toNat aF).fr false,s.2++[i]) else s
def gU (c:aJ) (m:List Bool) (l:List Int):List Bool×List Int:=l.foldl (kQ c) (m,[])
theorem ajS (c:aJ) (m:List Bool) (l:List Int) (i:Int):gU c m (l++[i])=kQ c (gU c m l) i:=by unfold gU;rw[asK];rfl
theorem amr (c:aJ) (s:List Bool×List Int) (i:Int):(kQ c s i).1.length=s.1.length∧(kQ c s i).2.length≤s.2.length+1:=by
 unfold kQ
 split
 ·exact ⟨dR _ _ _,by simp⟩
 ·exact ⟨rfl,by omega⟩
theorem afR (c:aJ):∀(l:List Int) (s:List Bool×List Int),(l.foldl (kQ c) s).1.length=s.1.length∧(l.foldl (kQ c) s).2.length≤s.2.length+l.length
 | [],s=>⟨rfl,by simp⟩
 | i :: l,s=>by
  have h1:=amr c s i
  have h2:=afR c l (kQ c s i)
  exact ⟨h2.1.trans h1.1,by rw[asL,ai1];omega⟩
theorem agA (c:aJ):∀(l:List Int) (s:List Bool×List Int) (x:Int),x∈(l.foldl (kQ c) s).2→x∈s.2∨x∈l
 | [],s,x,h=>.inl h
 | i :: l,s,x,h=>by
  rcases agA c l (kQ c s i) x h with h | h
  ·unfold kQ at h
   split at h
   ·rcases ahN.1 h with h | h
    ·exact .inl h
    ·exact .inr (by simp at h;simp[h])
   ·exact .inl h
  ·exact .inr (aoI _ h)
theorem qQ {p:Nat→Bool}:∀{n:Nat} {x:Int},x∈dD p n→∃i:Nat,i<n∧x=i∧p i=true
 | 0,x,h=>by simp[dD] at h
 | n+1,x,h=>by
  rw[dD] at h
  split at h
  ·rename_i hp
   rcases ahN.1 h with h | h
   ·obtain ⟨i,h1,h2,h3⟩:=qQ h;exact ⟨i,by omega,h2,h3⟩
   ·simp at h;exact ⟨n,by omega,h,hp⟩
  ·obtain ⟨i,h1,h2,h3⟩:=qQ h;exact ⟨i,by omega,h2,h3⟩
def gV (c:aJ) (m:List Bool) (l:List Int):List Bool:=l.foldl (fun m i=>bH m (c.trs.getD i.toNat aF).to true) m
theorem ajN (c:aJ) (m:List Bool) (l:List Int) (i:Int):gV c m (l++[i])=bH (gV c m l) (c.trs.getD i.toNat aF).to true:=by unfold gV;rw[asK];rfl
theorem vF (c:aJ):∀(l:List Int) (m:List Bool),(gV c m l).length=m.length
 | [],_=>rfl
 | i :: l,m=>by
  show (gV c (bH m (c.trs.getD i.toNat aF).to true) l).length=_
  rw[vF c l,dR]
def qb (c:aJ) (a v:List Bool):List Bool×List Int:=gU c (bL a) (dD (pE c a v) c.trs.length)
def sZ (c:aJ) (a v:List Bool):PV:=if jl c a v=0 then .tup [kJ ((gV c (qb c a v).1 (qb c a v).2).take c.sts.length),jD (qb c a v).2,iP 0] else .tup [kJ [],jD [],iP (jl c a v)]
def asj:Spec:=iO (fun a:aJ×List Bool×List Bool=>[jJ a.1,ql a.2.1,ql a.2.2]) (fun a=>jd a.1) (fun a=>sZ a.1 a.2.1 a.2.2)
theorem ao8:aL Tryz.prog 49 asj:=by
 refine aY (Tb:=tab) mixed aB Tryz.func49 rfl rfl ?_
 rintro ⟨c,a,v⟩ hpre
 refine ai (ai rfl (ai rfl rfl)) ?_
 have ho:jd c:=hpre
 refine ei _ (ai ((jc agX (c,a,v) ho (r:=.tup [mQ (kR c a),iP (jl c a v)]) rfl)) (ei (()) (ei [] (ai (a4 (ai (fun _=>Or.inl rfl) (ai nof (Or.inl rfl)))) (ai (by exact (ai (ai rfl (ai (ai rfl (fun _ _=>rfl)) (ai (ai rfl (fun _ _=>rfl)) (ai rfl (fun _ _=>rfl))))) (ai (ai rfl (fun _ _=>rfl)) (ai rfl (fun _ _=>rfl))))) (ai trivial (ai (trivial) ?_)))))))
 refine bg (p:=jl c a v=0) (bK (by omega)) (fun h1=>?_) (fun h1=>?_)
 ·refine ai (ai (fun h=>absurd (show false=true from h) (by decide)) ?_) trivial
  show ak _ (sZ c a v)
  rw[sZ,if_neg h1]
  exact (ai rfl (ai rfl rfl))
 have hA:sZ c a v=.tup [kJ ((gV c (qb c a v).1 (qb c a v).2).take c.sts.length),jD (qb c a v).2,iP 0]:=by unfold sZ;rw[if_pos h1]
 obtain ⟨g1,g2⟩:=adB h1
 have hc:=(qD g1).1
 have ha24:=(qD g1).2.2
 have e1:kR c a=bL a:=if_pos g1
 refine ei _ (ai ((jc enabled_ok (c,kR c a,v) ⟨hc,ho,g2⟩ (r:=.tup [jD (dD (pE c a v) c.trs.length),iP 0]) (by show PV.tup [jD (dD (pE c (kR c a) v) c.trs.length),iP 0]=_;rw[e1,alF]))) (ei (()) (ei [] (ai (a4 (ai (fun _=>Or.inl rfl) (ai nof (Or.inl rfl)))) (ai (by exact (ai (ai rfl (ai (ai rfl (fun _ _=>rfl)) (ai (ai rfl (fun _ _=>rfl)) (ai rfl (fun _ _=>rfl))))) (ai (ai rfl (fun _ _=>rfl)) (ai rfl (fun _ _=>rfl))))) (ai trivial (ai (trivial) ?_)))))))
 have h32:=(gL hc).2.2.2.1
 have h24:=(gL hc).2.2.1.2
 have hlm:∀x∈dD (pE c a v) c.trs.length,0≤x∧x<(c.trs.length:Int):=fun x hx=>by
  obtain ⟨i,h1,h2,_⟩:=qQ hx;omega
 have hll:=xQ (pE c a v) c.trs.length
 have hS:qb c a v=gU c (kR c a) (dD (pE c a v) c.trs.length):=by rw[e1];rfl
 rw[hS] at hA
 have hm:(kR c a).length=24:=by rw[e1];exact mK ha24
 clear hS e1
 generalize dD (pE c a v) c.trs.length=l at hA hlm hll ⊢
 generalize kR c a=m at hA hm ⊢
 have hsl:∀k,(gU c m (l.take k)).1.length=24∧(gU c m (l.take k)).2.length≤32:=fun k=>by
  have h:=afR c (l.take k) (m,[])
  refine ⟨h.1.trans hm,?_⟩
  have h2:(gU c m (l.take k)).2.length≤0+(l.take k).length:=h.2
  rw[ajz] at h2;omega
 refine ei (bE.inv { X:=Nat,up:=fun k=>[(46,.s (iA k)),(13,isR (gU c m (l.take k)).2)],uo:=fun k=>[⟨2,117,[.ob (mkO (gU c m (l.take k)).1)]⟩],inv:=fun k=>k≤l.length∧(True),meas:=fun k=>l.length-k,x0:=0 }) ?_
 refine ai (ai (ai (by exact (a4 (ai rfl rfl))) (ai ?_ ?_)) rfl) (ai (ai (afc _) ?_) ?_)
 ·exact (ai (ai (ai (fun _=>rfl) (iE (by simp only[zz,reduceCtorEq];rfl))) rfl) rfl)
 ·exact (ai (ai rfl (ai rfl (fun _ _=>rfl))) trivial)
 ·trivial
 intro (k:Nat) ⟨hk,_⟩
 obtain ⟨s1,s2⟩:=hsl k
 refine ah (p:=k<l.length) (au (by omega)) (fun h2=>?_) (fun h2=>?_)
 ·refine ai (ai (abq _) (iN (n:=l.length) (by omega))) (ai rfl ?_)
  have hx0:=hlm _ (adh (bI 0 h2))
  have hi:(l.getD k 0).toNat<c.trs.length:=by omega
  obtain ⟨q1,q2,q3⟩:=kM hc hi
  have hto:=qI ho hi
  have hst:gU c m (l.take (k+1))=kQ c (gU c m (l.take k)) (l.getD k 0):=by rw[aQ 0 h2,ajS]
  refine ai hx0 ?_
  refine ai rfl ?_
  refine ei _ (ai (ahF) (ei (((gU c m (l.take k)).1,(c.trs.getD (l.getD k 0).toNat aF).fr)) (ei [] (ai (a4 (ai (fun _=>Or.inl rfl) (ai nof (Or.inl rfl)))) (ai (by exact (ai (ai rfl (fun _ _=>rfl)) (ai rfl (fun _ _=>rfl)))) (ai trivial (ai (⟨q1.1,hto.1⟩) ?_)))))))
  have hf:(c.trs.getD (l.getD k 0).toNat aF).fr.length≤1000000:=hto.1
  refine aX (b:=allM (gU c m (l.take k)).1 (c.trs.getD (l.getD k 0).toNat aF).fr) rfl (fun h4=>?_) (fun h4=>?_)
  ·have e:gU c m (l.take (k+1))=(bH (gU c m (l.take k)).1 (c.trs.getD (l.getD k 0).toNat aF).fr false,(gU c m (l.take k)).2++[l.getD k 0]):=by rw[hst];unfold kQ;rw[h4];rfl
   refine ai (mxL (n:=(gU c m (l.take k)).2.length+1) (by omega) (by decide)) (ai (aI 1 rfl) ?_)
   refine ei (bE.inv { X:=Nat,up:=fun j=>[(66,.s (iA j))],uo:=fun j=>[⟨2,117,[.ob (mkO (bH (gU c m (l.take k)).1 ((c.trs.getD (l.getD k 0).toNat aF).fr.take j) false))]⟩],inv:=fun j=>j≤(c.trs.getD (l.getD k 0).toNat aF).fr.length∧(True),meas:=fun j=>(c.trs.getD (l.getD k 0).toNat aF).fr.length-j,x0:=0 }) ?_
   refine ai (ai (ai (by exact (a4 (ai rfl rfl))) (ai ?_ ?_)) rfl) (ai (ai (afc _) ?_) ?_)
   ·exact (ai (ai (fun _=>rfl) (iE (by simp only[zz,reduceCtorEq];rfl))) rfl)
   ·exact (ai (ai rfl (ai rfl (fun _ _=>rfl))) trivial)
    skip
   ·trivial
   intro (j:Nat) ⟨hk1,_⟩
   refine ah (p:=j<(c.trs.getD (l.getD k 0).toNat aF).fr.length) (by simp only[zz,reduceCtorEq];omega) (fun h3=>?_) (fun h3=>?_)
   ·refine ai (ai (abq _) (iN (n:=(c.trs.getD (l.getD k 0).toNat aF).fr.length) (by omega))) (ai rfl ?_)
    have hx:=qp q1.1 h3
    have hx24:((c.trs.getD (l.getD k 0).toNat aF).fr.getD j 0).toNat<24:=by omega
    refine ai hx ?_
    refine ai (by show 0+((c.trs.getD (l.getD k 0).toNat aF).fr.getD j 0).toNat*1<24;omega) ?_
    refine ei (j+1) (ai (ai rfl rfl) (ai (ai (ai rfl (ai (ai rfl rfl) (ai (ai rfl rfl) (ai (ai (ai (fun _=>rfl) (aP (by omega))) rfl) (ai (ai rfl (ai rfl ?_)) trivial))))) rfl) (ai (ai (iL (by omega)) trivial) (iM (by omega)))))
    intro q hq
    show oH (eP (bH (gU c m (l.take k)).1 ((c.trs.getD (l.getD k 0).toNat aF).fr.take j) false)) (0+((c.trs.getD (l.getD k 0).toNat aF).fr.getD j 0).toNat*1) (bP false) q=eP (bH (gU c m (l.take k)).1 ((c.trs.getD (l.getD k 0).toNat aF).fr.take (j+1)) false) q
    rw[aiF,apT,aaV (by rw[dR];exact s1) hx24,aQ 0 h3,pU]
   ·obtain rfl:j=(c.trs.getD (l.getD k 0).toNat aF).fr.length:=by omega
    rw[ahb]
    refine ei (k+1) (ai (ai rfl rfl) (ai (ai (ai rfl (ai (ai rfl rfl) (ai (ai rfl rfl) (ai (ai (ai (ai (fun _=>rfl) (aP (by omega))) rfl) (ai rfl (ai rfl (ai ?_ ?_)))) (ai (ai rfl (ai rfl ?_)) trivial))))) rfl) (ai (ai (iL (by omega)) trivial) (iM (by omega)))))
    ·rw[e,aaf];rfl
    ·rw[e];exact ai5 _ _
    ·rw[e];exact fun _ _=>rfl
  ·have e:gU c m (l.take (k+1))=gU c m (l.take k):=by rw[hst];unfold kQ;rw[h4];rfl
   refine ei (k+1) (ai (ai rfl rfl) (ai (ai (ai rfl (ai (ai rfl rfl) (ai (ai rfl rfl) (ai (ai (ai (ai (fun _=>rfl) (aP (by omega))) rfl) (ai rfl (ai rfl (ai ?_ ?_)))) (ai (ai rfl (ai rfl ?_)) trivial))))) rfl) (ai (ai (iL (by omega)) trivial) (iM (by omega)))))
   ·rw[e]
   ·rw[e];exact fun _ _=>rfl
   ·rw[e];exact fun _ _=>rfl
 ·obtain rfl:k=l.length:=by omega
  rw[ahb] at s1 s2
  rw[ahb]
  have hfm:∀x∈(gU c m l).2,0≤x∧x<(c.trs.length:Int):=fun x hx=>by
   rcases agA c l (m,[]) x hx with h | h
   ·simp at h
   ·exact hlm x h
  generalize gU c m l=s at *
  refine ei (bE.inv { X:=Nat,up:=fun j=>[(76,.s (iA j))],uo:=fun j=>[⟨2,117,[.ob (mkO (gV c s.1 (s.2.take j)))]⟩],inv:=fun j=>j≤s.2.length∧(True),meas:=fun j=>s.2.length-j,x0:=0 }) ?_
  refine ai (ai (ai (by exact (a4 (ai rfl rfl))) (ai ?_ ?_)) rfl) (ai (ai (afc _) ?_) ?_)
  ·exact (ai (ai (fun _=>rfl) (iE (by simp only[zz,reduceCtorEq];rfl))) rfl)
  ·exact (ai (ai rfl (ai rfl (fun _ _=>rfl))) trivial)
  ·trivial
  intro (j:Nat) ⟨hj,_⟩
  have s3:(gV c s.1 (s.2.take j)).length=24:=(vF _ _ _).trans s1
  refine ah (p:=j<s.2.length) (au (by omega)) (fun h2=>?_) (fun h2=>?_)
  ·refine ai (ai (abq _) (by show (j:Int)<(s.2.length:Int);omega)) ?_
   refine ai (by show j<s.2.length;exact h2) ?_
   have hx0:=hfm _ (adh (bI 0 h2))
   have hi:(s.2.getD j 0).toNat<c.trs.length:=by omega
   obtain ⟨q1,q2,q3⟩:=kM hc hi
   have hto:=qI ho hi
   have hst:gV c s.1 (s.2.take (j+1))=bH (gV c s.1 (s.2.take j)) (c.trs.getD (s.2.getD j 0).toNat aF).to true:=by rw[aQ 0 h2,ajN]
   refine ai hx0 ?_
   refine ai rfl ?_
   have hf:(c.trs.getD (s.2.getD j 0).toNat aF).to.length≤1000000:=hto.2.1
   refine ei (bE.inv { X:=Nat,up:=fun i=>[(87,.s (iA i))],uo:=fun i=>[⟨2,117,[.ob (mkO (bH (gV c s.1 (s.2.take j)) ((c.trs.getD (s.2.getD j 0).toNat aF).to.take i) true))]⟩],inv:=fun i=>i≤(c.trs.getD (s.2.getD j 0).toNat aF).to.length∧(True),meas:=fun i=>(c.trs.getD (s.2.getD j 0).toNat aF).to.length-i,x0:=0 }) ?_
   refine ai (ai (ai (by exact (a4 (ai rfl rfl))) (ai ?_ ?_)) rfl) (ai (ai (afc _) ?_) ?_)
   ·exact (ai (ai (fun _=>rfl) (iE (by simp only[zz,reduceCtorEq];rfl))) rfl)
   ·exact (ai (ai rfl (ai rfl (fun _ _=>rfl))) trivial)
    skip
   ·trivial
   intro (i:Nat) ⟨hk1,_⟩
   refine ah (p:=i<(c.trs.getD (s.2.getD j 0).toNat aF).to.length) (by simp only[zz,reduceCtorEq];omega) (fun h3=>?_) (fun h3=>?_)
   ·refine ai (ai (abq _) (iN (n:=(c.trs.getD (s.2.getD j 0).toNat aF).to.length) (by omega))) (ai rfl ?_)
    have hx:=qp q2.1 h3
    have hx24:((c.trs.getD (s.2.getD j 0).toNat aF).to.getD i 0).toNat<24:=by omega
    refine ai hx ?_
    refine ai (by show 0+((c.trs.getD (s.2.getD j 0).toNat aF).to.getD i 0).toNat*1<24;omega) ?_
    refine ei (i+1) (ai (ai rfl rfl) (ai (ai (ai rfl (ai (ai rfl rfl) (ai (ai rfl rfl) (ai (ai (ai (fun _=>rfl) (aP (by omega))) rfl) (ai (ai rfl (ai rfl ?_)) trivial))))) rfl) (ai (ai (iL (by omega)) trivial) (iM (by omega)))))
    intro q hq
    show oH (eP (bH (gV c s.1 (s.2.take j)) ((c.trs.getD (s.2.getD j 0).toNat aF).to.take i) true)) (0+((c.trs.getD (s.2.getD j 0).toNat aF).to.getD i 0).toNat*1) (bP true) q=eP (bH (gV c s.1 (s.2.take j)) ((c.trs.getD (s.2.getD j 0).toNat aF).to.take (i+1)) true) q
    rw[aiF,apT,aaV (by rw[dR];exact s3) hx24,aQ 0 h3,pU]
   ·obtain rfl:i=(c.trs.getD (s.2.getD j 0).toNat aF).to.length:=by omega
    rw[ahb]
    refine ei (j+1) (ai (ai rfl rfl) (ai (ai (ai rfl (ai (ai rfl rfl) (ai (ai rfl rfl) (ai (ai (ai (fun _=>rfl) (aP (by omega))) rfl) (ai (ai rfl (ai rfl ?_)) trivial))))) rfl) (ai (ai (iL (by omega)) trivial) (iM (by omega)))))
    rw[hst];exact fun _ _=>rfl
  ·obtain rfl:j=s.2.length:=by omega
   rw[ahb] at s3
   rw[ahb]
   refine ei _ (ai (ad1) (ei ((c,gV c s.1 s.2)) (ei [] (ai (a4 (ai (fun _=>Or.inl rfl) (ai nof (Or.inl rfl)))) (ai (by exact (ai (ai rfl (ai (ai rfl (fun _ _=>rfl)) (ai (ai rfl (fun _ _=>rfl)) (ai rfl (fun _ _=>rfl))))) (ai rfl (fun _ _=>rfl)))) (ai trivial (ai (⟨h24,s3⟩) ?_)))))))
   refine ai (ai (fun h=>absurd (show false=true from h) (by decide)) ?_) trivial
   show ak _ (sZ c a v)
   rw[hA]
   exact (ai (ai rfl (fun _ _=>rfl)) (ai (ai rfl (fun _ _=>rfl)) rfl))
theorem ac6 {α:Type} {l m:List α} {k:Nat} (d:α) (h1:k<l.length) (h2:k<m.length) (h:l.take k=m.take k) (e:l.getD k d=m.getD k d):l.take (k+1)=m.take (k+1):=by
 rw[aQ d h1,aQ d h2,h,e]
def alE:Spec:=bT (fun a:List (Bool)×List (Bool)=>[ql a.1,ql a.2]) (fun a=>a.1.length≤1000000) (fun a=>bP (decide (a.1=a.2)))
theorem am9:aL Tryz.prog 120 alE:=by
 refine aY (Tb:=tab) mixed aB Tryz.func120 rfl rfl ?_
 rintro (a:List (Bool)×List (Bool)) hpre
 refine ai (ai rfl (ai rfl rfl)) ?_
 have hl:a.1.length≤1000000:=hpre
 refine bg (p:=a.1.length=a.2.length) (bK (by omega)) (fun h1=>?_) (fun h1=>?_)
 ·refine ai (ai (fun _=>trivial) ?_) trivial
  show ak _ (bP (decide (a.1=a.2)))
  rw[decide_eq_false (fun h=>h1 (congrArg List.length h))]
  exact rfl
 refine ei (bE.inv { X:=Nat,up:=fun k=>[(5,.s (iA k))],uo:=fun k=>[],inv:=fun k=>k≤a.1.length∧(a.1.take k=a.2.take k),meas:=fun k=>a.1.length-k,x0:=0 }) ?_
 refine ai (ai (ai (by exact (a4 (ai rfl rfl))) (ai (by exact (ai (ai (fun _=>rfl) (iE (by simp only[zz,reduceCtorEq];rfl))) rfl)) (by exact trivial))) rfl) (ai (ai (afc _) ?_) ?_)
 ·rfl
 intro (k:Nat) ⟨hk,hall⟩
 refine ah (p:=k<a.1.length) (au (by omega)) (fun h4=>?_) (fun h4=>?_)
 ·refine ei (.seq [0,1,2,3,4,5,6,7,8]) (ai (by kernel_rfl) ?_)
  refine ai (ai (abq _) (iN (n:=a.1.length) (by omega))) (ai rfl ?_)
  refine ai (ai (abq _) (iN (n:=a.2.length) (by omega))) (ai rfl ?_)
  refine bg (p:=a.1.getD k false=a.2.getD k false) (by exact bne_iff_ne) (fun h5=>?_) (fun h5=>?_)
  ·refine ai (ai (fun _=>trivial) ?_) trivial
   show ak _ (bP (decide (a.1=a.2)))
   rw[decide_eq_false (fun h=>h5 (by rw[h]))]
   exact rfl
  refine ei (k+1) (ai (ai rfl rfl) (ai (ai (ai rfl (ai (ai rfl rfl) (ai (ai rfl rfl) (ai (ai (ai (fun _=>rfl) (aP (by omega))) rfl) trivial)))) rfl) (ai (ai (iL (by omega)) ?_) (iM (by omega)))))
  exact ac6 false h4 (by omega) hall h5
 ·obtain rfl:k=a.1.length:=by omega
  rw[ahb,h1,ahb] at hall
  refine ai (ai (fun _=>trivial) ?_) trivial
  show ak _ (bP (decide (a.1=a.2)))
  rw[decide_eq_true hall]
  exact rfl
theorem anD:aL Tryz.prog 54 alE:=by
 refine aY (Tb:=tab) mixed aB Tryz.func54 rfl rfl ?_
 rintro (a:List Bool×List Bool) hpre
 refine ai (ai rfl (ai rfl rfl)) ?_
 refine ei _ (ai (am9) (ei (a) (ei [] (ai (a4 (ai (fun _=>Or.inl rfl) (ai nof (Or.inl rfl)))) (ai (by exact (ai (ai rfl (fun _ _=>rfl)) (ai rfl (fun _ _=>rfl)))) (ai trivial (ai (hpre) ?_)))))))
 refine ai (ai (fun _=>trivial) ?_) trivial
 exact rfl
def qM (a b:List Int):Bool:=a.any fun k=>fB b k
def gP (c:aJ) (m:List Bool) (l:List Int):List Bool:=l.foldl (fun m i=>bH m (c.trs.getD i.toNat aF).fr false) m
theorem ah5 (c:aJ) (m:List Bool) (l:List Int) (i:Int):gP c m (l++[i])=bH (gP c m l) (c.trs.getD i.toNat aF).fr false:=by unfold gP;rw[asK];rfl
theorem pI (c:aJ):∀(l:List Int) (m:List Bool),(gP c m l).length=m.length
 | [],_=>rfl
 | i :: l,m=>by
  show (gP c (bH m (c.trs.getD i.toNat aF).fr false) l).length=_
  rw[pI c l,dR]
def mD (c:aJ) (a:List Bool) (l:List Int):List Bool:=gV c (gP c a l) l
def fu (c:aJ) (i:Int):List Int:=(c.trs.getD i.toNat aF).fr
def l6 (c:aJ) (out:List Int) (i:Int):List Int:=if out.all (fun k=>!qM (fu c i) (fu c k)) then out++[i] else out
def aaB (c:aJ) (l:List Int):List Int:=l.foldl (l6 c) []
theorem wO (c:aJ):∀(l out:List Int),(l.foldl (l6 c) out).length≤out.length+l.length∧∀x∈l.foldl (l6 c) out,x∈out∨x∈l
 | [],out=>⟨by simp,fun x h=>.inl h⟩
 | i :: l,out=>by
  obtain ⟨h1,h2⟩:=wO c l (l6 c out i)
  have h3:(l6 c out i).length≤out.length+1:=by unfold l6;split<;>simp
  refine ⟨by rw[asL,ai1];omega,fun x hx=>?_⟩
  rcases h2 x hx with h | h
  ·unfold l6 at h
   split at h
   ·rcases ahN.1 h with h | h
    ·exact .inl h
    ·exact .inr (by simp at h;simp[h])
   ·exact .inl h
  ·exact .inr (aoI _ h)
def lW (c:aJ) (a v:List Bool):List Int:=aaB c (dD (pE c a v) c.trs.length)
def af8 (c:aJ) (a v:List Bool):PV:=if jl c a v=0 then .tup [kJ (mD c a (lW c a v)),jD (lW c a v),iP 0] else .tup [kJ [],jD [],iP (jl c a v)]
theorem ap6 {m:List Bool}:∀{l:List Int} {k:Int},0≤k→(∀x∈l,0≤x)→fA (bH m l false) k=(fA m k&&!fB l k):=by
 intro l
 induction l generalizing m with
 | nil=>intro k _ _;simp[bH,fB]
 | cons x l ih=>
  intro k hk hl
  have hx:0≤x:=hl x (by simp)
  show fA (bH (m.set x.toNat false) l false) k=_
  rw[ih hk fun y hy=>hl y (by simp[hy])]
  have h1:fA (m.set x.toNat false) k=(fA m k&&!(k==x)):=by
   unfold fA
   rw[abo,abo,atS]
   by_cases e:k=x
   ·subst e
    rw[if_pos rfl]
    by_cases h:k.toNat<m.length
    ·rw[if_pos h];simp
    ·rw[if_neg h];simp
   ·rw[if_neg (by omega),beq_eq_false_iff_ne.2 e];simp
  rw[h1]
  unfold fB
  rw[atX]
  cases fA m k<;>cases (k==x)<;>simp
def nonneg (l:List Int):Prop:=∀x∈l,0≤x
theorem sM {c:aJ} {k:Int} (hk:0≤k):∀{out:List Int} {m:List Bool},(∀i∈out,nonneg (fu c i))→fA (gP c m out) k=(fA m k&&out.all fun i=>!fB (fu c i) k)
 | [],m,_=>by simp[gP]
 | i :: out,m,h=>by
  show fA (gP c (bH m (c.trs.getD i.toNat aF).fr false) out) k=_
  rw[sM hk (fun j hj=>h j (by simp[hj])),ap6 (l:=(c.trs.getD i.toNat aF).fr) hk (h i (by simp)),List.all_cons,Bool.and_assoc];rfl
theorem ao6 {c:aJ} {m:List Bool} {out l:List Int} (hl:nonneg l) (h:∀i∈out,nonneg (fu c i)) (ha:allM m l=true):allM (gP c m out) l=out.all fun i=>!qM l (fu c i):=by
 unfold allM at ha ⊢
 rw[aqR,ak7,ak7]
 rw[ak7] at ha
 constructor
 ·intro h1 i hi
  rw[aoW]
  unfold qM
  rw[atv]
  intro k hk
  have h2:=h1 k hk
  rw[sM (hl k hk) h,agw,ak7] at h2
  have:=h2.2 i hi
  rw[aoW] at this
  rw[this];decide
 ·intro h1 k hk
  rw[sM (hl k hk) h,ha k hk,aiI,ak7]
  intro i hi
  have h2:=h1 i hi
  rw[aoW] at h2 ⊢
  unfold qM at h2
  rw[atv] at h2
  simpa using h2 k hk
theorem ae0 {c:aJ} {m:List Bool}:∀(l out:List Int),(∀i∈l,nonneg (fu c i)∧allM m (fu c i)=true)→(∀i∈out,nonneg (fu c i)) →
  l.foldl (kQ c) (gP c m out,out)=(gP c m (l.foldl (l6 c) out),l.foldl (l6 c) out)
 | [],out,_,_=>rfl
 | i :: l,out,h1,h2=>by
  obtain ⟨g1,g2⟩:=h1 i (by simp)
  have e:=ao6 (c:=c) (m:=m) (out:=out) g1 h2 g2
  have hs:kQ c (gP c m out,out) i=(gP c m (l6 c out i),l6 c out i):=by
   unfold kQ l6
   show (if allM (gP c m out) (fu c i)=true then _ else _)=_
   rw[e]
   by_cases hc:(out.all fun k=>!qM (fu c i) (fu c k))=true
   ·rw[if_pos hc,if_pos hc,ah5]
   ·rw[if_neg hc,if_neg hc]
  rw[asL,hs,asL]
  refine ae0 l _ (fun j hj=>h1 j (by simp[hj])) fun j hj=>?_
  unfold l6 at hj
  split at hj
  ·rcases ahN.1 hj with hj | hj
   ·exact h2 j hj
   ·simp at hj;subst hj;exact g1
  ·exact h2 j hj
theorem aay {z:List Bool} (b:Bool):∀{l:List Int} {a:List Bool},fU a.length l→bH (a++z) l b=bH a l b++z
 | [],a,_=>rfl
 | x :: l,a,h=>by
  have hx:=h x (by simp)
  show bH ((a++z).set x.toNat b) l b=bH (a.set x.toNat b) l b++z
  rw[List.set_append_left _ _ (by omega)]
  exact aay b (by rw[atF];exact fun y hy=>h y (by simp[hy]))
theorem adn {c:aJ} {z:List Bool}:∀{F:List Int} {a:List Bool},(∀i∈F,fU a.length (c.trs.getD i.toNat aF).fr)→gP c (a++z) F=gP c a F++z
 | [],a,_=>rfl
 | i :: F,a,h=>by
  show gP c (bH (a++z) (c.trs.getD i.toNat aF).fr false) F=gP c (bH a (c.trs.getD i.toNat aF).fr false) F++z
  rw[aay _ (h i (by simp))]
  exact adn (by rw[dR];exact fun y hy=>h y (by simp[hy]))
theorem aeS {c:aJ} {z:List Bool}:∀{F:List Int} {a:List Bool},(∀i∈F,fU a.length (c.trs.getD i.toNat aF).to)→gV c (a++z) F=gV c a F++z
 | [],a,_=>rfl
 | i :: F,a,h=>by
  show gV c (bH (a++z) (c.trs.getD i.toNat aF).to true) F=gV c (bH a (c.trs.getD i.toNat aF).to true) F++z
  rw[aay _ (h i (by simp))]
  exact aeS (by rw[dR];exact fun y hy=>h y (by simp[hy]))
theorem ak2 {c:aJ} {a v:List Bool} (h0:jl c a v=0):(qb c a v).2=lW c a v∧(gV c (qb c a v).1 (qb c a v).2).take c.sts.length=mD c a (lW c a v):=by
 obtain ⟨g1,-⟩:=adB h0
 obtain ⟨hc,hal,-⟩:=qD g1
 have hmem:∀i∈dD (pE c a v) c.trs.length,(fU c.sts.length (c.trs.getD i.toNat aF).fr∧fU c.sts.length (c.trs.getD i.toNat aF).to)∧allM a (fu c i)=true:=fun i hi=>by
  obtain ⟨j,h1,h2,h3⟩:=qQ hi
  subst h2
  obtain ⟨q1,q2,-⟩:=kM hc h1
  unfold pE at h3
  rw[agw] at h3
  exact ⟨⟨by rw[arZ];exact q1.2,by rw[arZ];exact q2.2⟩,by unfold fu;rw[arZ];exact h3.1⟩
 have hF:qb c a v=(gP c (bL a) (lW c a v),lW c a v):=by
  have:=ae0 (c:=c) (m:=bL a) (dD (pE c a v) c.trs.length) [] (fun i hi=>⟨fun x hx=>((hmem i hi).1.1 x hx).1,by rw[abN];exact (hmem i hi).2⟩) (by simp)
  exact this
 have hin:∀i∈lW c a v,i∈dD (pE c a v) c.trs.length:=fun i hi=>by
  rcases (wO c (dD (pE c a v) c.trs.length) []).2 i hi with h | h
  ·simp at h
  ·exact h
 rw[hF]
 refine ⟨rfl,?_⟩
 show (gV c (gP c (bL a) (lW c a v)) (lW c a v)).take c.sts.length=_
 unfold bL mD
 rw[adn (fun i hi=>by rw[hal];exact (hmem i (hin i hi)).1.1),aeS (fun i hi=>by rw[pI,hal];exact (hmem i (hin i hi)).1.2)]
 rw[List.take_left' (by rw[vF,pI,hal])]
theorem ajH (c:aJ) (a v:List Bool):sZ c a v=af8 c a v:=by
 unfold sZ af8
 by_cases h:jl c a v=0
 ·obtain ⟨h1,h2⟩:=ak2 h
  rw[if_pos h,if_pos h,h2,h1]
 ·rw[if_neg h,if_neg h]
def ig:List Bool→List Bool→Int
 | x :: a,y :: b=>if x=y then ig a b else if y then -1 else 1
 | _,_=>0
theorem aeU {a b:List Bool} (hl:a.length=b.length):∀{k:Nat},k≤a.length→a.take k=b.take k→ig a b=ig (a.drop k) (b.drop k)
 | 0,_,_=>rfl
 | k+1,hk,h=>by
  have h1:a.take k=b.take k:=by
   have:=congrArg (List.take k) h
   rwa [aug,aug,atP (by omega)] at this
  rw[aeU hl (k:=k) (by omega) h1]
  have ha:a.drop k=a.getD k false :: a.drop (k+1):=by
   rw[aoN (by omega),abo,abn (by omega)];rfl
  have hb:b.drop k=b.getD k false :: b.drop (k+1):=by
   rw[aoN (by omega),abo,abn (by omega)];rfl
  have e:a.getD k false=b.getD k false:=by
   have:=congrArg (fun l=>l.getD k false) h
   simpa [abo,alD] using this
  rw[ha,hb,ig,if_pos e]
theorem apo {a b:List Bool} (hl:a.length=b.length) {k:Nat} (hk:k<a.length) (h:a.take k=b.take k) (hn:a.getD k false≠b.getD k false):ig a b=if b.getD k false then -1 else 1:=by
 rw[aeU hl (k:=k) (by omega) h]
 have ha:a.drop k=a.getD k false :: a.drop (k+1):=by
  rw[aoN (by omega),abo,abn (by omega)];rfl
 have hb:b.drop k=b.getD k false :: b.drop (k+1):=by
  rw[aoN (by omega),abo,abn (by omega)];rfl
 rw[ha,hb,ig,if_neg hn]
theorem ajd {a b:List Bool} (h:a=b):ig a b=0:=by
 subst h
 induction a with
 | nil=>rfl
 | cons x a ih=>rw[ig,if_pos rfl,ih]
def am7 (a b:List Bool):Bool:=ig a b==-1
def sw (n:Nat):List Bool:=(List.replicate n false).set 0 true
abbrev Mk := List Bool × List Int
def ay:Mk:=([],[])
def sD (l:List Mk) (m:List Bool):Bool:=l.any fun y=>decide (y.1=m)
def pF (x y:Int):Int:=if x<y then -1 else if y<x then 1 else 0
theorem ahf:aL Tryz.prog 163 (bT (fun x:Int=>[iA x]) (fun _=>True) (fun _=>bP false)):=by
 refine aY (Tb:=tab) mixed aB Tryz.func163 rfl rfl ?_
 rintro (x:Int) hpre
 refine ai (ai rfl (ai rfl rfl)) ?_
 refine ai (ai (fun _=>trivial) ?_) trivial
 show ak _ (bP false)
 rw[show false=(x != x) by simp]
 exact rfl
theorem apc:aL Tryz.prog 126 (bT (fun a:Int×Int=>[iA a.1,iA a.2]) (fun _=>True) (fun a=>iP (pF a.1 a.2))):=by
 refine aY (Tb:=tab) mixed aB Tryz.func126 rfl rfl ?_
 rintro (a:Int×Int) hpre
 refine ai (ai rfl (ai rfl rfl)) ?_
 refine ei _ (ai (ahf) (ei (a.1) (ei [] (ai (a4 (ai (fun _=>Or.inl rfl) (ai nof (Or.inl rfl)))) (ai (by exact rfl) (ai trivial (ai (trivial) ?_)))))))
 refine ei _ (ai (ahf) (ei (a.2) (ei [] (ai (a4 (ai (fun _=>Or.inl rfl) (ai nof (Or.inl rfl)))) (ai (by exact rfl) (ai trivial (ai (trivial) ?_)))))))
 refine ah (p:=a.1<a.2) (au (by omega)) (fun h1=>?_) (fun h1=>?_)
 ·refine ai (ai (fun _=>trivial) ?_) trivial
  show ak _ (iP (pF a.1 a.2))
  rw[pF,if_pos h1]
  exact rfl
 refine ah (p:=a.2<a.1) (au (by omega)) (fun h2=>?_) (fun h2=>?_)
 ·refine ai (ai (fun _=>trivial) ?_) trivial
  show ak _ (iP (pF a.1 a.2))
  rw[pF,if_neg h1,if_pos h2]
  exact rfl
 ·refine ai (ai (fun _=>trivial) ?_) trivial
  show ak _ (iP (pF a.1 a.2))
  rw[pF,if_neg h1,if_neg h2]
  exact rfl
def cmpL:List Int→List Int→Int
 | [],[]=>0
 | [],_ :: _=>-1
 | _ :: _,[]=>1
 | x :: a,y :: b=>if pF x y=0 then cmpL a b else pF x y
theorem alQ {x y:Int} (h:pF x y=0):x=y:=by
 unfold pF at h
 split at h
 ·cases h
 ·split at h
  ·cases h
  ·omega
theorem aey {a b:List Int}:∀{k:Nat},k≤a.length→k≤b.length→a.take k=b.take k→cmpL a b=cmpL (a.drop k) (b.drop k)
 | 0,_,_,_=>rfl
 | k+1,hk,hk2,h=>by
  have h1:a.take k=b.take k:=by
   have:=congrArg (List.take k) h
   rwa [aug,aug,atP (by omega)] at this
  rw[aey (k:=k) (by omega) (by omega) h1]
  have ha:a.drop k=a.getD k 0 :: a.drop (k+1):=by
   rw[aoN (by omega),abo,abn (by omega)];rfl
  have hb:b.drop k=b.getD k 0 :: b.drop (k+1):=by
   rw[aoN (by omega),abo,abn (by omega)];rfl
  have e:a.getD k 0=b.getD k 0:=by
   have:=congrArg (fun l=>l.getD k 0) h
   simpa [abo,alD] using this
  rw[ha,hb,cmpL,if_pos (by rw[e];unfold pF;rw[if_neg (by omega),if_neg (by omega)])]
theorem aaI:aL Tryz.prog 64 (bT (fun a:List Int×List Int=>[isA a.1,isA a.2]) (fun a=>a.1.length≤1000000) (fun a=>iP (cmpL a.1 a.2))):=by
 refine aY (Tb:=tab) mixed aB Tryz.func64 rfl rfl ?_
 rintro (a:List Int×List Int) hpre
 refine ai (ai rfl (ai rfl rfl)) ?_
 have hl:a.1.length≤1000000:=hpre
 refine ei (bE.inv { X:=Nat,up:=fun k=>[(11,.s (iA k))],uo:=fun k=>[],inv:=fun k=>k≤a.1.length∧(k≤a.2.length∧a.1.take k=a.2.take k),meas:=fun k=>a.1.length-k,x0:=0 }) ?_
 refine ai (ai (ai (by exact (a4 (ai rfl rfl))) (ai (by exact (ai (ai (fun _=>rfl) (iE (by simp only[zz,reduceCtorEq];rfl))) rfl)) (by exact trivial))) rfl) (ai (ai (afc _) ?_) ?_)
 ·exact ⟨afc _,rfl⟩
 intro (k:Nat) ⟨hk,hk2,hall⟩
 have hD:=aey hk hk2 hall
 refine ah (p:=k<a.1.length) (au (by omega)) (fun h1=>?_) (fun h1=>?_)
 ·refine ai (ai (abq _) (iN (n:=a.1.length) (by omega))) (ai rfl ?_)
  have ha:a.1.drop k=a.1.getD k 0 :: a.1.drop (k+1):=by
   rw[aoN (by omega),abo,abn (by omega)];rfl
  refine ah (p:=a.2.length≤k) (cu (by omega)) (fun h2=>?_) (fun h2=>?_)
  ·refine ai (ai (fun _=>trivial) ?_) trivial
   show ak _ (iP (cmpL a.1 a.2))
   rw[show cmpL a.1 a.2=1 by rw[hD,ha,atM h2];rfl]
   exact rfl
  have hb:a.2.drop k=a.2.getD k 0 :: a.2.drop (k+1):=by
   rw[aoN (by omega),abo,abn (by omega)];rfl
  refine ai (ai (abq _) (iN (n:=a.2.length) (by omega))) (ai rfl ?_)
  refine ei _ (ai (apc) (ei ((a.1.getD k 0,a.2.getD k 0)) (ei [] (ai (a4 (ai (fun _=>Or.inl rfl) (ai nof (Or.inl rfl)))) (ai (by exact (ai (iE (by simp only[zz,reduceCtorEq])) (iE (by simp only[zz,reduceCtorEq])))) (ai trivial (ai (trivial) ?_)))))))
  refine bg (p:=pF (a.1.getD k 0) (a.2.getD k 0)=0) (bK (by dsimp only;omega)) (fun h3=>?_) (fun h3=>?_)
  ·refine ai (ai (fun _=>trivial) ?_) trivial
   show ak _ (iP (cmpL a.1 a.2))
   rw[show cmpL a.1 a.2=pF (a.1.getD k 0) (a.2.getD k 0) by rw[hD,ha,hb,cmpL,if_neg h3]]
   exact rfl
  refine ei (k+1) (ai (ai rfl rfl) (ai (ai (ai rfl (ai (ai rfl rfl) (ai (ai rfl rfl) (ai (ai (ai (fun _=>rfl) (aP (by omega))) rfl) trivial)))) rfl) (ai (ai (iL (by omega)) (ai ?_ ?_)) (iM (by omega)))))
  ·show k+1≤a.2.length;omega
  ·exact ac6 0 h1 (by omega) hall (alQ h3)
 ·obtain rfl:k=a.1.length:=by omega
  rw[atM (aha _)] at hD
  refine ah (p:=a.1.length<a.2.length) (au (by omega)) (fun h4=>?_) (fun h4=>?_)
  ·have hb:a.2.drop a.1.length=a.2.getD a.1.length 0 :: a.2.drop (a.1.length+1):=by
    rw[aoN (by omega),abo,abn (by omega)];rfl
   refine ai (ai (fun _=>trivial) ?_) trivial
   show ak _ (iP (cmpL a.1 a.2))
   rw[show cmpL a.1 a.2=-1 by rw[hD,hb];rfl]
   exact rfl
  ·refine ai (ai (fun _=>trivial) ?_) trivial
   show ak _ (iP (cmpL a.1 a.2))
   rw[show cmpL a.1 a.2=0 by rw[hD,atM (by omega)];rfl]
   exact rfl
def uZ (c:aJ) (i:Nat):jP:=c.trs.getD i aF
def aC (c:aJ) (l:List Mk) (a i:Nat):Mk:=(nT (l.getD a ay).1 (uZ c i),(l.getD a ay).2++[(i:Int)])
def adds (c:aJ) (l:List Mk) (a i:Nat):Bool:=allM (l.getD a ay).1 (uZ c i).fr&&!sD l (aC c l a i).1
def kD (c:aJ) (l:List Mk) (a i:Nat):List Mk:=if adds c l a i then l++[aC c l a i] else l
def fJ (c:aJ) (l:List Mk) (a:Nat):Nat→List Mk
 | 0=>l
 | k+1=>kD c (fJ c l a k) a k
def qO (c:aJ):Nat→List Mk→Nat→Option (List Mk)
 | 0,l,a=>some l
 | f+1,l,a=>if l.length≤a then some l else if 16384<(fJ c l a c.trs.length).length then none else qO c f (fJ c l a c.trs.length) (a+1)
def mk1 (c:aJ):List Mk:=[(sw c.sts.length,[])]
def uq (c:aJ):Option (List Mk):=qO c 16385 (mk1 c) 0
theorem afe (c:aJ) (l:List Mk) (a i:Nat):(∃t,kD c l a i=l++t)∧(kD c l a i).length≤l.length+1:=by
 unfold kD
 split
 ·exact ⟨⟨_,rfl⟩,by simp⟩
 ·exact ⟨⟨[],(arD _).symm⟩,by omega⟩
theorem amF (c:aJ) (l:List Mk) (a:Nat):∀{j k:Nat},j≤k→(fJ c l a j).length≤(fJ c l a k).length:=by
 intro j k h
 induction k with
 | zero=>
  have:j=0:=by omega
  subst this;exact aha _
 | succ k ih=>
  by_cases e:j=k+1
  ·subst e;exact aha _
  ·have h1:=ih (by omega)
   obtain ⟨⟨t,ht⟩,_⟩:=afe c (fJ c l a k) a k
   have:(fJ c l a (k+1)).length=(fJ c l a k).length+t.length:=by
    show (kD c (fJ c l a k) a k).length=_
    rw[ht,aaf]
   omega
theorem uh (c:aJ) (l:List Mk) (a:Nat):∀k,∃t,fJ c l a k=l++t
 | 0=>⟨[],(arD _).symm⟩
 | k+1=>by
  obtain ⟨t,ht⟩:=uh c l a k
  obtain ⟨⟨t2,h2⟩,_⟩:=afe c (fJ c l a k) a k
  exact ⟨t++t2,by show kD c (fJ c l a k) a k=_;rw[h2,ht,atl]⟩
def ou (c:aJ) (l:List Mk):Prop:=∀y∈l,y.1.length=c.sts.length∧fU c.trs.length y.2
theorem ak4 {c:aJ} {l:List Mk} {a i:Nat} (h:ou c l) (ha:a<l.length) (hi:i<c.trs.length):ou c (l++[aC c l a i]):=by
 intro y hy
 rcases ahN.1 hy with hy | hy
 ·exact h y hy
 ·simp only[aiy] at hy
  subst hy
  have hg:=h _ (adh (bI ay ha))
  refine ⟨by show (nT _ _).length=_;unfold nT;rw[dR,dR];exact hg.1,fun x hx=>?_⟩
  rcases ahN.1 hx with hx | hx
  ·exact hg.2 x hx
  ·simp only[aiy] at hx;subst hx;omega
theorem good_step {c:aJ} {l:List Mk} {a i:Nat} (h:ou c l) (ha:a<l.length) (hi:i<c.trs.length):ou c (kD c l a i):=by
 unfold kD
 split
 ·exact ak4 h ha hi
 ·exact h
theorem good_row {c:aJ} {l:List Mk} {a:Nat} (h:ou c l) (ha:a<l.length):∀{k:Nat},k≤c.trs.length→ou c (fJ c l a k)
 | 0,_=>h
 | k+1,hk=>good_step (good_row h ha (by omega)) (by obtain ⟨t,ht⟩:=uh c l a k;rw[ht,aaf];omega) (by omega)
theorem ahE (c:aJ):ou c (mk1 c):=by
 intro y hy
 simp only[mk1,aiy] at hy
 subst hy
 exact ⟨by show (sw _).length=_;unfold sw;rw[atF,atA],fun x hx=>by simp at hx⟩
theorem anI {c:aJ} {f:Nat} {l:List Mk} {a:Nat} (h:l.length≤a):qO c f l a=some l:=by
 cases f with
 | zero=>rfl
 | succ f=>rw[qO,if_pos h]
theorem am2 {c:aJ} {f:Nat} {l:List Mk} {a k:Nat} (ha:a<l.length) (hk:k≤c.trs.length) (h:16384<(fJ c l a k).length):qO c (f+1) l a=none:=by
 have:=amF c l a hk
 rw[qO,if_neg (by omega),if_pos (by omega)]
theorem aom {c:aJ} {f:Nat} {l:List Mk} {a:Nat} (ha:a<l.length) (h:(fJ c l a c.trs.length).length≤16384):qO c (f+1) l a=qO c f (fJ c l a c.trs.length) (a+1):=by
 rw[qO,if_neg (by omega),if_neg (by omega)]
theorem adA {u u' v v':PV} (h1:gW u u') (h2:gW v v'):bN [u,v] [u',v']:=by
 refine ⟨rfl,fun k s s' hs hs'=>?_⟩
 match k with
 | 0=>cases hs;cases hs';exact h1
 | 1=>cases hs;cases hs';exact h2
 | k+2=>simp at hs
theorem aol {n:Nat} {f:Nat→List PV} {l:List Int} (hn:n=l.length) (hf:∀k,k<n→f k=[iP (l.getD k 0)]):gW (.seq n f) (jD l):=by
 subst hn
 refine .seq _ _ _ (fun j hj=>by rw[hf j hj]) fun j k s s' hj hs hs'=>?_
 rw[hf j hj] at hs
 have hs':[iP (l.getD j 0)][k]?=some s':=hs'
 rw[hs] at hs';cases hs';exact .refl _
theorem jQ {c:aJ} {l:List Mk} {a:Nat} (ha:a<l.length) (k:Nat):(fJ c l a k).getD a ay=l.getD a ay:=by
 obtain ⟨t,ht⟩:=uh c l a k
 rw[ht,abo,abo,afk ha]
def aah (n:Nat) (l:List Mk):Prop:=∀y∈l,y.2.length≤n
theorem aeg {c:aJ} {l:List Mk} {a:Nat} (ha:a<l.length) (h:aah a l):∀k,aah (a+1) (fJ c l a k)
 | 0=>fun y hy=>Nat.le_succ_of_le (h y hy)
 | k+1=>by
  have ih:=aeg (c:=c) ha h k
  show aah (a+1) (kD c (fJ c l a k) a k)
  unfold kD
  split
  ·intro y hy
   rcases ahN.1 hy with hy | hy
   ·exact ih y hy
   ·simp only[aiy] at hy
    subst hy
    show (((fJ c l a k).getD a ay).2++[(k:Int)]).length≤a+1
    rw[jQ ha,aaf]
    have:=h _ (adh (bI ay ha))
    show (l.getD a ay).2.length+1≤a+1
    omega
  ·exact ih
theorem aaZ (m:List Bool):eP (bL m)=eP m:=funext fun k=>by unfold eP;rw[oF]
theorem apu (m:List Bool) {k:Nat} (hk:k<m.length) (b:Bool):(bL m).set k b=bL (m.set k b):=by
 unfold bL
 rw[List.set_append_left _ _ hk,atF]
theorem abW (b:Bool):∀{l:List Int} {m:List Bool},fU m.length l→bH (bL m) l b=bL (bH m l b)
 | [],_,_=>rfl
 | k :: l,m,h=>by
  show bH ((bL m).set k.toNat b) l b=bL (bH (m.set k.toNat b) l b)
  have hk:=h k (aoP ..)
  rw[apu m (by omega) b]
  exact abW b fun x hx=>by rw[atF];exact h x (aoI _ hx)
theorem al5 {m:List Bool} {t:jP} (h1:fU m.length t.fr) (h2:fU m.length t.to):nT (bL m) t=bL (nT m t):=by
 unfold nT
 rw[abW false h1,abW true (by rw[dR];exact h2)]
def aad (c:aJ) (m:List Bool) (i:Nat):PV:=.tup [mQ (bf c m i).1,bP (bf c m i).2]
theorem aaR:aL Tryz.prog 61 (iO (fun a:aJ×List Bool×Nat=>[jJ a.1,uE a.2.1,iA a.2.2]) (fun a=>bD a.1=0∧jd a.1∧a.2.1.length=a.1.sts.length∧a.2.2<a.1.trs.length) (fun a=>aad a.1 a.2.1 a.2.2)):=by
 refine ⟨amh.1,fun ⟨c,m,i⟩ hp E vs w hg hh hA=>?_⟩
 obtain ⟨hc,ho,hm,hi⟩:=hp
 have hc:bD c=0:=hc
 have hm:m.length=c.sts.length:=hm
 have hi:i<c.trs.length:=hi
 obtain ⟨g1,g2,g3⟩:=kM hc hi
 have h24:=(gL hc).2.2.1.2
 have e1:uE (bL m)=uE m:=by unfold uE mQ;rw[aaZ]
 have e2:mQ (bf c (bL m) i).1=mQ (bf c m i).1∧(bf c (bL m) i).2=(bf c m i).2:=by
  unfold bf
  rw[abN]
  split
  ·refine ⟨?_,rfl⟩
   rw[al5 (by rw[hm];exact g1.2) (by rw[hm];exact g2.2)]
   unfold mQ;rw[aaZ]
  ·exact ⟨by unfold mQ;rw[aaZ],rfl⟩
 have key:=amh.2 (c,bL m,i) ⟨hc,ho,mK (by omega),hi⟩ E vs w hg hh (by
  show jV E vs [jJ c,uE (bL m),iA i]
  rw[e1];exact hA)
 refine key.mono fun e w' ⟨v,E',h1,h2,h3⟩=>⟨v,E',h1,?_,h3⟩
 have:PV.tup [mQ (bf c (bL m) i).1,bP (bf c (bL m) i).2]=aad c m i:=by unfold aad;rw[e2.1,e2.2]
 show aO _ v (aad c m i)
 rw[←this];exact h2
def dG (m:List Bool):List PV:=dW 24 (eP m)
def aqP (l:List Mk):LV:=.rw 117 24 l.length (fun k=>dG (l.getD k ay).1)
def aoU (l:List Mk):LV:=.rws 29 1 l.length (fun k=>[jD (l.getD k ay).2])
def yU (l:List Mk):MK→Option PV
 | .bools b=>if l.any (fun y=>decide (bL y.1=b)) then some (bP true) else none
 | _=>none
def knO (l:List Mk):Ob:=.map (.bools 24) l.length (yU l)
theorem anz {a b:List Bool} (hl:a.length=b.length) (h:bL a=bL b):a=b:=by
 unfold bL at h
 rw[hl] at h
 exact (List.append_inj' h rfl).1
theorem adR {l:List Mk} {m:List Bool} (hl:∀y∈l,y.1.length=m.length):yU l (.bools (bL m))=if sD l m then some (bP true) else none:=by
 unfold yU sD
 have:(l.any fun y=>decide (bL y.1=bL m))=l.any fun y=>decide (y.1=m):=by
  refine aqR.2 ?_
  simp only[atj,decide_eq_true_eq]
  exact ⟨fun ⟨y,hy,h⟩=>⟨y,hy,anz (hl y hy) h⟩,fun ⟨y,hy,h⟩=>⟨y,hy,by rw[h]⟩⟩
 show (if (l.any fun y=>decide (bL y.1=bL m))=true then some (bP true) else none)=_
 rw[this]
theorem aU (l:List Mk) (x:Mk) (k:MK):l5 (yU l) (.bools (bL x.1)) (bP true) k=yU (l++[x]) k:=by
 classical
 unfold l5
 split
 ·rename_i h;subst h
  show some (bP true)=if ((l++[x]).any fun y=>decide (bL y.1=bL x.1))=true then some (bP true) else none
  rw[if_pos (by simp)]
 ·rename_i h
  cases k with
  | bools b=>
   unfold yU
   have:decide (bL x.1=b)=false:=decide_eq_false fun e=>h (by rw[e])
   simp only[List.any_append,atX,List.any_nil,this,atQ]
  | int a=>rfl
  | str a=>rfl
def anQ (l:List Mk):PV:=.seq l.length (fun k=>dG (l.getD k ay).1)
def anZ (l:List Mk):PV:=.seq l.length (fun k=>[jD (l.getD k ay).2])
def wY (c:aJ):PV:=match uq c with
 | some l=>.tup [anQ l,anZ l,iP 0]
 | none=>.tup [anQ [],anZ [],iP 12]
theorem ajf {n:Nat} (h:0<n) (k:Nat):(sw n).getD k false=(k==0):=by
 unfold sw
 rw[abo,atS]
 by_cases e:k=0
 ·subst e;rw[if_pos rfl,if_pos (by rw[atA];exact h)];rfl
 ·rw[if_neg (fun h=>e h.symm),atW,show (k==0)=false by simpa using e]
  split<;>rfl
theorem ajA {n:Nat} (h:0<n):eP (sw n)=eP (sw 1):=funext fun k=>by unfold eP;rw[ajf h,ajf (by decide)]
theorem ahz (m:List Bool):takeN 24 (dJ 0 (dG m))=some (dW 24 (eP m)):=wS 24 (eP m)
theorem aW (a:List Mk) (x:Mk) {g:Nat→List PV} (hg:g 0=dG x.1):∀k,k<a.length+1→bS a.length (fun k=>dG (a.getD k ay).1) g k=dG ((a++[x]).getD k ay).1:=by
 intro k hk
 unfold bS
 by_cases h:k<a.length
 ·rw[if_pos h]
  show dG (a.getD k ay).1=_
  rw[abo,abo,afk h]
 ·obtain rfl:k=a.length:=by omega
  rw[if_neg h,atn,hg,abo,agH (aha _),atn];rfl
theorem abM {u u':PV} (h:gW u u'):bN [u] [u']:=by
 refine ⟨rfl,fun k s s' hs hs'=>?_⟩
 match k with
 | 0=>cases hs;cases hs';exact h
 | k+1=>simp at hs
theorem aV (a:List Mk) (x:Mk) {v:PV} (hv:gW v (jD x.2)):∀k,k<a.length+1→bN (bS a.length (fun k=>[jD (a.getD k ay).2]) (bn 1 [v]) k) [jD ((a++[x]).getD k ay).2]:=by
 intro k hk
 unfold bS
 by_cases h:k<a.length
 ·rw[if_pos h]
  refine bN.of ?_
  show [jD (a.getD k ay).2]=_
  rw[abo,abo,afk h]
 ·obtain rfl:k=a.length:=by omega
  rw[if_neg h,atn,abo,agH (aha _),atn]
  exact abM hv
theorem dB {l:List Int} (h:l.length=0) (k:Nat):gW (.seq 1 (bn 1 [iP (k:Int)])) (jD (l++[(k:Int)])):=by
 obtain rfl:=aqH.1 h
 exact aol rfl fun j hj=>by
  obtain rfl:j=0:=by omega
  rfl
theorem bW (l:List Int) (k:Nat):gW (.seq (0+l.length+1) (bS (0+l.length) (bS 0 (bn 1 []) (fun j=>[iP (l.getD j 0)])) (bn 1 [iP (k:Int)]))) (jD (l++[(k:Int)])):=by
 refine aol (by rw[aaf];simp) fun j hj=>adS (a:=l) (b:=[(k:Int)]) (aiF _) (fun j hj=>afF (n:=l.length) j (by omega)) (fun j hj=>?_) j (by rw[aaf];show j<l.length+1;omega)
 have hj:j<1:=hj
 obtain rfl:j=0:=by omega
 rfl
theorem apQ:yU []=fun _=>none:=funext fun k=>by cases k<;>rfl
theorem agv {l:List Mk} {x:Mk} (hl:∀y∈l,y.1.length=x.1.length) (h:sD l x.1=false):yU l (.bools (bL x.1))=none:=by
 rw[adR hl,if_neg (by rw[h];decide)]
set_option maxHeartbeats 16000000 in
theorem ajY:aL Tryz.prog 124 (iO (fun c:aJ=>[jJ c]) (fun c=>bD c=0∧jd c) wY):=by
 refine jy [63,3000066] ?_
 refine aY (Tb:=tab) mixed aB Tryz.func124 rfl rfl ?_
 rintro (c:aJ) hpre
 refine ai (ai rfl (ai rfl rfl)) ?_
 obtain ⟨hc,ho⟩:=hpre
 have hc:bD c=0:=hc
 have ho:jd c:=ho
 obtain ⟨_,_,⟨b3,b4⟩,b5,_⟩:=gL hc
 refine ai (ai (by decide) (by decide)) ?_
 refine ai (by decide) (ei (eP (sw c.sts.length)) (ai (by rw[ajA b3];rfl) ?_))
 refine ai rfl (ei (bL (sw c.sts.length)) (ai (ai (mK (by unfold sw;rw[atF,atA];exact b4)) (fun k _=>by rw[oF];rfl)) ?_))
 refine ei 1 (ai (ai (fun _=>rfl) (fun _ h=>by cases h)) ?_)
 refine ei (bE.inv { X:=Nat×List Mk,up:=fun x=>[(8,.s (iA x.1)),(5,aqP x.2),(6,aoU x.2)],uo:=fun x=>[⟨3,0,[.ob (knO x.2)]⟩],inv:=fun x=>x.1≤x.2.length∧x.2.length≤16384∧(ou c x.2∧aah x.1 x.2)∧qO c (16385-x.1) x.2 x.1=uq c,meas:=fun x=>16385-x.1,x0:=(0,mk1 c) }) ?_
 refine ai (ai (ai (by exact (a4 (ai rfl rfl))) (ai ?_ ?_)) ?_) (ai ?_ ?_)
 ·refine (ai (ai (ai (fun _=>rfl) (iE (by simp only[zz,reduceCtorEq];rfl))) rfl) (ai (ai rfl (ai rfl (ai rfl ?_))) (ai rfl (ai rfl (ai rfl ?_)))))
  ·intro k hk
   obtain rfl:k=0:=by omega
   show _=dG (sw c.sts.length)
   unfold dG;rw[ajA b3];rfl
  ·intro k hk
   have hk:k<1:=hk
   obtain rfl:k=0:=by omega
   exact abM (.nil _)
 ·refine (ai (ai rfl (ai rfl ?_)) trivial)
  intro k
  rw[←apQ]
  exact aU [] (sw c.sts.length,[]) k
 ·rfl
 ·exact ⟨afc _,by show 1≤16384;decide,⟨ahE c,fun y hy=>by simp only[mk1,aiy] at hy;subst hy;exact afc _⟩,rfl⟩
 rintro ⟨a,l⟩ ⟨hal,hll,⟨hg,hwl⟩,hr⟩
 have hal:a≤l.length:=hal
 have hll:l.length≤16384:=hll
 have hg:ou c l:=hg
 have hwl:aah a l:=hwl
 have hr:qO c (16385-a) l a=uq c:=hr
 refine ah (p:=a<l.length) (au (by dsimp only;omega)) (fun h1=>?_) (fun h1=>?_)
 ·refine ei (bE.inv { X:=Nat,up:=fun k=>[(29,.s (iA k)),(5,aqP (fJ c l a k)),(6,aoU (fJ c l a k))],uo:=fun k=>[⟨3,0,[.ob (knO (fJ c l a k))]⟩],inv:=fun k=>k≤c.trs.length∧((fJ c l a k).length≤16384),meas:=fun k=>c.trs.length-k,x0:=0 }) ?_
  refine ai (ai (ai (by exact (a4 (ai rfl rfl))) (ai ?_ ?_)) rfl) (ai (ai (afc _) ?_) ?_)
  ·refine (ai (ai (ai (fun _=>rfl) (iE (by simp only[zz,reduceCtorEq];rfl))) rfl) (ai (ai rfl (ai rfl (ai rfl (fun _ _=>rfl)))) (ai rfl (ai rfl (ai rfl ?_)))))
   exact fun k _=>bN.rfl' _
  ·exact (ai (ai rfl (ai rfl (fun _=>rfl))) trivial)
  ·exact hll
  intro (k:Nat) ⟨hk,hkl⟩
  have hgk:=good_row hg h1 hk
  have hways:=aeg (c:=c) h1 hwl k
  obtain ⟨t,ht⟩:=uh c l a k
  have hak:a<(fJ c l a k).length:=by rw[ht,aaf];omega
  refine ah (p:=k<c.trs.length) (au (by omega)) (fun h2=>?_) (fun h2=>?_)
  ·have hst:fJ c l a (k+1)=kD c (fJ c l a k) a k:=rfl
   have hrun:16384<(fJ c l a (k+1)).length→uq c=none:=fun h=>by
    rw[←hr,show 16385-a=(16384-a)+1 by omega]
    exact am2 h1 (show k+1≤c.trs.length from h2) h
   generalize fJ c l a k=L at *
   have hkl:L.length≤16384:=hkl
   have hga:=hgk _ (adh (bI ay hak))
   have hw:=hways _ (adh (bI ay hak))
   obtain ⟨q1,q2,q3⟩:=kM hc h2
   have hto:=qI ho h2
   have hnl:(aC c L a k).1.length=c.sts.length:=by
    show (nT _ _).length=_
    unfold nT;rw[dR,dR];exact hga.1
   have hln:∀y∈L,y.1.length=(aC c L a k).1.length:=fun y hy=>by rw[hnl];exact (hgk y hy).1
   refine ei (.one 0 (.one 1 (.one 2 (.one 3 (.one 4 (.one 5 (.alt 6 (.one 7 (.one 8 (.one 9 (.one 10 (.one 11 (.one 12 .done)))))) (.alt 10 (.one 6 (.one 7 (.one 8 (.one 9 (.one 11 (.one 12 .done)))))) .stop)))))))) (ai (by kernel_rfl) ?_)
   refine ai (ai (abq _) (by show (a:Int)<(L.length:Int);omega)) ?_
   refine ai (by show a<L.length;exact hak) (ei (eP (L.getD a ay).1) (ai (ahz _) ?_))
   refine ai ?_ (ai ?_ trivial)
   ·refine ei _ (ai (aaR) (ei ((c,(L.getD a ay).1,k)) (ei [] (ai (a4 (ai (fun _=>Or.inl rfl) (ai nof (Or.inl rfl)))) (ai (by exact (ai (ai rfl (ai (ai rfl (fun _ _=>rfl)) (ai (ai rfl (fun _ _=>rfl)) (ai rfl (fun _ _=>rfl))))) (ai (ai rfl (fun _ _=>rfl)) rfl))) (ai trivial (ai (⟨hc,ho,hga.1,h2⟩) ?_)))))))
    refine aX (b:=!(bf c (L.getD a ay).1 k).2) rfl (fun h3=>?_) (fun h3=>?_)
    ·have h3:allM (L.getD a ay).1 (uZ c k).fr=false:=by
      have h3:(bf c (L.getD a ay).1 k).2=false:=by simpa using h3
      unfold bf at h3
      split at h3
      ·cases h3
      ·rename_i h;exact att.2 h
     have e:fJ c l a (k+1)=L:=by rw[hst];unfold kD adds;rw[h3];simp
     refine ei (k+1) (ai (ai rfl rfl) (ai (ai (ai rfl (ai (ai rfl rfl) (ai (ai rfl rfl) (ai (ai (ai (ai (fun _=>rfl) (aP (by omega))) rfl) (ai (ai rfl (ai rfl (ai ?_ ?_))) (ai rfl (ai rfl (ai ?_ ?_))))) (ai (ai rfl (ai ?_ ?_)) trivial))))) rfl) (ai (ai (iL (by omega)) ?_) (iM (by omega)))))
     all_goals rw[e]
     ·exact fun _ _=>rfl
     ·exact fun k _=>bN.rfl' _
     ·exact fun _=>rfl
     ·exact hkl
    have h3:allM (L.getD a ay).1 (uZ c k).fr=true:=by
     have h3:(bf c (L.getD a ay).1 k).2=true:=by simpa using h3
     unfold bf at h3
     split at h3
     ·assumption
     ·cases h3
    have hcan:(bf c (L.getD a ay).1 k).1=(aC c L a k).1:=by unfold bf;exact congrArg Prod.fst (if_pos h3)
    have hkey:∀q,q<24→eP (bf c (L.getD a ay).1 k).1 q=.val (.bool ((bL (aC c L a k).1).getD q false)):=fun q _=>by rw[hcan,oF];rfl
    refine ai (ai rfl rfl) (ei (bL (aC c L a k).1) (ai (ai (mK (by omega)) hkey) ?_))
    refine ei (bP (sD L (aC c L a k).1)) (ei (sD L (aC c L a k).1) (ai ?_ ?_))
    ·show (∀d',yU L (.bools (bL (aC c L a k).1))=some d'→_)∧(yU L (.bools (bL (aC c L a k).1))=none→_)
     rw[adR hln]
     cases sD L (aC c L a k).1
     ·exact ⟨fun d' h=>by simp at h,fun _=>⟨rfl,rfl⟩⟩
     ·exact ⟨fun d' h=>by simp at h;exact ⟨h.symm,rfl⟩,fun h=>by simp at h⟩
    refine aX (b:=sD L (aC c L a k).1) rfl (fun h4=>?_) (fun h4=>?_)
    ·have e:fJ c l a (k+1)=L:=by rw[hst];unfold kD adds;rw[h4];simp
     refine ei (k+1) (ai (ai rfl rfl) (ai (ai (ai rfl (ai (ai rfl rfl) (ai (ai rfl rfl) (ai (ai (ai (ai (fun _=>rfl) (aP (by omega))) rfl) (ai (ai rfl (ai rfl (ai ?_ ?_))) (ai rfl (ai rfl (ai ?_ ?_))))) (ai (ai rfl (ai ?_ ?_)) trivial))))) rfl) (ai (ai (iL (by omega)) ?_) (iM (by omega)))))
     all_goals rw[e]
     ·exact fun _ _=>rfl
     ·exact fun k _=>bN.rfl' _
     ·exact fun _=>rfl
     ·exact hkl
    have hn:adds c L a k=true:=by unfold adds;rw[h3,h4];rfl
    have e:fJ c l a (k+1)=L++[aC c L a k]:=by rw[hst];unfold kD;rw[if_pos hn]
    refine ah (p:=L.length=16384) (gB (by omega)) (fun h5=>?_) (fun h5=>?_)
    ·refine ai (ai (fun h=>absurd (show false=true from h) (by decide)) ?_) trivial
     show ak _ (wY c)
     rw[wY,hrun (by rw[e,aaf];show 16384<L.length+1;omega)]
     exact (ai rfl (ai rfl rfl))
    refine ai rfl (ei (bL (aC c L a k).1) (ai (ai (mK (by omega)) hkey) ?_))
    refine ei (L.length+1) (ai (ai (fun _=>rfl) (fun d hd=>absurd ((agv hln h4).symm.trans hd) (by simp))) ?_)
    refine ei (.one 0 (.one 1 (.one 4 (.one 5 (.one 6 (.one 7 (.one 10 (.alt 2 (.alt 3 (.one 8 (.altw 9 (.one 11 (.one 12 (.one 13 (.one 14 (.one 15 (.one 16 .done)))))) (.alt 11 (.wr 9 (.one 12 (.one 13 (.one 14 (.one 15 (.one 16 .done)))))) .stop))) (.alt 8 (.alt 3 (.altw 9 (.one 11 (.one 12 (.one 13 (.one 14 (.one 15 (.one 16 .done)))))) (.alt 11 (.wr 9 (.one 12 (.one 13 (.one 14 (.one 15 (.one 16 .done)))))) .stop)) (.alt 11 (.one 3 (.wr 9 (.one 12 (.one 13 (.one 14 (.one 15 (.one 16 .done))))))) .stop)) (.alt 11 (.alt 3 (.one 8 (.wr 9 (.one 12 (.one 13 (.one 14 (.one 15 (.one 16 .done))))))) (.alt 8 (.one 3 (.wr 9 (.one 12 (.one 13 (.one 14 (.one 15 (.one 16 .done))))))) .stop)) .stop))) (.alt 8 (.alt 2 (.alt 3 (.altw 9 (.one 11 (.one 12 (.one 13 (.one 14 (.one 15 (.one 16 .done)))))) (.alt 11 (.wr 9 (.one 12 (.one 13 (.one 14 (.one 15 (.one 16 .done)))))) .stop)) (.alt 11 (.one 3 (.wr 9 (.one 12 (.one 13 (.one 14 (.one 15 (.one 16 .done))))))) .stop)) (.alt 11 (.one 2 (.one 3 (.wr 9 (.one 12 (.one 13 (.one 14 (.one 15 (.one 16 .done)))))))) .stop)) (.alt 11 (.alt 2 (.alt 3 (.one 8 (.wr 9 (.one 12 (.one 13 (.one 14 (.one 15 (.one 16 .done))))))) (.alt 8 (.one 3 (.wr 9 (.one 12 (.one 13 (.one 14 (.one 15 (.one 16 .done))))))) .stop)) (.alt 8 (.one 2 (.one 3 (.wr 9 (.one 12 (.one 13 (.one 14 (.one 15 (.one 16 .done)))))))) .stop)) .stop)))))))))) (ai (by kernel_rfl) ?_)
    refine ai (ai (abq _) (by show (a:Int)<(L.length:Int);omega)) ?_
    refine ai ?_ ?_
    ·refine ai ?_ ?_
     ·refine ai (mxL (n:=L.length+1) (by omega) (by decide)) (ai (lt1 rfl) ?_)
      refine ai (by show a<L.length;exact hak) ?_
      refine ai ?_ ?_
      ·refine fE mixed aB Tryz.func63 rfl rfl ?_
       refine ai rfl ?_
       intro b hb
       refine aZ (fun hb0=>?_) (fun hb0=>?_)
       ·have hb1:(L.getD a ay).2.length=0:=hb hb0
        refine ai (ai (by decide) (by decide)) (ai (aI 1 rfl) ?_)
        refine ai (mxL (n:=L.length+1) (by omega) (by decide)) (ai (aI 1 rfl) ?_)
        refine ei (k+1) (ai (ai rfl rfl) (ai (ai (ai rfl (ai (ai rfl rfl) (ai (ai rfl rfl) (ai (ai (ai (ai (fun _=>rfl) (aP (by omega))) rfl) (ai (ai rfl (ai rfl (ai ?_ ?_))) (ai rfl (ai rfl (ai ?_ ?_))))) (ai (ai rfl (ai ?_ ?_)) trivial))))) rfl) (ai (ai (iL (by omega)) ?_) (iM (by omega)))))
        all_goals rw[e]
        ·rw[aaf];rfl
        ·exact aW L (aC c L a k) (show dG (bf c (L.getD a ay).1 k).1=_ by rw[hcan])
        ·rw[aaf];rfl
        ·exact aV L (aC c L a k) (dB hb1 k)
        ·rw[aaf];rfl
        ·exact aU L (aC c L a k)
        ·rw[aaf];show L.length+1≤16384;omega
       ·refine ai (mxL (n:=0+(L.getD a ay).2.length) (by omega) (by decide)) (ai (fun _ _=>rfl) ?_)
        refine ai (mxL (n:=0+(L.getD a ay).2.length+1) (by omega) (by decide)) (ai (aI 1 rfl) ?_)
        refine ai (mxL (n:=L.length+1) (by omega) (by decide)) (ai (aI 1 rfl) ?_)
        refine ei (k+1) (ai (ai rfl rfl) (ai (ai (ai rfl (ai (ai rfl rfl) (ai (ai rfl rfl) (ai (ai (ai (ai (fun _=>rfl) (aP (by omega))) rfl) (ai (ai rfl (ai rfl (ai ?_ ?_))) (ai rfl (ai rfl (ai ?_ ?_))))) (ai (ai rfl (ai ?_ ?_)) trivial))))) rfl) (ai (ai (iL (by omega)) ?_) (iM (by omega)))))
        all_goals rw[e]
        ·rw[aaf];rfl
        ·exact aW L (aC c L a k) (show dG (bf c (L.getD a ay).1 k).1=_ by rw[hcan])
        ·rw[aaf];rfl
        ·exact aV L (aC c L a k) (bW (L.getD a ay).2 k)
        ·rw[aaf];rfl
        ·exact aU L (aC c L a k)
        ·rw[aaf];show L.length+1≤16384;omega
      refine ai ?_ trivial
      refine fE mixed aB Tryz.func63 rfl rfl ?_
      refine ai rfl ?_
      intro b hb
      refine aZ (fun hb0=>?_) (fun hb0=>?_)
      ·have hb1:(L.getD a ay).2.length=0:=hb hb0
       refine ai (ai (by decide) (by decide)) (ai (aI 1 rfl) ?_)
       refine ai (mxL (n:=L.length+1) (by omega) (by decide)) (ai (aI 1 rfl) ?_)
       refine ei (k+1) (ai (ai rfl rfl) (ai (ai (ai rfl (ai (ai rfl rfl) (ai (ai rfl rfl) (ai (ai (ai (ai (fun _=>rfl) (aP (by omega))) rfl) (ai (ai rfl (ai rfl (ai ?_ ?_))) (ai rfl (ai rfl (ai ?_ ?_))))) (ai (ai rfl (ai ?_ ?_)) trivial))))) rfl) (ai (ai (iL (by omega)) ?_) (iM (by omega)))))
       all_goals rw[e]
       ·rw[aaf];rfl
       ·exact aW L (aC c L a k) (show dG (bf c (L.getD a ay).1 k).1=_ by rw[hcan])
       ·rw[aaf];rfl
       ·exact aV L (aC c L a k) (dB hb1 k)
       ·rw[aaf];rfl
       ·exact aU L (aC c L a k)
       ·rw[aaf];show L.length+1≤16384;omega
      ·refine ai (mxL (n:=0+(L.getD a ay).2.length) (by omega) (by decide)) (ai (fun _ _=>rfl) ?_)
       refine ai (mxL (n:=0+(L.getD a ay).2.length+1) (by omega) (by decide)) (ai (aI 1 rfl) ?_)
       refine ai (mxL (n:=L.length+1) (by omega) (by decide)) (ai (aI 1 rfl) ?_)
       refine ei (k+1) (ai (ai rfl rfl) (ai (ai (ai rfl (ai (ai rfl rfl) (ai (ai rfl rfl) (ai (ai (ai (ai (fun _=>rfl) (aP (by omega))) rfl) (ai (ai rfl (ai rfl (ai ?_ ?_))) (ai rfl (ai rfl (ai ?_ ?_))))) (ai (ai rfl (ai ?_ ?_)) trivial))))) rfl) (ai (ai (iL (by omega)) ?_) (iM (by omega)))))
       all_goals rw[e]
       ·rw[aaf];rfl
       ·exact aW L (aC c L a k) (show dG (bf c (L.getD a ay).1 k).1=_ by rw[hcan])
       ·rw[aaf];rfl
       ·exact aV L (aC c L a k) (bW (L.getD a ay).2 k)
       ·rw[aaf];rfl
       ·exact aU L (aC c L a k)
       ·rw[aaf];show L.length+1≤16384;omega
     refine ai ?_ ?_
     ·refine ai (by show a<L.length;exact hak) ?_
      refine ai ?_ ?_
      ·refine ai (mxL (n:=L.length+1) (by omega) (by decide)) (ai (lt1 rfl) ?_)
       refine ai ?_ ?_
       ·refine fE mixed aB Tryz.func63 rfl rfl ?_
        refine ai rfl ?_
        intro b hb
        refine aZ (fun hb0=>?_) (fun hb0=>?_)
        ·have hb1:(L.getD a ay).2.length=0:=hb hb0
         refine ai (ai (by decide) (by decide)) (ai (aI 1 rfl) ?_)
         refine ai (mxL (n:=L.length+1) (by omega) (by decide)) (ai (aI 1 rfl) ?_)
         refine ei (k+1) (ai (ai rfl rfl) (ai (ai (ai rfl (ai (ai rfl rfl) (ai (ai rfl rfl) (ai (ai (ai (ai (fun _=>rfl) (aP (by omega))) rfl) (ai (ai rfl (ai rfl (ai ?_ ?_))) (ai rfl (ai rfl (ai ?_ ?_))))) (ai (ai rfl (ai ?_ ?_)) trivial))))) rfl) (ai (ai (iL (by omega)) ?_) (iM (by omega)))))
         all_goals rw[e]
         ·rw[aaf];rfl
         ·exact aW L (aC c L a k) (show dG (bf c (L.getD a ay).1 k).1=_ by rw[hcan])
         ·rw[aaf];rfl
         ·exact aV L (aC c L a k) (dB hb1 k)
         ·rw[aaf];rfl
         ·exact aU L (aC c L a k)
         ·rw[aaf];show L.length+1≤16384;omega
        ·refine ai (mxL (n:=0+(L.getD a ay).2.length) (by omega) (by decide)) (ai (fun _ _=>rfl) ?_)
         refine ai (mxL (n:=0+(L.getD a ay).2.length+1) (by omega) (by decide)) (ai (aI 1 rfl) ?_)
         refine ai (mxL (n:=L.length+1) (by omega) (by decide)) (ai (aI 1 rfl) ?_)
         refine ei (k+1) (ai (ai rfl rfl) (ai (ai (ai rfl (ai (ai rfl rfl) (ai (ai rfl rfl) (ai (ai (ai (ai (fun _=>rfl) (aP (by omega))) rfl) (ai (ai rfl (ai rfl (ai ?_ ?_))) (ai rfl (ai rfl (ai ?_ ?_))))) (ai (ai rfl (ai ?_ ?_)) trivial))))) rfl) (ai (ai (iL (by omega)) ?_) (iM (by omega)))))
         all_goals rw[e]
         ·rw[aaf];rfl
         ·exact aW L (aC c L a k) (show dG (bf c (L.getD a ay).1 k).1=_ by rw[hcan])
         ·rw[aaf];rfl
         ·exact aV L (aC c L a k) (bW (L.getD a ay).2 k)
         ·rw[aaf];rfl
         ·exact aU L (aC c L a k)
         ·rw[aaf];show L.length+1≤16384;omega
       refine ai ?_ trivial
       refine fE mixed aB Tryz.func63 rfl rfl ?_
       refine ai rfl ?_
       intro b hb
       refine aZ (fun hb0=>?_) (fun hb0=>?_)
       ·have hb1:(L.getD a ay).2.length=0:=hb hb0
        refine ai (ai (by decide) (by decide)) (ai (aI 1 rfl) ?_)
        refine ai (mxL (n:=L.length+1) (by omega) (by decide)) (ai (aI 1 rfl) ?_)
        refine ei (k+1) (ai (ai rfl rfl) (ai (ai (ai rfl (ai (ai rfl rfl) (ai (ai rfl rfl) (ai (ai (ai (ai (fun _=>rfl) (aP (by omega))) rfl) (ai (ai rfl (ai rfl (ai ?_ ?_))) (ai rfl (ai rfl (ai ?_ ?_))))) (ai (ai rfl (ai ?_ ?_)) trivial))))) rfl) (ai (ai (iL (by omega)) ?_) (iM (by omega)))))
        all_goals rw[e]
        ·rw[aaf];rfl
        ·exact aW L (aC c L a k) (show dG (bf c (L.getD a ay).1 k).1=_ by rw[hcan])
        ·rw[aaf];rfl
        ·exact aV L (aC c L a k) (dB hb1 k)
        ·rw[aaf];rfl
        ·exact aU L (aC c L a k)
        ·rw[aaf];show L.length+1≤16384;omega
       ·refine ai (mxL (n:=0+(L.getD a ay).2.length) (by omega) (by decide)) (ai (fun _ _=>rfl) ?_)
        refine ai (mxL (n:=0+(L.getD a ay).2.length+1) (by omega) (by decide)) (ai (aI 1 rfl) ?_)
        refine ai (mxL (n:=L.length+1) (by omega) (by decide)) (ai (aI 1 rfl) ?_)
        refine ei (k+1) (ai (ai rfl rfl) (ai (ai (ai rfl (ai (ai rfl rfl) (ai (ai rfl rfl) (ai (ai (ai (ai (fun _=>rfl) (aP (by omega))) rfl) (ai (ai rfl (ai rfl (ai ?_ ?_))) (ai rfl (ai rfl (ai ?_ ?_))))) (ai (ai rfl (ai ?_ ?_)) trivial))))) rfl) (ai (ai (iL (by omega)) ?_) (iM (by omega)))))
        all_goals rw[e]
        ·rw[aaf];rfl
        ·exact aW L (aC c L a k) (show dG (bf c (L.getD a ay).1 k).1=_ by rw[hcan])
        ·rw[aaf];rfl
        ·exact aV L (aC c L a k) (bW (L.getD a ay).2 k)
        ·rw[aaf];rfl
        ·exact aU L (aC c L a k)
        ·rw[aaf];show L.length+1≤16384;omega
      refine ai ?_ trivial
      refine ai (mxL (n:=L.length+1) (by omega) (by decide)) (ai (lt1 rfl) ?_)
      refine fE mixed aB Tryz.func63 rfl rfl ?_
      refine ai rfl ?_
      intro b hb
      refine aZ (fun hb0=>?_) (fun hb0=>?_)
      ·have hb1:(L.getD a ay).2.length=0:=hb hb0
       refine ai (ai (by decide) (by decide)) (ai (aI 1 rfl) ?_)
       refine ai (mxL (n:=L.length+1) (by omega) (by decide)) (ai (aI 1 rfl) ?_)
       refine ei (k+1) (ai (ai rfl rfl) (ai (ai (ai rfl (ai (ai rfl rfl) (ai (ai rfl rfl) (ai (ai (ai (ai (fun _=>rfl) (aP (by omega))) rfl) (ai (ai rfl (ai rfl (ai ?_ ?_))) (ai rfl (ai rfl (ai ?_ ?_))))) (ai (ai rfl (ai ?_ ?_)) trivial))))) rfl) (ai (ai (iL (by omega)) ?_) (iM (by omega)))))
       all_goals rw[e]
       ·rw[aaf];rfl
       ·exact aW L (aC c L a k) (show dG (bf c (L.getD a ay).1 k).1=_ by rw[hcan])
       ·rw[aaf];rfl
       ·exact aV L (aC c L a k) (dB hb1 k)
       ·rw[aaf];rfl
       ·exact aU L (aC c L a k)
       ·rw[aaf];show L.length+1≤16384;omega
      ·refine ai (mxL (n:=0+(L.getD a ay).2.length) (by omega) (by decide)) (ai (fun _ _=>rfl) ?_)
       refine ai (mxL (n:=0+(L.getD a ay).2.length+1) (by omega) (by decide)) (ai (aI 1 rfl) ?_)
       refine ai (mxL (n:=L.length+1) (by omega) (by decide)) (ai (aI 1 rfl) ?_)
       refine ei (k+1) (ai (ai rfl rfl) (ai (ai (ai rfl (ai (ai rfl rfl) (ai (ai rfl rfl) (ai (ai (ai (ai (fun _=>rfl) (aP (by omega))) rfl) (ai (ai rfl (ai rfl (ai ?_ ?_))) (ai rfl (ai rfl (ai ?_ ?_))))) (ai (ai rfl (ai ?_ ?_)) trivial))))) rfl) (ai (ai (iL (by omega)) ?_) (iM (by omega)))))
       all_goals rw[e]
       ·rw[aaf];rfl
       ·exact aW L (aC c L a k) (show dG (bf c (L.getD a ay).1 k).1=_ by rw[hcan])
       ·rw[aaf];rfl
       ·exact aV L (aC c L a k) (bW (L.getD a ay).2 k)
       ·rw[aaf];rfl
       ·exact aU L (aC c L a k)
       ·rw[aaf];show L.length+1≤16384;omega
     refine ai ?_ trivial
     refine ai ?_ ?_
     ·refine ai (mxL (n:=L.length+1) (by omega) (by decide)) (ai (lt1 rfl) ?_)
      refine ai (by show a<L.length;exact hak) ?_
      refine fE mixed aB Tryz.func63 rfl rfl ?_
      refine ai rfl ?_
      intro b hb
      refine aZ (fun hb0=>?_) (fun hb0=>?_)
      ·have hb1:(L.getD a ay).2.length=0:=hb hb0
       refine ai (ai (by decide) (by decide)) (ai (aI 1 rfl) ?_)
       refine ai (mxL (n:=L.length+1) (by omega) (by decide)) (ai (aI 1 rfl) ?_)
       refine ei (k+1) (ai (ai rfl rfl) (ai (ai (ai rfl (ai (ai rfl rfl) (ai (ai rfl rfl) (ai (ai (ai (ai (fun _=>rfl) (aP (by omega))) rfl) (ai (ai rfl (ai rfl (ai ?_ ?_))) (ai rfl (ai rfl (ai ?_ ?_))))) (ai (ai rfl (ai ?_ ?_)) trivial))))) rfl) (ai (ai (iL (by omega)) ?_) (iM (by omega)))))
       all_goals rw[e]
       ·rw[aaf];rfl
       ·exact aW L (aC c L a k) (show dG (bf c (L.getD a ay).1 k).1=_ by rw[hcan])
       ·rw[aaf];rfl
       ·exact aV L (aC c L a k) (dB hb1 k)
       ·rw[aaf];rfl
       ·exact aU L (aC c L a k)
       ·rw[aaf];show L.length+1≤16384;omega
      ·refine ai (mxL (n:=0+(L.getD a ay).2.length) (by omega) (by decide)) (ai (fun _ _=>rfl) ?_)
       refine ai (mxL (n:=0+(L.getD a ay).2.length+1) (by omega) (by decide)) (ai (aI 1 rfl) ?_)
       refine ai (mxL (n:=L.length+1) (by omega) (by decide)) (ai (aI 1 rfl) ?_)
       refine ei (k+1) (ai (ai rfl rfl) (ai (ai (ai rfl (ai (ai rfl rfl) (ai (ai rfl rfl) (ai (ai (ai (ai (fun _=>rfl) (aP (by omega))) rfl) (ai (ai rfl (ai rfl (ai ?_ ?_))) (ai rfl (ai rfl (ai ?_ ?_))))) (ai (ai rfl (ai ?_ ?_)) trivial))))) rfl) (ai (ai (iL (by omega)) ?_) (iM (by omega)))))
       all_goals rw[e]
       ·rw[aaf];rfl
       ·exact aW L (aC c L a k) (show dG (bf c (L.getD a ay).1 k).1=_ by rw[hcan])
       ·rw[aaf];rfl
       ·exact aV L (aC c L a k) (bW (L.getD a ay).2 k)
       ·rw[aaf];rfl
       ·exact aU L (aC c L a k)
       ·rw[aaf];show L.length+1≤16384;omega
     refine ai ?_ trivial
     refine ai (by show a<L.length;exact hak) ?_
     refine ai (mxL (n:=L.length+1) (by omega) (by decide)) (ai (lt1 rfl) ?_)
     refine fE mixed aB Tryz.func63 rfl rfl ?_
     refine ai rfl ?_
     intro b hb
     refine aZ (fun hb0=>?_) (fun hb0=>?_)
     ·have hb1:(L.getD a ay).2.length=0:=hb hb0
      refine ai (ai (by decide) (by decide)) (ai (aI 1 rfl) ?_)
      refine ai (mxL (n:=L.length+1) (by omega) (by decide)) (ai (aI 1 rfl) ?_)
      refine ei (k+1) (ai (ai rfl rfl) (ai (ai (ai rfl (ai (ai rfl rfl) (ai (ai rfl rfl) (ai (ai (ai (ai (fun _=>rfl) (aP (by omega))) rfl) (ai (ai rfl (ai rfl (ai ?_ ?_))) (ai rfl (ai rfl (ai ?_ ?_))))) (ai (ai rfl (ai ?_ ?_)) trivial))))) rfl) (ai (ai (iL (by omega)) ?_) (iM (by omega)))))
      all_goals rw[e]
      ·rw[aaf];rfl
      ·exact aW L (aC c L a k) (show dG (bf c (L.getD a ay).1 k).1=_ by rw[hcan])
      ·rw[aaf];rfl
      ·exact aV L (aC c L a k) (dB hb1 k)
      ·rw[aaf];rfl
      ·exact aU L (aC c L a k)
      ·rw[aaf];show L.length+1≤16384;omega
     ·refine ai (mxL (n:=0+(L.getD a ay).2.length) (by omega) (by decide)) (ai (fun _ _=>rfl) ?_)
      refine ai (mxL (n:=0+(L.getD a ay).2.length+1) (by omega) (by decide)) (ai (aI 1 rfl) ?_)
      refine ai (mxL (n:=L.length+1) (by omega) (by decide)) (ai (aI 1 rfl) ?_)
      refine ei (k+1) (ai (ai rfl rfl) (ai (ai (ai rfl (ai (ai rfl rfl) (ai (ai rfl rfl) (ai (ai (ai (ai (fun _=>rfl) (aP (by omega))) rfl) (ai (ai rfl (ai rfl (ai ?_ ?_))) (ai rfl (ai rfl (ai ?_ ?_))))) (ai (ai rfl (ai ?_ ?_)) trivial))))) rfl) (ai (ai (iL (by omega)) ?_) (iM (by omega)))))
      all_goals rw[e]
      ·rw[aaf];rfl
      ·exact aW L (aC c L a k) (show dG (bf c (L.getD a ay).1 k).1=_ by rw[hcan])
      ·rw[aaf];rfl
      ·exact aV L (aC c L a k) (bW (L.getD a ay).2 k)
      ·rw[aaf];rfl
      ·exact aU L (aC c L a k)
      ·rw[aaf];show L.length+1≤16384;omega
    refine ai ?_ ?_
    ·refine ai (by show a<L.length;exact hak) ?_
     refine ai ?_ ?_
     ·refine ai ?_ ?_
      ·refine ai (mxL (n:=L.length+1) (by omega) (by decide)) (ai (lt1 rfl) ?_)
       refine ai ?_ ?_
       ·refine fE mixed aB Tryz.func63 rfl rfl ?_
        refine ai rfl ?_
        intro b hb
        refine aZ (fun hb0=>?_) (fun hb0=>?_)
        ·have hb1:(L.getD a ay).2.length=0:=hb hb0
         refine ai (ai (by decide) (by decide)) (ai (aI 1 rfl) ?_)
         refine ai (mxL (n:=L.length+1) (by omega) (by decide)) (ai (aI 1 rfl) ?_)
         refine ei (k+1) (ai (ai rfl rfl) (ai (ai (ai rfl (ai (ai rfl rfl) (ai (ai rfl rfl) (ai (ai (ai (ai (fun _=>rfl) (aP (by omega))) rfl) (ai (ai rfl (ai rfl (ai ?_ ?_))) (ai rfl (ai rfl (ai ?_ ?_))))) (ai (ai rfl (ai ?_ ?_)) trivial))))) rfl) (ai (ai (iL (by omega)) ?_) (iM (by omega)))))
         all_goals rw[e]
         ·rw[aaf];rfl
         ·exact aW L (aC c L a k) (show dG (bf c (L.getD a ay).1 k).1=_ by rw[hcan])
         ·rw[aaf];rfl
         ·exact aV L (aC c L a k) (dB hb1 k)
         ·rw[aaf];rfl
         ·exact aU L (aC c L a k)
         ·rw[aaf];show L.length+1≤16384;omega
        ·refine ai (mxL (n:=0+(L.getD a ay).2.length) (by omega) (by decide)) (ai (fun _ _=>rfl) ?_)
         refine ai (mxL (n:=0+(L.getD a ay).2.length+1) (by omega) (by decide)) (ai (aI 1 rfl) ?_)
         refine ai (mxL (n:=L.length+1) (by omega) (by decide)) (ai (aI 1 rfl) ?_)
         refine ei (k+1) (ai (ai rfl rfl) (ai (ai (ai rfl (ai (ai rfl rfl) (ai (ai rfl rfl) (ai (ai (ai (ai (fun _=>rfl) (aP (by omega))) rfl) (ai (ai rfl (ai rfl (ai ?_ ?_))) (ai rfl (ai rfl (ai ?_ ?_))))) (ai (ai rfl (ai ?_ ?_)) trivial))))) rfl) (ai (ai (iL (by omega)) ?_) (iM (by omega)))))
         all_goals rw[e]
         ·rw[aaf];rfl
         ·exact aW L (aC c L a k) (show dG (bf c (L.getD a ay).1 k).1=_ by rw[hcan])
         ·rw[aaf];rfl
         ·exact aV L (aC c L a k) (bW (L.getD a ay).2 k)
         ·rw[aaf];rfl
         ·exact aU L (aC c L a k)
         ·rw[aaf];show L.length+1≤16384;omega
       refine ai ?_ trivial
       refine fE mixed aB Tryz.func63 rfl rfl ?_
       refine ai rfl ?_
       intro b hb
       refine aZ (fun hb0=>?_) (fun hb0=>?_)
       ·have hb1:(L.getD a ay).2.length=0:=hb hb0
        refine ai (ai (by decide) (by decide)) (ai (aI 1 rfl) ?_)
        refine ai (mxL (n:=L.length+1) (by omega) (by decide)) (ai (aI 1 rfl) ?_)
        refine ei (k+1) (ai (ai rfl rfl) (ai (ai (ai rfl (ai (ai rfl rfl) (ai (ai rfl rfl) (ai (ai (ai (ai (fun _=>rfl) (aP (by omega))) rfl) (ai (ai rfl (ai rfl (ai ?_ ?_))) (ai rfl (ai rfl (ai ?_ ?_))))) (ai (ai rfl (ai ?_ ?_)) trivial))))) rfl) (ai (ai (iL (by omega)) ?_) (iM (by omega)))))
        all_goals rw[e]
        ·rw[aaf];rfl
        ·exact aW L (aC c L a k) (show dG (bf c (L.getD a ay).1 k).1=_ by rw[hcan])
        ·rw[aaf];rfl
        ·exact aV L (aC c L a k) (dB hb1 k)
        ·rw[aaf];rfl
        ·exact aU L (aC c L a k)
        ·rw[aaf];show L.length+1≤16384;omega
       ·refine ai (mxL (n:=0+(L.getD a ay).2.length) (by omega) (by decide)) (ai (fun _ _=>rfl) ?_)
        refine ai (mxL (n:=0+(L.getD a ay).2.length+1) (by omega) (by decide)) (ai (aI 1 rfl) ?_)
        refine ai (mxL (n:=L.length+1) (by omega) (by decide)) (ai (aI 1 rfl) ?_)
        refine ei (k+1) (ai (ai rfl rfl) (ai (ai (ai rfl (ai (ai rfl rfl) (ai (ai rfl rfl) (ai (ai (ai (ai (fun _=>rfl) (aP (by omega))) rfl) (ai (ai rfl (ai rfl (ai ?_ ?_))) (ai rfl (ai rfl (ai ?_ ?_))))) (ai (ai rfl (ai ?_ ?_)) trivial))))) rfl) (ai (ai (iL (by omega)) ?_) (iM (by omega)))))
        all_goals rw[e]
        ·rw[aaf];rfl
        ·exact aW L (aC c L a k) (show dG (bf c (L.getD a ay).1 k).1=_ by rw[hcan])
        ·rw[aaf];rfl
        ·exact aV L (aC c L a k) (bW (L.getD a ay).2 k)
        ·rw[aaf];rfl
        ·exact aU L (aC c L a k)
        ·rw[aaf];show L.length+1≤16384;omega
      refine ai ?_ trivial
      refine ai (mxL (n:=L.length+1) (by omega) (by decide)) (ai (lt1 rfl) ?_)
      refine fE mixed aB Tryz.func63 rfl rfl ?_
      refine ai rfl ?_
      intro b hb
      refine aZ (fun hb0=>?_) (fun hb0=>?_)
      ·have hb1:(L.getD a ay).2.length=0:=hb hb0
       refine ai (ai (by decide) (by decide)) (ai (aI 1 rfl) ?_)
       refine ai (mxL (n:=L.length+1) (by omega) (by decide)) (ai (aI 1 rfl) ?_)
       refine ei (k+1) (ai (ai rfl rfl) (ai (ai (ai rfl (ai (ai rfl rfl) (ai (ai rfl rfl) (ai (ai (ai (ai (fun _=>rfl) (aP (by omega))) rfl) (ai (ai rfl (ai rfl (ai ?_ ?_))) (ai rfl (ai rfl (ai ?_ ?_))))) (ai (ai rfl (ai ?_ ?_)) trivial))))) rfl) (ai (ai (iL (by omega)) ?_) (iM (by omega)))))
       all_goals rw[e]
       ·rw[aaf];rfl
       ·exact aW L (aC c L a k) (show dG (bf c (L.getD a ay).1 k).1=_ by rw[hcan])
       ·rw[aaf];rfl
       ·exact aV L (aC c L a k) (dB hb1 k)
       ·rw[aaf];rfl
       ·exact aU L (aC c L a k)
       ·rw[aaf];show L.length+1≤16384;omega
      ·refine ai (mxL (n:=0+(L.getD a ay).2.length) (by omega) (by decide)) (ai (fun _ _=>rfl) ?_)
       refine ai (mxL (n:=0+(L.getD a ay).2.length+1) (by omega) (by decide)) (ai (aI 1 rfl) ?_)
       refine ai (mxL (n:=L.length+1) (by omega) (by decide)) (ai (aI 1 rfl) ?_)
       refine ei (k+1) (ai (ai rfl rfl) (ai (ai (ai rfl (ai (ai rfl rfl) (ai (ai rfl rfl) (ai (ai (ai (ai (fun _=>rfl) (aP (by omega))) rfl) (ai (ai rfl (ai rfl (ai ?_ ?_))) (ai rfl (ai rfl (ai ?_ ?_))))) (ai (ai rfl (ai ?_ ?_)) trivial))))) rfl) (ai (ai (iL (by omega)) ?_) (iM (by omega)))))
       all_goals rw[e]
       ·rw[aaf];rfl
       ·exact aW L (aC c L a k) (show dG (bf c (L.getD a ay).1 k).1=_ by rw[hcan])
       ·rw[aaf];rfl
       ·exact aV L (aC c L a k) (bW (L.getD a ay).2 k)
       ·rw[aaf];rfl
       ·exact aU L (aC c L a k)
       ·rw[aaf];show L.length+1≤16384;omega
     refine ai ?_ trivial
     refine ai (mxL (n:=L.length+1) (by omega) (by decide)) (ai (lt1 rfl) ?_)
     refine fE mixed aB Tryz.func63 rfl rfl ?_
     refine ai rfl ?_
     intro b hb
     refine aZ (fun hb0=>?_) (fun hb0=>?_)
     ·have hb1:(L.getD a ay).2.length=0:=hb hb0
      refine ai (ai (by decide) (by decide)) (ai (aI 1 rfl) ?_)
      refine ai (mxL (n:=L.length+1) (by omega) (by decide)) (ai (aI 1 rfl) ?_)
      refine ei (k+1) (ai (ai rfl rfl) (ai (ai (ai rfl (ai (ai rfl rfl) (ai (ai rfl rfl) (ai (ai (ai (ai (fun _=>rfl) (aP (by omega))) rfl) (ai (ai rfl (ai rfl (ai ?_ ?_))) (ai rfl (ai rfl (ai ?_ ?_))))) (ai (ai rfl (ai ?_ ?_)) trivial))))) rfl) (ai (ai (iL (by omega)) ?_) (iM (by omega)))))
      all_goals rw[e]
      ·rw[aaf];rfl
      ·exact aW L (aC c L a k) (show dG (bf c (L.getD a ay).1 k).1=_ by rw[hcan])
      ·rw[aaf];rfl
      ·exact aV L (aC c L a k) (dB hb1 k)
      ·rw[aaf];rfl
      ·exact aU L (aC c L a k)
      ·rw[aaf];show L.length+1≤16384;omega
     ·refine ai (mxL (n:=0+(L.getD a ay).2.length) (by omega) (by decide)) (ai (fun _ _=>rfl) ?_)
      refine ai (mxL (n:=0+(L.getD a ay).2.length+1) (by omega) (by decide)) (ai (aI 1 rfl) ?_)
      refine ai (mxL (n:=L.length+1) (by omega) (by decide)) (ai (aI 1 rfl) ?_)
      refine ei (k+1) (ai (ai rfl rfl) (ai (ai (ai rfl (ai (ai rfl rfl) (ai (ai rfl rfl) (ai (ai (ai (ai (fun _=>rfl) (aP (by omega))) rfl) (ai (ai rfl (ai rfl (ai ?_ ?_))) (ai rfl (ai rfl (ai ?_ ?_))))) (ai (ai rfl (ai ?_ ?_)) trivial))))) rfl) (ai (ai (iL (by omega)) ?_) (iM (by omega)))))
      all_goals rw[e]
      ·rw[aaf];rfl
      ·exact aW L (aC c L a k) (show dG (bf c (L.getD a ay).1 k).1=_ by rw[hcan])
      ·rw[aaf];rfl
      ·exact aV L (aC c L a k) (bW (L.getD a ay).2 k)
      ·rw[aaf];rfl
      ·exact aU L (aC c L a k)
      ·rw[aaf];show L.length+1≤16384;omega
    refine ai ?_ trivial
    refine ai ?_ ?_
    ·refine ai ?_ ?_
     ·refine ai (mxL (n:=L.length+1) (by omega) (by decide)) (ai (lt1 rfl) ?_)
      refine ai (by show a<L.length;exact hak) ?_
      refine fE mixed aB Tryz.func63 rfl rfl ?_
      refine ai rfl ?_
      intro b hb
      refine aZ (fun hb0=>?_) (fun hb0=>?_)
      ·have hb1:(L.getD a ay).2.length=0:=hb hb0
       refine ai (ai (by decide) (by decide)) (ai (aI 1 rfl) ?_)
       refine ai (mxL (n:=L.length+1) (by omega) (by decide)) (ai (aI 1 rfl) ?_)
       refine ei (k+1) (ai (ai rfl rfl) (ai (ai (ai rfl (ai (ai rfl rfl) (ai (ai rfl rfl) (ai (ai (ai (ai (fun _=>rfl) (aP (by omega))) rfl) (ai (ai rfl (ai rfl (ai ?_ ?_))) (ai rfl (ai rfl (ai ?_ ?_))))) (ai (ai rfl (ai ?_ ?_)) trivial))))) rfl) (ai (ai (iL (by omega)) ?_) (iM (by omega)))))
       all_goals rw[e]
       ·rw[aaf];rfl
       ·exact aW L (aC c L a k) (show dG (bf c (L.getD a ay).1 k).1=_ by rw[hcan])
       ·rw[aaf];rfl
       ·exact aV L (aC c L a k) (dB hb1 k)
       ·rw[aaf];rfl
       ·exact aU L (aC c L a k)
       ·rw[aaf];show L.length+1≤16384;omega
      ·refine ai (mxL (n:=0+(L.getD a ay).2.length) (by omega) (by decide)) (ai (fun _ _=>rfl) ?_)
       refine ai (mxL (n:=0+(L.getD a ay).2.length+1) (by omega) (by decide)) (ai (aI 1 rfl) ?_)
       refine ai (mxL (n:=L.length+1) (by omega) (by decide)) (ai (aI 1 rfl) ?_)
       refine ei (k+1) (ai (ai rfl rfl) (ai (ai (ai rfl (ai (ai rfl rfl) (ai (ai rfl rfl) (ai (ai (ai (ai (fun _=>rfl) (aP (by omega))) rfl) (ai (ai rfl (ai rfl (ai ?_ ?_))) (ai rfl (ai rfl (ai ?_ ?_))))) (ai (ai rfl (ai ?_ ?_)) trivial))))) rfl) (ai (ai (iL (by omega)) ?_) (iM (by omega)))))
       all_goals rw[e]
       ·rw[aaf];rfl
       ·exact aW L (aC c L a k) (show dG (bf c (L.getD a ay).1 k).1=_ by rw[hcan])
       ·rw[aaf];rfl
       ·exact aV L (aC c L a k) (bW (L.getD a ay).2 k)
       ·rw[aaf];rfl
       ·exact aU L (aC c L a k)
       ·rw[aaf];show L.length+1≤16384;omega
     refine ai ?_ trivial
     refine ai (by show a<L.length;exact hak) ?_
     refine ai (mxL (n:=L.length+1) (by omega) (by decide)) (ai (lt1 rfl) ?_)
     refine fE mixed aB Tryz.func63 rfl rfl ?_
     refine ai rfl ?_
     intro b hb
     refine aZ (fun hb0=>?_) (fun hb0=>?_)
     ·have hb1:(L.getD a ay).2.length=0:=hb hb0
      refine ai (ai (by decide) (by decide)) (ai (aI 1 rfl) ?_)
      refine ai (mxL (n:=L.length+1) (by omega) (by decide)) (ai (aI 1 rfl) ?_)
      refine ei (k+1) (ai (ai rfl rfl) (ai (ai (ai rfl (ai (ai rfl rfl) (ai (ai rfl rfl) (ai (ai (ai (ai (fun _=>rfl) (aP (by omega))) rfl) (ai (ai rfl (ai rfl (ai ?_ ?_))) (ai rfl (ai rfl (ai ?_ ?_))))) (ai (ai rfl (ai ?_ ?_)) trivial))))) rfl) (ai (ai (iL (by omega)) ?_) (iM (by omega)))))
      all_goals rw[e]
      ·rw[aaf];rfl
      ·exact aW L (aC c L a k) (show dG (bf c (L.getD a ay).1 k).1=_ by rw[hcan])
      ·rw[aaf];rfl
      ·exact aV L (aC c L a k) (dB hb1 k)
      ·rw[aaf];rfl
      ·exact aU L (aC c L a k)
      ·rw[aaf];show L.length+1≤16384;omega
     ·refine ai (mxL (n:=0+(L.getD a ay).2.length) (by omega) (by decide)) (ai (fun _ _=>rfl) ?_)
      refine ai (mxL (n:=0+(L.getD a ay).2.length+1) (by omega) (by decide)) (ai (aI 1 rfl) ?_)
      refine ai (mxL (n:=L.length+1) (by omega) (by decide)) (ai (aI 1 rfl) ?_)
      refine ei (k+1) (ai (ai rfl rfl) (ai (ai (ai rfl (ai (ai rfl rfl) (ai (ai rfl rfl) (ai (ai (ai (ai (fun _=>rfl) (aP (by omega))) rfl) (ai (ai rfl (ai rfl (ai ?_ ?_))) (ai rfl (ai rfl (ai ?_ ?_))))) (ai (ai rfl (ai ?_ ?_)) trivial))))) rfl) (ai (ai (iL (by omega)) ?_) (iM (by omega)))))
      all_goals rw[e]
      ·rw[aaf];rfl
      ·exact aW L (aC c L a k) (show dG (bf c (L.getD a ay).1 k).1=_ by rw[hcan])
      ·rw[aaf];rfl
      ·exact aV L (aC c L a k) (bW (L.getD a ay).2 k)
      ·rw[aaf];rfl
      ·exact aU L (aC c L a k)
      ·rw[aaf];show L.length+1≤16384;omega
    refine ai ?_ trivial
    refine ai (by show a<L.length;exact hak) ?_
    refine ai (mxL (n:=L.length+1) (by omega) (by decide)) (ai (lt1 rfl) ?_)
    refine fE mixed aB Tryz.func63 rfl rfl ?_
    refine ai rfl ?_
    intro b hb
    refine aZ (fun hb0=>?_) (fun hb0=>?_)
    ·have hb1:(L.getD a ay).2.length=0:=hb hb0
     refine ai (ai (by decide) (by decide)) (ai (aI 1 rfl) ?_)
     refine ai (mxL (n:=L.length+1) (by omega) (by decide)) (ai (aI 1 rfl) ?_)
     refine ei (k+1) (ai (ai rfl rfl) (ai (ai (ai rfl (ai (ai rfl rfl) (ai (ai rfl rfl) (ai (ai (ai (ai (fun _=>rfl) (aP (by omega))) rfl) (ai (ai rfl (ai rfl (ai ?_ ?_))) (ai rfl (ai rfl (ai ?_ ?_))))) (ai (ai rfl (ai ?_ ?_)) trivial))))) rfl) (ai (ai (iL (by omega)) ?_) (iM (by omega)))))
     all_goals rw[e]
     ·rw[aaf];rfl
     ·exact aW L (aC c L a k) (show dG (bf c (L.getD a ay).1 k).1=_ by rw[hcan])
     ·rw[aaf];rfl
     ·exact aV L (aC c L a k) (dB hb1 k)
     ·rw[aaf];rfl
     ·exact aU L (aC c L a k)
     ·rw[aaf];show L.length+1≤16384;omega
    ·refine ai (mxL (n:=0+(L.getD a ay).2.length) (by omega) (by decide)) (ai (fun _ _=>rfl) ?_)
     refine ai (mxL (n:=0+(L.getD a ay).2.length+1) (by omega) (by decide)) (ai (aI 1 rfl) ?_)
     refine ai (mxL (n:=L.length+1) (by omega) (by decide)) (ai (aI 1 rfl) ?_)
     refine ei (k+1) (ai (ai rfl rfl) (ai (ai (ai rfl (ai (ai rfl rfl) (ai (ai rfl rfl) (ai (ai (ai (ai (fun _=>rfl) (aP (by omega))) rfl) (ai (ai rfl (ai rfl (ai ?_ ?_))) (ai rfl (ai rfl (ai ?_ ?_))))) (ai (ai rfl (ai ?_ ?_)) trivial))))) rfl) (ai (ai (iL (by omega)) ?_) (iM (by omega)))))
     all_goals rw[e]
     ·rw[aaf];rfl
     ·exact aW L (aC c L a k) (show dG (bf c (L.getD a ay).1 k).1=_ by rw[hcan])
     ·rw[aaf];rfl
     ·exact aV L (aC c L a k) (bW (L.getD a ay).2 k)
     ·rw[aaf];rfl
     ·exact aU L (aC c L a k)
     ·rw[aaf];show L.length+1≤16384;omega
   ·refine ei _ (ai (aaR) (ei ((c,(L.getD a ay).1,k)) (ei [] (ai (a4 (ai (fun _=>Or.inl rfl) (ai nof (Or.inl rfl)))) (ai (by exact (ai (ai rfl (ai (ai rfl (fun _ _=>rfl)) (ai (ai rfl (fun _ _=>rfl)) (ai rfl (fun _ _=>rfl))))) (ai (ai rfl (fun _ _=>rfl)) rfl))) (ai trivial (ai (⟨hc,ho,hga.1,h2⟩) ?_)))))))
    refine aX (b:=!(bf c (L.getD a ay).1 k).2) rfl (fun h3=>?_) (fun h3=>?_)
    ·have h3:allM (L.getD a ay).1 (uZ c k).fr=false:=by
      have h3:(bf c (L.getD a ay).1 k).2=false:=by simpa using h3
      unfold bf at h3
      split at h3
      ·cases h3
      ·rename_i h;exact att.2 h
     have e:fJ c l a (k+1)=L:=by rw[hst];unfold kD adds;rw[h3];simp
     refine ei (k+1) (ai (ai rfl rfl) (ai (ai (ai rfl (ai (ai rfl rfl) (ai (ai rfl rfl) (ai (ai (ai (ai (fun _=>rfl) (aP (by omega))) rfl) (ai (ai rfl (ai rfl (ai ?_ ?_))) (ai rfl (ai rfl (ai ?_ ?_))))) (ai (ai rfl (ai ?_ ?_)) trivial))))) rfl) (ai (ai (iL (by omega)) ?_) (iM (by omega)))))
     all_goals rw[e]
     ·exact fun _ _=>rfl
     ·exact fun k _=>bN.rfl' _
     ·exact fun _=>rfl
     ·exact hkl
    have h3:allM (L.getD a ay).1 (uZ c k).fr=true:=by
     have h3:(bf c (L.getD a ay).1 k).2=true:=by simpa using h3
     unfold bf at h3
     split at h3
     ·assumption
     ·cases h3
    have hcan:(bf c (L.getD a ay).1 k).1=(aC c L a k).1:=by unfold bf;exact congrArg Prod.fst (if_pos h3)
    have hkey:∀q,q<24→eP (bf c (L.getD a ay).1 k).1 q=.val (.bool ((bL (aC c L a k).1).getD q false)):=fun q _=>by rw[hcan,oF];rfl
    refine ai (ai rfl rfl) (ei (bL (aC c L a k).1) (ai (ai (mK (by omega)) hkey) ?_))
    refine ei (bP (sD L (aC c L a k).1)) (ei (sD L (aC c L a k).1) (ai ?_ ?_))
    ·show (∀d',yU L (.bools (bL (aC c L a k).1))=some d'→_)∧(yU L (.bools (bL (aC c L a k).1))=none→_)
     rw[adR hln]
     cases sD L (aC c L a k).1
     ·exact ⟨fun d' h=>by simp at h,fun _=>⟨rfl,rfl⟩⟩
     ·exact ⟨fun d' h=>by simp at h;exact ⟨h.symm,rfl⟩,fun h=>by simp at h⟩
    refine aX (b:=sD L (aC c L a k).1) rfl (fun h4=>?_) (fun h4=>?_)
    ·have e:fJ c l a (k+1)=L:=by rw[hst];unfold kD adds;rw[h4];simp
     refine ei (k+1) (ai (ai rfl rfl) (ai (ai (ai rfl (ai (ai rfl rfl) (ai (ai rfl rfl) (ai (ai (ai (ai (fun _=>rfl) (aP (by omega))) rfl) (ai (ai rfl (ai rfl (ai ?_ ?_))) (ai rfl (ai rfl (ai ?_ ?_))))) (ai (ai rfl (ai ?_ ?_)) trivial))))) rfl) (ai (ai (iL (by omega)) ?_) (iM (by omega)))))
     all_goals rw[e]
     ·exact fun _ _=>rfl
     ·exact fun k _=>bN.rfl' _
     ·exact fun _=>rfl
     ·exact hkl
    have hn:adds c L a k=true:=by unfold adds;rw[h3,h4];rfl
    have e:fJ c l a (k+1)=L++[aC c L a k]:=by rw[hst];unfold kD;rw[if_pos hn]
    refine ah (p:=L.length=16384) (gB (by omega)) (fun h5=>?_) (fun h5=>?_)
    ·refine ai (ai (fun h=>absurd (show false=true from h) (by decide)) ?_) trivial
     show ak _ (wY c)
     rw[wY,hrun (by rw[e,aaf];show 16384<L.length+1;omega)]
     exact (ai rfl (ai rfl rfl))
    refine ai rfl (ei (bL (aC c L a k).1) (ai (ai (mK (by omega)) hkey) ?_))
    refine ei (L.length+1) (ai (ai (fun _=>rfl) (fun d hd=>absurd ((agv hln h4).symm.trans hd) (by simp))) ?_)
    refine ei (.one 0 (.one 1 (.one 4 (.one 5 (.one 6 (.one 7 (.one 10 (.alt 2 (.alt 3 (.one 8 (.altw 9 (.one 11 (.one 12 (.one 13 (.one 14 (.one 15 (.one 16 .done)))))) (.alt 11 (.wr 9 (.one 12 (.one 13 (.one 14 (.one 15 (.one 16 .done)))))) .stop))) (.alt 8 (.alt 3 (.altw 9 (.one 11 (.one 12 (.one 13 (.one 14 (.one 15 (.one 16 .done)))))) (.alt 11 (.wr 9 (.one 12 (.one 13 (.one 14 (.one 15 (.one 16 .done)))))) .stop)) (.alt 11 (.one 3 (.wr 9 (.one 12 (.one 13 (.one 14 (.one 15 (.one 16 .done))))))) .stop)) (.alt 11 (.alt 3 (.one 8 (.wr 9 (.one 12 (.one 13 (.one 14 (.one 15 (.one 16 .done))))))) (.alt 8 (.one 3 (.wr 9 (.one 12 (.one 13 (.one 14 (.one 15 (.one 16 .done))))))) .stop)) .stop))) (.alt 8 (.alt 2 (.alt 3 (.altw 9 (.one 11 (.one 12 (.one 13 (.one 14 (.one 15 (.one 16 .done)))))) (.alt 11 (.wr 9 (.one 12 (.one 13 (.one 14 (.one 15 (.one 16 .done)))))) .stop)) (.alt 11 (.one 3 (.wr 9 (.one 12 (.one 13 (.one 14 (.one 15 (.one 16 .done))))))) .stop)) (.alt 11 (.one 2 (.one 3 (.wr 9 (.one 12 (.one 13 (.one 14 (.one 15 (.one 16 .done)))))))) .stop)) (.alt 11 (.alt 2 (.alt 3 (.one 8 (.wr 9 (.one 12 (.one 13 (.one 14 (.one 15 (.one 16 .done))))))) (.alt 8 (.one 3 (.wr 9 (.one 12 (.one 13 (.one 14 (.one 15 (.one 16 .done))))))) .stop)) (.alt 8 (.one 2 (.one 3 (.wr 9 (.one 12 (.one 13 (.one 14 (.one 15 (.one 16 .done)))))))) .stop)) .stop)))))))))) (ai (by kernel_rfl) ?_)
    refine ai (ai (abq _) (by show (a:Int)<(L.length:Int);omega)) ?_
    refine ai ?_ ?_
    ·refine ai ?_ ?_
     ·refine ai (mxL (n:=L.length+1) (by omega) (by decide)) (ai (lt1 rfl) ?_)
      refine ai (by show a<L.length;exact hak) ?_
      refine ai ?_ ?_
      ·refine fE mixed aB Tryz.func63 rfl rfl ?_
       refine ai rfl ?_
       intro b hb
       refine aZ (fun hb0=>?_) (fun hb0=>?_)
       ·have hb1:(L.getD a ay).2.length=0:=hb hb0
        refine ai (ai (by decide) (by decide)) (ai (aI 1 rfl) ?_)
        refine ai (mxL (n:=L.length+1) (by omega) (by decide)) (ai (aI 1 rfl) ?_)
        refine ei (k+1) (ai (ai rfl rfl) (ai (ai (ai rfl (ai (ai rfl rfl) (ai (ai rfl rfl) (ai (ai (ai (ai (fun _=>rfl) (aP (by omega))) rfl) (ai (ai rfl (ai rfl (ai ?_ ?_))) (ai rfl (ai rfl (ai ?_ ?_))))) (ai (ai rfl (ai ?_ ?_)) trivial))))) rfl) (ai (ai (iL (by omega)) ?_) (iM (by omega)))))
        all_goals rw[e]
        ·rw[aaf];rfl
        ·exact aW L (aC c L a k) (show dG (bf c (L.getD a ay).1 k).1=_ by rw[hcan])
        ·rw[aaf];rfl
        ·exact aV L (aC c L a k) (dB hb1 k)
        ·rw[aaf];rfl
        ·exact aU L (aC c L a k)
        ·rw[aaf];show L.length+1≤16384;omega
       ·refine ai (mxL (n:=0+(L.getD a ay).2.length) (by omega) (by decide)) (ai (fun _ _=>rfl) ?_)
        refine ai (mxL (n:=0+(L.getD a ay).2.length+1) (by omega) (by decide)) (ai (aI 1 rfl) ?_)
        refine ai (mxL (n:=L.length+1) (by omega) (by decide)) (ai (aI 1 rfl) ?_)
        refine ei (k+1) (ai (ai rfl rfl) (ai (ai (ai rfl (ai (ai rfl rfl) (ai (ai rfl rfl) (ai (ai (ai (ai (fun _=>rfl) (aP (by omega))) rfl) (ai (ai rfl (ai rfl (ai ?_ ?_))) (ai rfl (ai rfl (ai ?_ ?_))))) (ai (ai rfl (ai ?_ ?_)) trivial))))) rfl) (ai (ai (iL (by omega)) ?_) (iM (by omega)))))
        all_goals rw[e]
        ·rw[aaf];rfl
        ·exact aW L (aC c L a k) (show dG (bf c (L.getD a ay).1 k).1=_ by rw[hcan])
        ·rw[aaf];rfl
        ·exact aV L (aC c L a k) (bW (L.getD a ay).2 k)
        ·rw[aaf];rfl
        ·exact aU L (aC c L a k)
        ·rw[aaf];show L.length+1≤16384;omega
      refine ai ?_ trivial
      refine fE mixed aB Tryz.func63 rfl rfl ?_
      refine ai rfl ?_
      intro b hb
      refine aZ (fun hb0=>?_) (fun hb0=>?_)
      ·have hb1:(L.getD a ay).2.length=0:=hb hb0
       refine ai (ai (by decide) (by decide)) (ai (aI 1 rfl) ?_)
       refine ai (mxL (n:=L.length+1) (by omega) (by decide)) (ai (aI 1 rfl) ?_)
       refine ei (k+1) (ai (ai rfl rfl) (ai (ai (ai rfl (ai (ai rfl rfl) (ai (ai rfl rfl) (ai (ai (ai (ai (fun _=>rfl) (aP (by omega))) rfl) (ai (ai rfl (ai rfl (ai ?_ ?_))) (ai rfl (ai rfl (ai ?_ ?_))))) (ai (ai rfl (ai ?_ ?_)) trivial))))) rfl) (ai (ai (iL (by omega)) ?_) (iM (by omega)))))
       all_goals rw[e]
       ·rw[aaf];rfl
       ·exact aW L (aC c L a k) (show dG (bf c (L.getD a ay).1 k).1=_ by rw[hcan])
       ·rw[aaf];rfl
       ·exact aV L (aC c L a k) (dB hb1 k)
       ·rw[aaf];rfl
       ·exact aU L (aC c L a k)
       ·rw[aaf];show L.length+1≤16384;omega
      ·refine ai (mxL (n:=0+(L.getD a ay).2.length) (by omega) (by decide)) (ai (fun _ _=>rfl) ?_)
       refine ai (mxL (n:=0+(L.getD a ay).2.length+1) (by omega) (by decide)) (ai (aI 1 rfl) ?_)
       refine ai (mxL (n:=L.length+1) (by omega) (by decide)) (ai (aI 1 rfl) ?_)
       refine ei (k+1) (ai (ai rfl rfl) (ai (ai (ai rfl (ai (ai rfl rfl) (ai (ai rfl rfl) (ai (ai (ai (ai (fun _=>rfl) (aP (by omega))) rfl) (ai (ai rfl (ai rfl (ai ?_ ?_))) (ai rfl (ai rfl (ai ?_ ?_))))) (ai (ai rfl (ai ?_ ?_)) trivial))))) rfl) (ai (ai (iL (by omega)) ?_) (iM (by omega)))))
       all_goals rw[e]
       ·rw[aaf];rfl
       ·exact aW L (aC c L a k) (show dG (bf c (L.getD a ay).1 k).1=_ by rw[hcan])
       ·rw[aaf];rfl
       ·exact aV L (aC c L a k) (bW (L.getD a ay).2 k)
       ·rw[aaf];rfl
       ·exact aU L (aC c L a k)
       ·rw[aaf];show L.length+1≤16384;omega
     refine ai ?_ ?_
     ·refine ai (by show a<L.length;exact hak) ?_
      refine ai ?_ ?_
      ·refine ai (mxL (n:=L.length+1) (by omega) (by decide)) (ai (lt1 rfl) ?_)
       refine ai ?_ ?_
       ·refine fE mixed aB Tryz.func63 rfl rfl ?_
        refine ai rfl ?_
        intro b hb
        refine aZ (fun hb0=>?_) (fun hb0=>?_)
        ·have hb1:(L.getD a ay).2.length=0:=hb hb0
         refine ai (ai (by decide) (by decide)) (ai (aI 1 rfl) ?_)
         refine ai (mxL (n:=L.length+1) (by omega) (by decide)) (ai (aI 1 rfl) ?_)
         refine ei (k+1) (ai (ai rfl rfl) (ai (ai (ai rfl (ai (ai rfl rfl) (ai (ai rfl rfl) (ai (ai (ai (ai (fun _=>rfl) (aP (by omega))) rfl) (ai (ai rfl (ai rfl (ai ?_ ?_))) (ai rfl (ai rfl (ai ?_ ?_))))) (ai (ai rfl (ai ?_ ?_)) trivial))))) rfl) (ai (ai (iL (by omega)) ?_) (iM (by omega)))))
         all_goals rw[e]
         ·rw[aaf];rfl
         ·exact aW L (aC c L a k) (show dG (bf c (L.getD a ay).1 k).1=_ by rw[hcan])
         ·rw[aaf];rfl
         ·exact aV L (aC c L a k) (dB hb1 k)
         ·rw[aaf];rfl
         ·exact aU L (aC c L a k)
         ·rw[aaf];show L.length+1≤16384;omega
        ·refine ai (mxL (n:=0+(L.getD a ay).2.length) (by omega) (by decide)) (ai (fun _ _=>rfl) ?_)
         refine ai (mxL (n:=0+(L.getD a ay).2.length+1) (by omega) (by decide)) (ai (aI 1 rfl) ?_)
         refine ai (mxL (n:=L.length+1) (by omega) (by decide)) (ai (aI 1 rfl) ?_)
         refine ei (k+1) (ai (ai rfl rfl) (ai (ai (ai rfl (ai (ai rfl rfl) (ai (ai rfl rfl) (ai (ai (ai (ai (fun _=>rfl) (aP (by omega))) rfl) (ai (ai rfl (ai rfl (ai ?_ ?_))) (ai rfl (ai rfl (ai ?_ ?_))))) (ai (ai rfl (ai ?_ ?_)) trivial))))) rfl) (ai (ai (iL (by omega)) ?_) (iM (by omega)))))
         all_goals rw[e]
         ·rw[aaf];rfl
         ·exact aW L (aC c L a k) (show dG (bf c (L.getD a ay).1 k).1=_ by rw[hcan])
         ·rw[aaf];rfl
         ·exact aV L (aC c L a k) (bW (L.getD a ay).2 k)
         ·rw[aaf];rfl
         ·exact aU L (aC c L a k)
         ·rw[aaf];show L.length+1≤16384;omega
       refine ai ?_ trivial
       refine fE mixed aB Tryz.func63 rfl rfl ?_
       refine ai rfl ?_
       intro b hb
       refine aZ (fun hb0=>?_) (fun hb0=>?_)
       ·have hb1:(L.getD a ay).2.length=0:=hb hb0
        refine ai (ai (by decide) (by decide)) (ai (aI 1 rfl) ?_)
        refine ai (mxL (n:=L.length+1) (by omega) (by decide)) (ai (aI 1 rfl) ?_)
        refine ei (k+1) (ai (ai rfl rfl) (ai (ai (ai rfl (ai (ai rfl rfl) (ai (ai rfl rfl) (ai (ai (ai (ai (fun _=>rfl) (aP (by omega))) rfl) (ai (ai rfl (ai rfl (ai ?_ ?_))) (ai rfl (ai rfl (ai ?_ ?_))))) (ai (ai rfl (ai ?_ ?_)) trivial))))) rfl) (ai (ai (iL (by omega)) ?_) (iM (by omega)))))
        all_goals rw[e]
        ·rw[aaf];rfl
        ·exact aW L (aC c L a k) (show dG (bf c (L.getD a ay).1 k).1=_ by rw[hcan])
        ·rw[aaf];rfl
        ·exact aV L (aC c L a k) (dB hb1 k)
        ·rw[aaf];rfl
        ·exact aU L (aC c L a k)
        ·rw[aaf];show L.length+1≤16384;omega
       ·refine ai (mxL (n:=0+(L.getD a ay).2.length) (by omega) (by decide)) (ai (fun _ _=>rfl) ?_)
        refine ai (mxL (n:=0+(L.getD a ay).2.length+1) (by omega) (by decide)) (ai (aI 1 rfl) ?_)
        refine ai (mxL (n:=L.length+1) (by omega) (by decide)) (ai (aI 1 rfl) ?_)
        refine ei (k+1) (ai (ai rfl rfl) (ai (ai (ai rfl (ai (ai rfl rfl) (ai (ai rfl rfl) (ai (ai (ai (ai (fun _=>rfl) (aP (by omega))) rfl) (ai (ai rfl (ai rfl (ai ?_ ?_))) (ai rfl (ai rfl (ai ?_ ?_))))) (ai (ai rfl (ai ?_ ?_)) trivial))))) rfl) (ai (ai (iL (by omega)) ?_) (iM (by omega)))))
        all_goals rw[e]
        ·rw[aaf];rfl
        ·exact aW L (aC c L a k) (show dG (bf c (L.getD a ay).1 k).1=_ by rw[hcan])
        ·rw[aaf];rfl
        ·exact aV L (aC c L a k) (bW (L.getD a ay).2 k)
        ·rw[aaf];rfl
        ·exact aU L (aC c L a k)
        ·rw[aaf];show L.length+1≤16384;omega
      refine ai ?_ trivial
      refine ai (mxL (n:=L.length+1) (by omega) (by decide)) (ai (lt1 rfl) ?_)
      refine fE mixed aB Tryz.func63 rfl rfl ?_
      refine ai rfl ?_
      intro b hb
      refine aZ (fun hb0=>?_) (fun hb0=>?_)
      ·have hb1:(L.getD a ay).2.length=0:=hb hb0
       refine ai (ai (by decide) (by decide)) (ai (aI 1 rfl) ?_)
       refine ai (mxL (n:=L.length+1) (by omega) (by decide)) (ai (aI 1 rfl) ?_)
       refine ei (k+1) (ai (ai rfl rfl) (ai (ai (ai rfl (ai (ai rfl rfl) (ai (ai rfl rfl) (ai (ai (ai (ai (fun _=>rfl) (aP (by omega))) rfl) (ai (ai rfl (ai rfl (ai ?_ ?_))) (ai rfl (ai rfl (ai ?_ ?_))))) (ai (ai rfl (ai ?_ ?_)) trivial))))) rfl) (ai (ai (iL (by omega)) ?_) (iM (by omega)))))
       all_goals rw[e]
       ·rw[aaf];rfl
       ·exact aW L (aC c L a k) (show dG (bf c (L.getD a ay).1 k).1=_ by rw[hcan])
       ·rw[aaf];rfl
       ·exact aV L (aC c L a k) (dB hb1 k)
       ·rw[aaf];rfl
       ·exact aU L (aC c L a k)
       ·rw[aaf];show L.length+1≤16384;omega
      ·refine ai (mxL (n:=0+(L.getD a ay).2.length) (by omega) (by decide)) (ai (fun _ _=>rfl) ?_)
       refine ai (mxL (n:=0+(L.getD a ay).2.length+1) (by omega) (by decide)) (ai (aI 1 rfl) ?_)
       refine ai (mxL (n:=L.length+1) (by omega) (by decide)) (ai (aI 1 rfl) ?_)
       refine ei (k+1) (ai (ai rfl rfl) (ai (ai (ai rfl (ai (ai rfl rfl) (ai (ai rfl rfl) (ai (ai (ai (ai (fun _=>rfl) (aP (by omega))) rfl) (ai (ai rfl (ai rfl (ai ?_ ?_))) (ai rfl (ai rfl (ai ?_ ?_))))) (ai (ai rfl (ai ?_ ?_)) trivial))))) rfl) (ai (ai (iL (by omega)) ?_) (iM (by omega)))))
       all_goals rw[e]
       ·rw[aaf];rfl
       ·exact aW L (aC c L a k) (show dG (bf c (L.getD a ay).1 k).1=_ by rw[hcan])
       ·rw[aaf];rfl
       ·exact aV L (aC c L a k) (bW (L.getD a ay).2 k)
       ·rw[aaf];rfl
       ·exact aU L (aC c L a k)
       ·rw[aaf];show L.length+1≤16384;omega
     refine ai ?_ trivial
     refine ai ?_ ?_
     ·refine ai (mxL (n:=L.length+1) (by omega) (by decide)) (ai (lt1 rfl) ?_)
      refine ai (by show a<L.length;exact hak) ?_
      refine fE mixed aB Tryz.func63 rfl rfl ?_
      refine ai rfl ?_
      intro b hb
      refine aZ (fun hb0=>?_) (fun hb0=>?_)
      ·have hb1:(L.getD a ay).2.length=0:=hb hb0
       refine ai (ai (by decide) (by decide)) (ai (aI 1 rfl) ?_)
       refine ai (mxL (n:=L.length+1) (by omega) (by decide)) (ai (aI 1 rfl) ?_)
       refine ei (k+1) (ai (ai rfl rfl) (ai (ai (ai rfl (ai (ai rfl rfl) (ai (ai rfl rfl) (ai (ai (ai (ai (fun _=>rfl) (aP (by omega))) rfl) (ai (ai rfl (ai rfl (ai ?_ ?_))) (ai rfl (ai rfl (ai ?_ ?_))))) (ai (ai rfl (ai ?_ ?_)) trivial))))) rfl) (ai (ai (iL (by omega)) ?_) (iM (by omega)))))
       all_goals rw[e]
       ·rw[aaf];rfl
       ·exact aW L (aC c L a k) (show dG (bf c (L.getD a ay).1 k).1=_ by rw[hcan])
       ·rw[aaf];rfl
       ·exact aV L (aC c L a k) (dB hb1 k)
       ·rw[aaf];rfl
       ·exact aU L (aC c L a k)
       ·rw[aaf];show L.length+1≤16384;omega
      ·refine ai (mxL (n:=0+(L.getD a ay).2.length) (by omega) (by decide)) (ai (fun _ _=>rfl) ?_)
       refine ai (mxL (n:=0+(L.getD a ay).2.length+1) (by omega) (by decide)) (ai (aI 1 rfl) ?_)
       refine ai (mxL (n:=L.length+1) (by omega) (by decide)) (ai (aI 1 rfl) ?_)
       refine ei (k+1) (ai (ai rfl rfl) (ai (ai (ai rfl (ai (ai rfl rfl) (ai (ai rfl rfl) (ai (ai (ai (ai (fun _=>rfl) (aP (by omega))) rfl) (ai (ai rfl (ai rfl (ai ?_ ?_))) (ai rfl (ai rfl (ai ?_ ?_))))) (ai (ai rfl (ai ?_ ?_)) trivial))))) rfl) (ai (ai (iL (by omega)) ?_) (iM (by omega)))))
       all_goals rw[e]
       ·rw[aaf];rfl
       ·exact aW L (aC c L a k) (show dG (bf c (L.getD a ay).1 k).1=_ by rw[hcan])
       ·rw[aaf];rfl
       ·exact aV L (aC c L a k) (bW (L.getD a ay).2 k)
       ·rw[aaf];rfl
       ·exact aU L (aC c L a k)
       ·rw[aaf];show L.length+1≤16384;omega
     refine ai ?_ trivial
     refine ai (by show a<L.length;exact hak) ?_
     refine ai (mxL (n:=L.length+1) (by omega) (by decide)) (ai (lt1 rfl) ?_)
     refine fE mixed aB Tryz.func63 rfl rfl ?_
     refine ai rfl ?_
     intro b hb
     refine aZ (fun hb0=>?_) (fun hb0=>?_)
     ·have hb1:(L.getD a ay).2.length=0:=hb hb0
      refine ai (ai (by decide) (by decide)) (ai (aI 1 rfl) ?_)
      refine ai (mxL (n:=L.length+1) (by omega) (by decide)) (ai (aI 1 rfl) ?_)
      refine ei (k+1) (ai (ai rfl rfl) (ai (ai (ai rfl (ai (ai rfl rfl) (ai (ai rfl rfl) (ai (ai (ai (ai (fun _=>rfl) (aP (by omega))) rfl) (ai (ai rfl (ai rfl (ai ?_ ?_))) (ai rfl (ai rfl (ai ?_ ?_))))) (ai (ai rfl (ai ?_ ?_)) trivial))))) rfl) (ai (ai (iL (by omega)) ?_) (iM (by omega)))))
      all_goals rw[e]
      ·rw[aaf];rfl
      ·exact aW L (aC c L a k) (show dG (bf c (L.getD a ay).1 k).1=_ by rw[hcan])
      ·rw[aaf];rfl
      ·exact aV L (aC c L a k) (dB hb1 k)
      ·rw[aaf];rfl
      ·exact aU L (aC c L a k)
      ·rw[aaf];show L.length+1≤16384;omega
     ·refine ai (mxL (n:=0+(L.getD a ay).2.length) (by omega) (by decide)) (ai (fun _ _=>rfl) ?_)
      refine ai (mxL (n:=0+(L.getD a ay).2.length+1) (by omega) (by decide)) (ai (aI 1 rfl) ?_)
      refine ai (mxL (n:=L.length+1) (by omega) (by decide)) (ai (aI 1 rfl) ?_)
      refine ei (k+1) (ai (ai rfl rfl) (ai (ai (ai rfl (ai (ai rfl rfl) (ai (ai rfl rfl) (ai (ai (ai (ai (fun _=>rfl) (aP (by omega))) rfl) (ai (ai rfl (ai rfl (ai ?_ ?_))) (ai rfl (ai rfl (ai ?_ ?_))))) (ai (ai rfl (ai ?_ ?_)) trivial))))) rfl) (ai (ai (iL (by omega)) ?_) (iM (by omega)))))
      all_goals rw[e]
      ·rw[aaf];rfl
      ·exact aW L (aC c L a k) (show dG (bf c (L.getD a ay).1 k).1=_ by rw[hcan])
      ·rw[aaf];rfl
      ·exact aV L (aC c L a k) (bW (L.getD a ay).2 k)
      ·rw[aaf];rfl
      ·exact aU L (aC c L a k)
      ·rw[aaf];show L.length+1≤16384;omega
    refine ai ?_ ?_
    ·refine ai (by show a<L.length;exact hak) ?_
     refine ai ?_ ?_
     ·refine ai ?_ ?_
      ·refine ai (mxL (n:=L.length+1) (by omega) (by decide)) (ai (lt1 rfl) ?_)
       refine ai ?_ ?_
       ·refine fE mixed aB Tryz.func63 rfl rfl ?_
        refine ai rfl ?_
        intro b hb
        refine aZ (fun hb0=>?_) (fun hb0=>?_)
        ·have hb1:(L.getD a ay).2.length=0:=hb hb0
         refine ai (ai (by decide) (by decide)) (ai (aI 1 rfl) ?_)
         refine ai (mxL (n:=L.length+1) (by omega) (by decide)) (ai (aI 1 rfl) ?_)
         refine ei (k+1) (ai (ai rfl rfl) (ai (ai (ai rfl (ai (ai rfl rfl) (ai (ai rfl rfl) (ai (ai (ai (ai (fun _=>rfl) (aP (by omega))) rfl) (ai (ai rfl (ai rfl (ai ?_ ?_))) (ai rfl (ai rfl (ai ?_ ?_))))) (ai (ai rfl (ai ?_ ?_)) trivial))))) rfl) (ai (ai (iL (by omega)) ?_) (iM (by omega)))))
         all_goals rw[e]
         ·rw[aaf];rfl
         ·exact aW L (aC c L a k) (show dG (bf c (L.getD a ay).1 k).1=_ by rw[hcan])
         ·rw[aaf];rfl
         ·exact aV L (aC c L a k) (dB hb1 k)
         ·rw[aaf];rfl
         ·exact aU L (aC c L a k)
         ·rw[aaf];show L.length+1≤16384;omega
        ·refine ai (mxL (n:=0+(L.getD a ay).2.length) (by omega) (by decide)) (ai (fun _ _=>rfl) ?_)
         refine ai (mxL (n:=0+(L.getD a ay).2.length+1) (by omega) (by decide)) (ai (aI 1 rfl) ?_)
         refine ai (mxL (n:=L.length+1) (by omega) (by decide)) (ai (aI 1 rfl) ?_)
         refine ei (k+1) (ai (ai rfl rfl) (ai (ai (ai rfl (ai (ai rfl rfl) (ai (ai rfl rfl) (ai (ai (ai (ai (fun _=>rfl) (aP (by omega))) rfl) (ai (ai rfl (ai rfl (ai ?_ ?_))) (ai rfl (ai rfl (ai ?_ ?_))))) (ai (ai rfl (ai ?_ ?_)) trivial))))) rfl) (ai (ai (iL (by omega)) ?_) (iM (by omega)))))
         all_goals rw[e]
         ·rw[aaf];rfl
         ·exact aW L (aC c L a k) (show dG (bf c (L.getD a ay).1 k).1=_ by rw[hcan])
         ·rw[aaf];rfl
         ·exact aV L (aC c L a k) (bW (L.getD a ay).2 k)
         ·rw[aaf];rfl
         ·exact aU L (aC c L a k)
         ·rw[aaf];show L.length+1≤16384;omega
       refine ai ?_ trivial
       refine fE mixed aB Tryz.func63 rfl rfl ?_
       refine ai rfl ?_
       intro b hb
       refine aZ (fun hb0=>?_) (fun hb0=>?_)
       ·have hb1:(L.getD a ay).2.length=0:=hb hb0
        refine ai (ai (by decide) (by decide)) (ai (aI 1 rfl) ?_)
        refine ai (mxL (n:=L.length+1) (by omega) (by decide)) (ai (aI 1 rfl) ?_)
        refine ei (k+1) (ai (ai rfl rfl) (ai (ai (ai rfl (ai (ai rfl rfl) (ai (ai rfl rfl) (ai (ai (ai (ai (fun _=>rfl) (aP (by omega))) rfl) (ai (ai rfl (ai rfl (ai ?_ ?_))) (ai rfl (ai rfl (ai ?_ ?_))))) (ai (ai rfl (ai ?_ ?_)) trivial))))) rfl) (ai (ai (iL (by omega)) ?_) (iM (by omega)))))
        all_goals rw[e]
        ·rw[aaf];rfl
        ·exact aW L (aC c L a k) (show dG (bf c (L.getD a ay).1 k).1=_ by rw[hcan])
        ·rw[aaf];rfl
        ·exact aV L (aC c L a k) (dB hb1 k)
        ·rw[aaf];rfl
        ·exact aU L (aC c L a k)
        ·rw[aaf];show L.length+1≤16384;omega
       ·refine ai (mxL (n:=0+(L.getD a ay).2.length) (by omega) (by decide)) (ai (fun _ _=>rfl) ?_)
        refine ai (mxL (n:=0+(L.getD a ay).2.length+1) (by omega) (by decide)) (ai (aI 1 rfl) ?_)
        refine ai (mxL (n:=L.length+1) (by omega) (by decide)) (ai (aI 1 rfl) ?_)
        refine ei (k+1) (ai (ai rfl rfl) (ai (ai (ai rfl (ai (ai rfl rfl) (ai (ai rfl rfl) (ai (ai (ai (ai (fun _=>rfl) (aP (by omega))) rfl) (ai (ai rfl (ai rfl (ai ?_ ?_))) (ai rfl (ai rfl (ai ?_ ?_))))) (ai (ai rfl (ai ?_ ?_)) trivial))))) rfl) (ai (ai (iL (by omega)) ?_) (iM (by omega)))))
        all_goals rw[e]
        ·rw[aaf];rfl
        ·exact aW L (aC c L a k) (show dG (bf c (L.getD a ay).1 k).1=_ by rw[hcan])
        ·rw[aaf];rfl
        ·exact aV L (aC c L a k) (bW (L.getD a ay).2 k)
        ·rw[aaf];rfl
        ·exact aU L (aC c L a k)
        ·rw[aaf];show L.length+1≤16384;omega
      refine ai ?_ trivial
      refine ai (mxL (n:=L.length+1) (by omega) (by decide)) (ai (lt1 rfl) ?_)
      refine fE mixed aB Tryz.func63 rfl rfl ?_
      refine ai rfl ?_
      intro b hb
      refine aZ (fun hb0=>?_) (fun hb0=>?_)
      ·have hb1:(L.getD a ay).2.length=0:=hb hb0
       refine ai (ai (by decide) (by decide)) (ai (aI 1 rfl) ?_)
       refine ai (mxL (n:=L.length+1) (by omega) (by decide)) (ai (aI 1 rfl) ?_)
       refine ei (k+1) (ai (ai rfl rfl) (ai (ai (ai rfl (ai (ai rfl rfl) (ai (ai rfl rfl) (ai (ai (ai (ai (fun _=>rfl) (aP (by omega))) rfl) (ai (ai rfl (ai rfl (ai ?_ ?_))) (ai rfl (ai rfl (ai ?_ ?_))))) (ai (ai rfl (ai ?_ ?_)) trivial))))) rfl) (ai (ai (iL (by omega)) ?_) (iM (by omega)))))
       all_goals rw[e]
       ·rw[aaf];rfl
       ·exact aW L (aC c L a k) (show dG (bf c (L.getD a ay).1 k).1=_ by rw[hcan])
       ·rw[aaf];rfl
       ·exact aV L (aC c L a k) (dB hb1 k)
       ·rw[aaf];rfl
       ·exact aU L (aC c L a k)
       ·rw[aaf];show L.length+1≤16384;omega
      ·refine ai (mxL (n:=0+(L.getD a ay).2.length) (by omega) (by decide)) (ai (fun _ _=>rfl) ?_)
       refine ai (mxL (n:=0+(L.getD a ay).2.length+1) (by omega) (by decide)) (ai (aI 1 rfl) ?_)
       refine ai (mxL (n:=L.length+1) (by omega) (by decide)) (ai (aI 1 rfl) ?_)
       refine ei (k+1) (ai (ai rfl rfl) (ai (ai (ai rfl (ai (ai rfl rfl) (ai (ai rfl rfl) (ai (ai (ai (ai (fun _=>rfl) (aP (by omega))) rfl) (ai (ai rfl (ai rfl (ai ?_ ?_))) (ai rfl (ai rfl (ai ?_ ?_))))) (ai (ai rfl (ai ?_ ?_)) trivial))))) rfl) (ai (ai (iL (by omega)) ?_) (iM (by omega)))))
       all_goals rw[e]
       ·rw[aaf];rfl
       ·exact aW L (aC c L a k) (show dG (bf c (L.getD a ay).1 k).1=_ by rw[hcan])
       ·rw[aaf];rfl
       ·exact aV L (aC c L a k) (bW (L.getD a ay).2 k)
       ·rw[aaf];rfl
       ·exact aU L (aC c L a k)
       ·rw[aaf];show L.length+1≤16384;omega
     refine ai ?_ trivial
     refine ai (mxL (n:=L.length+1) (by omega) (by decide)) (ai (lt1 rfl) ?_)
     refine fE mixed aB Tryz.func63 rfl rfl ?_
     refine ai rfl ?_
     intro b hb
     refine aZ (fun hb0=>?_) (fun hb0=>?_)
     ·have hb1:(L.getD a ay).2.length=0:=hb hb0
      refine ai (ai (by decide) (by decide)) (ai (aI 1 rfl) ?_)
      refine ai (mxL (n:=L.length+1) (by omega) (by decide)) (ai (aI 1 rfl) ?_)
      refine ei (k+1) (ai (ai rfl rfl) (ai (ai (ai rfl (ai (ai rfl rfl) (ai (ai rfl rfl) (ai (ai (ai (ai (fun _=>rfl) (aP (by omega))) rfl) (ai (ai rfl (ai rfl (ai ?_ ?_))) (ai rfl (ai rfl (ai ?_ ?_))))) (ai (ai rfl (ai ?_ ?_)) trivial))))) rfl) (ai (ai (iL (by omega)) ?_) (iM (by omega)))))
      all_goals rw[e]
      ·rw[aaf];rfl
      ·exact aW L (aC c L a k) (show dG (bf c (L.getD a ay).1 k).1=_ by rw[hcan])
      ·rw[aaf];rfl
      ·exact aV L (aC c L a k) (dB hb1 k)
      ·rw[aaf];rfl
      ·exact aU L (aC c L a k)
      ·rw[aaf];show L.length+1≤16384;omega
     ·refine ai (mxL (n:=0+(L.getD a ay).2.length) (by omega) (by decide)) (ai (fun _ _=>rfl) ?_)
      refine ai (mxL (n:=0+(L.getD a ay).2.length+1) (by omega) (by decide)) (ai (aI 1 rfl) ?_)
      refine ai (mxL (n:=L.length+1) (by omega) (by decide)) (ai (aI 1 rfl) ?_)
      refine ei (k+1) (ai (ai rfl rfl) (ai (ai (ai rfl (ai (ai rfl rfl) (ai (ai rfl rfl) (ai (ai (ai (ai (fun _=>rfl) (aP (by omega))) rfl) (ai (ai rfl (ai rfl (ai ?_ ?_))) (ai rfl (ai rfl (ai ?_ ?_))))) (ai (ai rfl (ai ?_ ?_)) trivial))))) rfl) (ai (ai (iL (by omega)) ?_) (iM (by omega)))))
      all_goals rw[e]
      ·rw[aaf];rfl
      ·exact aW L (aC c L a k) (show dG (bf c (L.getD a ay).1 k).1=_ by rw[hcan])
      ·rw[aaf];rfl
      ·exact aV L (aC c L a k) (bW (L.getD a ay).2 k)
      ·rw[aaf];rfl
      ·exact aU L (aC c L a k)
      ·rw[aaf];show L.length+1≤16384;omega
    refine ai ?_ trivial
    refine ai ?_ ?_
    ·refine ai ?_ ?_
     ·refine ai (mxL (n:=L.length+1) (by omega) (by decide)) (ai (lt1 rfl) ?_)
      refine ai (by show a<L.length;exact hak) ?_
      refine fE mixed aB Tryz.func63 rfl rfl ?_
      refine ai rfl ?_
      intro b hb
      refine aZ (fun hb0=>?_) (fun hb0=>?_)
      ·have hb1:(L.getD a ay).2.length=0:=hb hb0
       refine ai (ai (by decide) (by decide)) (ai (aI 1 rfl) ?_)
       refine ai (mxL (n:=L.length+1) (by omega) (by decide)) (ai (aI 1 rfl) ?_)
       refine ei (k+1) (ai (ai rfl rfl) (ai (ai (ai rfl (ai (ai rfl rfl) (ai (ai rfl rfl) (ai (ai (ai (ai (fun _=>rfl) (aP (by omega))) rfl) (ai (ai rfl (ai rfl (ai ?_ ?_))) (ai rfl (ai rfl (ai ?_ ?_))))) (ai (ai rfl (ai ?_ ?_)) trivial))))) rfl) (ai (ai (iL (by omega)) ?_) (iM (by omega)))))
       all_goals rw[e]
       ·rw[aaf];rfl
       ·exact aW L (aC c L a k) (show dG (bf c (L.getD a ay).1 k).1=_ by rw[hcan])
       ·rw[aaf];rfl
       ·exact aV L (aC c L a k) (dB hb1 k)
       ·rw[aaf];rfl
       ·exact aU L (aC c L a k)
       ·rw[aaf];show L.length+1≤16384;omega
      ·refine ai (mxL (n:=0+(L.getD a ay).2.length) (by omega) (by decide)) (ai (fun _ _=>rfl) ?_)
       refine ai (mxL (n:=0+(L.getD a ay).2.length+1) (by omega) (by decide)) (ai (aI 1 rfl) ?_)
       refine ai (mxL (n:=L.length+1) (by omega) (by decide)) (ai (aI 1 rfl) ?_)
       refine ei (k+1) (ai (ai rfl rfl) (ai (ai (ai rfl (ai (ai rfl rfl) (ai (ai rfl rfl) (ai (ai (ai (ai (fun _=>rfl) (aP (by omega))) rfl) (ai (ai rfl (ai rfl (ai ?_ ?_))) (ai rfl (ai rfl (ai ?_ ?_))))) (ai (ai rfl (ai ?_ ?_)) trivial))))) rfl) (ai (ai (iL (by omega)) ?_) (iM (by omega)))))
       all_goals rw[e]
       ·rw[aaf];rfl
       ·exact aW L (aC c L a k) (show dG (bf c (L.getD a ay).1 k).1=_ by rw[hcan])
       ·rw[aaf];rfl
       ·exact aV L (aC c L a k) (bW (L.getD a ay).2 k)
       ·rw[aaf];rfl
       ·exact aU L (aC c L a k)
       ·rw[aaf];show L.length+1≤16384;omega
     refine ai ?_ trivial
     refine ai (by show a<L.length;exact hak) ?_
     refine ai (mxL (n:=L.length+1) (by omega) (by decide)) (ai (lt1 rfl) ?_)
     refine fE mixed aB Tryz.func63 rfl rfl ?_
     refine ai rfl ?_
     intro b hb
     refine aZ (fun hb0=>?_) (fun hb0=>?_)
     ·have hb1:(L.getD a ay).2.length=0:=hb hb0
      refine ai (ai (by decide) (by decide)) (ai (aI 1 rfl) ?_)
      refine ai (mxL (n:=L.length+1) (by omega) (by decide)) (ai (aI 1 rfl) ?_)
      refine ei (k+1) (ai (ai rfl rfl) (ai (ai (ai rfl (ai (ai rfl rfl) (ai (ai rfl rfl) (ai (ai (ai (ai (fun _=>rfl) (aP (by omega))) rfl) (ai (ai rfl (ai rfl (ai ?_ ?_))) (ai rfl (ai rfl (ai ?_ ?_))))) (ai (ai rfl (ai ?_ ?_)) trivial))))) rfl) (ai (ai (iL (by omega)) ?_) (iM (by omega)))))
      all_goals rw[e]
      ·rw[aaf];rfl
      ·exact aW L (aC c L a k) (show dG (bf c (L.getD a ay).1 k).1=_ by rw[hcan])
      ·rw[aaf];rfl
      ·exact aV L (aC c L a k) (dB hb1 k)
      ·rw[aaf];rfl
      ·exact aU L (aC c L a k)
      ·rw[aaf];show L.length+1≤16384;omega
     ·refine ai (mxL (n:=0+(L.getD a ay).2.length) (by omega) (by decide)) (ai (fun _ _=>rfl) ?_)
      refine ai (mxL (n:=0+(L.getD a ay).2.length+1) (by omega) (by decide)) (ai (aI 1 rfl) ?_)
      refine ai (mxL (n:=L.length+1) (by omega) (by decide)) (ai (aI 1 rfl) ?_)
      refine ei (k+1) (ai (ai rfl rfl) (ai (ai (ai rfl (ai (ai rfl rfl) (ai (ai rfl rfl) (ai (ai (ai (ai (fun _=>rfl) (aP (by omega))) rfl) (ai (ai rfl (ai rfl (ai ?_ ?_))) (ai rfl (ai rfl (ai ?_ ?_))))) (ai (ai rfl (ai ?_ ?_)) trivial))))) rfl) (ai (ai (iL (by omega)) ?_) (iM (by omega)))))
      all_goals rw[e]
      ·rw[aaf];rfl
      ·exact aW L (aC c L a k) (show dG (bf c (L.getD a ay).1 k).1=_ by rw[hcan])
      ·rw[aaf];rfl
      ·exact aV L (aC c L a k) (bW (L.getD a ay).2 k)
      ·rw[aaf];rfl
      ·exact aU L (aC c L a k)
      ·rw[aaf];show L.length+1≤16384;omega
    refine ai ?_ trivial
    refine ai (by show a<L.length;exact hak) ?_
    refine ai (mxL (n:=L.length+1) (by omega) (by decide)) (ai (lt1 rfl) ?_)
    refine fE mixed aB Tryz.func63 rfl rfl ?_
    refine ai rfl ?_
    intro b hb
    refine aZ (fun hb0=>?_) (fun hb0=>?_)
    ·have hb1:(L.getD a ay).2.length=0:=hb hb0
     refine ai (ai (by decide) (by decide)) (ai (aI 1 rfl) ?_)
     refine ai (mxL (n:=L.length+1) (by omega) (by decide)) (ai (aI 1 rfl) ?_)
     refine ei (k+1) (ai (ai rfl rfl) (ai (ai (ai rfl (ai (ai rfl rfl) (ai (ai rfl rfl) (ai (ai (ai (ai (fun _=>rfl) (aP (by omega))) rfl) (ai (ai rfl (ai rfl (ai ?_ ?_))) (ai rfl (ai rfl (ai ?_ ?_))))) (ai (ai rfl (ai ?_ ?_)) trivial))))) rfl) (ai (ai (iL (by omega)) ?_) (iM (by omega)))))
     all_goals rw[e]
     ·rw[aaf];rfl
     ·exact aW L (aC c L a k) (show dG (bf c (L.getD a ay).1 k).1=_ by rw[hcan])
     ·rw[aaf];rfl
     ·exact aV L (aC c L a k) (dB hb1 k)
     ·rw[aaf];rfl
     ·exact aU L (aC c L a k)
     ·rw[aaf];show L.length+1≤16384;omega
    ·refine ai (mxL (n:=0+(L.getD a ay).2.length) (by omega) (by decide)) (ai (fun _ _=>rfl) ?_)
     refine ai (mxL (n:=0+(L.getD a ay).2.length+1) (by omega) (by decide)) (ai (aI 1 rfl) ?_)
     refine ai (mxL (n:=L.length+1) (by omega) (by decide)) (ai (aI 1 rfl) ?_)
     refine ei (k+1) (ai (ai rfl rfl) (ai (ai (ai rfl (ai (ai rfl rfl) (ai (ai rfl rfl) (ai (ai (ai (ai (fun _=>rfl) (aP (by omega))) rfl) (ai (ai rfl (ai rfl (ai ?_ ?_))) (ai rfl (ai rfl (ai ?_ ?_))))) (ai (ai rfl (ai ?_ ?_)) trivial))))) rfl) (ai (ai (iL (by omega)) ?_) (iM (by omega)))))
     all_goals rw[e]
     ·rw[aaf];rfl
     ·exact aW L (aC c L a k) (show dG (bf c (L.getD a ay).1 k).1=_ by rw[hcan])
     ·rw[aaf];rfl
     ·exact aV L (aC c L a k) (bW (L.getD a ay).2 k)
     ·rw[aaf];rfl
     ·exact aU L (aC c L a k)
     ·rw[aaf];show L.length+1≤16384;omega
  ·obtain rfl:k=c.trs.length:=by omega
   refine ei ((a+1,fJ c l a c.trs.length)) (ai (ai rfl rfl) (ai (ai ?_ rfl) (ai ?_ ?_)))
   ·refine (ai rfl (ai (ai rfl rfl) (ai (ai rfl rfl) (ai (ai (ai (ai (fun _=>rfl) (aP (by omega))) rfl) (ai (ai rfl (ai rfl (ai rfl (fun _ _=>rfl)))) (ai rfl (ai rfl (ai rfl ?_))))) (ai (ai rfl (ai rfl (fun _=>rfl))) trivial)))))
    exact fun k _=>bN.rfl' _
   ·exact ⟨by show a+1≤(fJ c l a c.trs.length).length;rw[ht,aaf];omega,hkl,⟨hgk,hways⟩,(aom h1 hkl).symm.trans (by rw[←hr,show 16385-a=16385-(a+1)+1 by omega])⟩
   ·show 16385-(a+1)<16385-a;omega
 ·have e:uq c=some l:=by rw[←hr];exact anI (by omega)
  refine ai (ai (fun h=>absurd (show false=true from h) (by decide)) ?_) trivial
  show ak _ (wY c)
  rw[wY,e]
  exact (ai (ai rfl (fun _ _=>rfl)) (ai (ai rfl (fun _ _=>rfl)) rfl))
def uF (c:aJ):Int:=if bD c=0 then (match uq c with | some _=>0 | none=>12) else bD c
def lZ (c:aJ):List Mk:=if bD c=0 then (match uq c with | some l=>l | none=>[]) else []
def uY (c:aJ):PV:=.tup [anQ (lZ c),anZ (lZ c),iP (uF c)]
theorem aoj {c:aJ} (h:bD c=0):wY c=uY c:=by
 unfold wY uY lZ uF
 rw[if_pos h,if_pos h]
 cases uq c<;>rfl
theorem aby:aL Tryz.prog 60 (iO (fun c:aJ=>[jJ c]) jd uY):=by
 refine aY (Tb:=tab) mixed aB Tryz.func60 rfl rfl ?_
 rintro (c:aJ) hpre
 refine ai (ai rfl (ai rfl rfl)) ?_
 refine ei _ (ai (ahd) (ei (c) (ei [] (ai (a4 (ai (fun _=>Or.inl rfl) (ai nof (Or.inl rfl)))) (ai (by exact (ai rfl (ai (ai rfl (fun _ _=>rfl)) (ai (ai rfl (fun _ _=>rfl)) (ai rfl (fun _ _=>rfl)))))) (ai trivial (ai (hpre) ?_)))))))
 refine bg (p:=bD c=0) (bK (by omega)) (fun h1=>?_) (fun h1=>?_)
 ·have e1:uF c=bD c:=if_neg h1
  have e2:lZ c=[]:=if_neg h1
  refine ai (ai (fun h=>absurd (show false=true from h) (by decide)) ?_) trivial
  show ak _ (uY c)
  rw[uY,e1,e2]
  exact (ai rfl (ai rfl rfl))
 refine ei _ (ai ((jc ajY c ⟨h1,hpre⟩ (r:=uY c) (aoj h1))) (ei (()) (ei [] (ai (a4 (ai (fun _=>Or.inl rfl) (ai nof (Or.inl rfl)))) (ai (by exact (ai rfl (ai (ai rfl (fun _ _=>rfl)) (ai (ai rfl (fun _ _=>rfl)) (ai rfl (fun _ _=>rfl)))))) (ai trivial (ai (trivial) ?_)))))))
 refine ai (ai (fun h=>absurd (show false=true from h) (by decide)) ?_) trivial
 show ak _ (uY c)
 rw[uY]
 exact (ai (ai rfl (fun _ _=>rfl)) (ai (ai rfl (fun _ _=>rfl)) rfl))
theorem agW {c:aJ} (h:uF c=0):bD c=0∧uq c=some (lZ c):=by
 unfold uF at h
 split at h
 ·rename_i h1
  refine ⟨h1,?_⟩
  unfold lZ;rw[if_pos h1]
  cases e:uq c with
  | none=>rw[e] at h;cases h
  | some l=>rfl
 ·rename_i h1;exact absurd h h1
theorem agI {c:aJ}:∀{f:Nat} {l r:List Mk} {a:Nat},a≤l.length→l.length≤16384→ou c l→aah a l→qO c f l a=some r→ou c r∧r.length≤16384∧aah 16384 r
 | 0,l,r,a,ha,hl,hg,hw,h=>by
  obtain rfl:=Option.some.inj h
  exact ⟨hg,hl,fun y hy=>by have:=hw y hy;omega⟩
 | f+1,l,r,a,ha,hl,hg,hw,h=>by
  unfold qO at h
  split at h
  ·obtain rfl:=Option.some.inj h
   exact ⟨hg,hl,fun y hy=>by have:=hw y hy;omega⟩
  ·rename_i h1
   split at h
   ·cases h
   ·rename_i h2
    obtain ⟨t,ht⟩:=uh c l a c.trs.length
    exact agI (by rw[ht,aaf];omega) (by omega) (good_row hg (by omega) (aha _)) (aeg (by omega) hw _) h
theorem agr {c:aJ} (h:uF c=0):ou c (lZ c)∧(lZ c).length≤16384∧aah 16384 (lZ c):=
 agI (afc _) (by show 1≤16384;decide) (ahE c) (fun y hy=>by simp only[mk1,aiy] at hy;subst hy;exact afc _) (agW h).2
def qc (c:aJ) (i:Nat) (m:List Bool):Bool:=allM m (uZ c i).fr
theorem aqL (c:aJ) (m:List Bool) (i:Nat):(bf c m i).2=qc c i m:=by
 unfold bf
 split
 ·rename_i h;exact h.symm
 ·rename_i h;exact (att.2 h).symm
structure mI where
 act:Int
 sts:List Stp
def sqK (s:mI):List PV:=[iP s.act,akj s.sts]
def sqA (s:mI):SV:=.p false (.agg (sqK s))
def wI (l:List Sk) (k:Nat):Int:=if (l.getD k bJ).1<0∨6≤(l.getD k bJ).1 then 2 else if 0<k∧(l.getD k bJ).1=(l.getD (k-1) bJ).1 then 7 else if 0<k∧(l.getD k bJ).1<(l.getD (k-1) bJ).1 then 9 else 0
def jT (x:Stp):Int:=if x.st.length=0 then 13 else if 6<x.st.length then 5 else if ¬dx (wI x.st) x.st.length=0 then dx (wI x.st) x.st.length else if x.wt<0∨1000000<x.wt then 2 else 0
def anW (x:Int):Bool:=decide (0≤x)&&decide (x<6)
theorem ahR {x:Int}:anW x=true↔0≤x∧x<6:=by unfold anW;rw[agw,decide_eq_true_iff,decide_eq_true_iff]
theorem aeB:aL Tryz.prog 168 (bT (fun x:Int=>[iA x]) (fun _=>True) (fun x=>bP (decide (0≤x)&&decide (x<6)))):=by
 refine aY (Tb:=tab) mixed aB Tryz.func168 rfl rfl ?_
 rintro (x:Int) hpre
 refine ai (ai rfl (ai rfl rfl)) ?_
 refine ah (p:=0≤x) (cu (by omega)) (fun h1=>?_) (fun h1=>?_)
 ·refine ai (ai (fun _=>trivial) ?_) trivial
  show ak _ (bP (decide (0≤x)&&decide (x<6)))
  rw[decide_eq_true h1,aiI]
  exact rfl
 ·refine ai (ai (fun _=>trivial) ?_) trivial
  show ak _ (bP (decide (0≤x)&&decide (x<6)))
  rw[decide_eq_false h1,aqA]
  exact rfl
def uX (l:List Sk) (k:Nat):Int:=if k=0 then -1 else (l.getD (k-1) bJ).1
def atb:Spec:=bT (fun x:Stp=>[stA x]) (fun _=>True) (fun x=>iP (jT x))
theorem arn:aL Tryz.prog 164 atb:=by
 refine aY (Tb:=tab) mixed aB Tryz.func164 rfl rfl ?_
 rintro (x:Stp) hpre
 refine ai (ai rfl (ai rfl rfl)) ?_
 refine ah (p:=x.st.length=0) (gB (by omega)) (fun h1=>?_) (fun h1=>?_)
 ·refine ai (ai (fun _=>trivial) ?_) trivial
  show ak _ (iP (jT x))
  rw[jT,if_pos h1]
  exact rfl
 refine ah (p:=6<x.st.length) (au (by omega)) (fun h2=>?_) (fun h2=>?_)
 ·refine ai (ai (fun _=>trivial) ?_) trivial
  show ak _ (iP (jT x))
  rw[jT,if_neg h1,if_pos h2]
  exact rfl
 have hA:∀e,dx (wI x.st) x.st.length=e→¬e=0→jT x=e:=fun e h h0=>by unfold jT;rw[if_neg h1,if_neg h2,if_pos (by rw[h];exact h0),h]
 refine ei (bE.inv { X:=Nat,up:=fun k=>[(19,.s (iA k)),(4,.s (iA (uX x.st k)))],uo:=fun k=>[],inv:=fun k=>k≤x.st.length∧(∀j,j<k→wI x.st j=0),meas:=fun k=>x.st.length-k,x0:=0 }) ?_
 refine ai (ai (ai (by exact (a4 (ai rfl rfl))) (ai (by exact (ai (ai (ai (fun _=>rfl) (iE (by simp only[zz,reduceCtorEq];rfl))) rfl) (ai (ai (fun _=>rfl) (iE (by simp only[zz,reduceCtorEq];rfl))) rfl))) (by exact trivial))) rfl) (ai (ai (afc _) ?_) ?_)
 ·exact fun j hj=>absurd hj (alJ _)
 intro (k:Nat) ⟨hk,hall⟩
 refine ah (p:=k<x.st.length) (au (by omega)) (fun h3=>?_) (fun h3=>?_)
 ·refine ai (ai (abq _) (iN (n:=x.st.length) (by omega))) (ai rfl ?_)
  refine ei _ (ai (aeB) (ei ((x.st.getD k bJ).1) (ei [] (ai (a4 (ai (fun _=>Or.inl rfl) (ai nof (Or.inl rfl)))) (ai (by exact (iE (by simp only[zz,reduceCtorEq]))) (ai trivial (ai (trivial) ?_)))))))
  refine aX (b:=!anW (x.st.getD k bJ).1) rfl (fun h4=>?_) (fun h4=>?_)
  ·have h4:¬(0≤(x.st.getD k bJ).1∧(x.st.getD k bJ).1<6):=by rw[←ahR];simpa using h4
   have e:wI x.st k=2:=by unfold wI;rw[if_pos (by omega)]
   refine ai (ai (fun _=>trivial) ?_) trivial
   show ak _ (iP (jT x))
   rw[hA 2 ((cB h3 hall (by rw[e];decide)).trans e) (by decide)]
   exact rfl
  have h4:0≤(x.st.getD k bJ).1∧(x.st.getD k bJ).1<6:=by rw[←ahR];simpa using h4
  refine ah (p:=(x.st.getD k bJ).1=uX x.st k) (by simp only[zz,reduceCtorEq]) (fun h5=>?_) (fun h5=>?_)
  ·have hk0:0<k:=by
    rcases aq0 k with e | e
    ·subst e;unfold uX at h5;rw[if_pos rfl] at h5;omega
    ·exact e
   have h5:(x.st.getD k bJ).1=(x.st.getD (k-1) bJ).1:=by unfold uX at h5;rwa [if_neg (by omega)] at h5
   have e:wI x.st k=7:=by unfold wI;rw[if_neg (by omega),if_pos ⟨hk0,h5⟩]
   refine ai (ai (fun _=>trivial) ?_) trivial
   show ak _ (iP (jT x))
   rw[hA 7 ((cB h3 hall (by rw[e];decide)).trans e) (by decide)]
   exact rfl
  refine ah (p:=(x.st.getD k bJ).1<uX x.st k) (au Iff.rfl) (fun h6=>?_) (fun h6=>?_)
  ·have hk0:0<k:=by
    rcases aq0 k with e | e
    ·subst e;unfold uX at h6;rw[if_pos rfl] at h6;omega
    ·exact e
   have h6:(x.st.getD k bJ).1<(x.st.getD (k-1) bJ).1:=by unfold uX at h6;rwa [if_neg (by omega)] at h6
   have e:wI x.st k=9:=by unfold wI;rw[if_neg (by omega),if_neg (by omega),if_pos ⟨hk0,h6⟩]
   refine ai (ai (fun _=>trivial) ?_) trivial
   show ak _ (iP (jT x))
   rw[hA 9 ((cB h3 hall (by rw[e];decide)).trans e) (by decide)]
   exact rfl
  refine ei (k+1) (ai (ai rfl rfl) (ai (ai (ai rfl (ai (ai rfl rfl) (ai (ai rfl rfl) (ai (ai (ai (ai (fun _=>rfl) (aP (by omega))) rfl) (ai (ai nof (iE (by simp only[zz,reduceCtorEq];rfl))) rfl)) trivial)))) rfl) (ai (ai (iL (by omega)) ?_) (iM (by omega)))))
  intro j hj
  by_cases hjk:j=k
  ·subst hjk
   unfold uX at h5 h6
   unfold wI
   rw[if_neg (by omega)]
   by_cases e0:j=0
   ·rw[if_neg (by omega),if_neg (by omega)]
   ·rw[if_neg e0] at h5 h6
    rw[if_neg (fun h=>h5 h.2),if_neg (fun h=>h6 h.2)]
  ·exact hall j (by omega)
 ·obtain rfl:k=x.st.length:=by omega
  have e2:dx (wI x.st) x.st.length=0:=gD hall
  have hB:jT x=if x.wt<0∨1000000<x.wt then 2 else 0:=by unfold jT;rw[if_neg h1,if_neg h2,if_neg (fun h=>h e2)]
  refine ah (p:=x.wt<0) (au (by omega)) (fun h7=>?_) (fun h7=>?_)
  ·refine ai (ai (fun _=>trivial) ?_) trivial
   show ak _ (iP (jT x))
   rw[hB,if_pos (.inl h7)]
   exact rfl
  refine ah (p:=1000000<x.wt) (au (by omega)) (fun h8=>?_) (fun h8=>?_)
  ·refine ai (ai (fun _=>trivial) ?_) trivial
   show ak _ (iP (jT x))
   rw[hB,if_pos (.inr h8)]
   exact rfl
  ·refine ai (ai (fun _=>trivial) ?_) trivial
   show ak _ (iP (jT x))
   rw[hB,if_neg (by omega)]
   exact rfl
theorem afL {m:List Bool} {j:Nat} (hj:j<m.length) (b:Bool) (k:Nat):oH (eP m) j (bP b) k=eP (m.set j b) k:=by
 unfold oH eP
 rw[abo,abo,atS]
 by_cases h:k=j
 ·rw[if_pos h,if_pos h.symm,if_pos hj];rfl
 ·rw[if_neg h,if_neg (fun e=>h e.symm)]
def okS (n:Nat) (l:List Sk):Prop:=∀y∈l,0≤y.1∧y.1<(n:Int)
theorem vY {n:Nat} {l:List Sk} (h:okS n l) {k:Nat} (hk:k<l.length):0≤(l.getD k bJ).1∧(l.getD k bJ).1<(n:Int):=h _ (adh (bI bJ hk))
def rX (m:List Bool) (l:List Sk):List Bool:=l.foldl (fun m y=>m.set y.1.toNat y.2) m
theorem akS (m:List Bool) (l:List Sk) (y:Sk):rX m (l++[y])=(rX m l).set y.1.toNat y.2:=by unfold rX;rw[asK];rfl
theorem ab8:∀(l:List Sk) (m:List Bool),(rX m l).length=m.length
 | [],_=>rfl
 | y :: l,m=>by
  show (rX (m.set y.1.toNat y.2) l).length=_
  rw[ab8 l,atF]
theorem xg {x:Stp} (h:jT x=0):(0<x.st.length∧x.st.length≤6)∧okS 6 x.st∧0≤x.wt∧x.wt≤1000000:=by
 unfold jT at h
 split at h
 ·cases h
 rename_i h1
 split at h
 ·cases h
 rename_i h2
 split at h
 ·rename_i h3;exact absurd h h3
 rename_i h3
 split at h
 ·cases h
 rename_i h4
 refine ⟨⟨by omega,by omega⟩,fun y hy=>?_,by omega,by omega⟩
 obtain ⟨i,hi,rfl⟩:=arp hy
 have h5:=nG (aqu.1 h3) i hi
 unfold wI at h5
 have hg:x.st.getD i bJ=x.st[i]:=by rw[abo,abn hi];rfl
 rw[hg] at h5
 split at h5
 ·cases h5
 ·omega
def enP (m:List Bool):PV:=.arr 6 (eP m)
def enA (m:List Bool):SV:=.p false (enP m)
def enO (m:List Bool):Ob:=.arr 194 6 (eP m)
def afD (act:Int) (l:List Sk):Bool:=l.any fun y=>decide (act≤y.1)
def atE (m:List Bool) (l:List Sk):Bool:=l.any fun y=>fA m y.1==y.2
def nI (act:Int) (x:Stp) (m:List Bool):Int:=if ¬jT x=0 then jT x else if afD act x.st then 6 else if atE m x.st then 14 else 0
theorem apP:aL Tryz.prog 130 (bT (fun a:mI×Stp×List Bool=>[sqA a.1,stA a.2.1,enA a.2.2]) (fun a=>a.1.act≤6) (fun a=>iP (nI a.1.act a.2.1 a.2.2))):=by
 refine aY (Tb:=tab) mixed aB Tryz.func130 rfl rfl ?_
 rintro ⟨s,x,m⟩ hpre
 refine ai (ai rfl (ai rfl rfl)) ?_
 have ha:s.act≤6:=hpre
 refine ei _ (ai (arn) (ei (x) (ei [] (ai (a4 (ai (fun _=>Or.inl rfl) (ai nof (Or.inl rfl)))) (ai (by exact (ai (ai rfl (fun _ _=>rfl)) rfl)) (ai trivial (ai (trivial) ?_)))))))
 refine bg (p:=jT x=0) (bK (by omega)) (fun h1=>?_) (fun h1=>?_)
 ·refine ai (ai (fun _=>trivial) ?_) trivial
  show ak _ (iP (nI s.act x m))
  rw[nI,if_pos h1]
  exact rfl
 obtain ⟨⟨_,h6⟩,hx,_⟩:=xg h1
 refine ei (bE.inv { X:=Nat,up:=fun k=>[(20,.s (iA k))],uo:=fun k=>[],inv:=fun k=>k≤x.st.length∧(∀y∈x.st.take k,decide (s.act≤y.1)=false),meas:=fun k=>x.st.length-k,x0:=0 }) ?_
 refine ai (ai (ai (by exact (a4 (ai rfl rfl))) (ai (by exact (ai (ai (fun _=>rfl) (iE (by simp only[zz,reduceCtorEq];rfl))) rfl)) (by exact trivial))) rfl) (ai (ai (afc _) ?_) ?_)
 ·exact fun y hy=>absurd hy (by simp)
 intro (k:Nat) ⟨hk,hall⟩
 refine ah (p:=k<x.st.length) (au (by dsimp only;omega)) (fun h2=>?_) (fun h2=>?_)
 ·refine ai (ai (abq _) (iN (n:=x.st.length) (by omega))) (ai rfl ?_)
  refine ah (p:=s.act≤(x.st.getD k bJ).1) (cu Iff.rfl) (fun h3=>?_) (fun h3=>?_)
  ·have e:afD s.act x.st=true:=ahT (d:=bJ) h2 (decide_eq_true h3)
   refine ai (ai (fun _=>trivial) ?_) trivial
   show ak _ (iP (nI s.act x m))
   rw[nI,if_neg (fun h=>h h1),if_pos e]
   exact rfl
  refine ei (k+1) (ai (ai rfl rfl) (ai (ai (ai rfl (ai (ai rfl rfl) (ai (ai rfl rfl) (ai (ai (ai (fun _=>rfl) (aP (by omega))) rfl) trivial)))) rfl) (ai (ai (iL (by omega)) ?_) (iM (by omega)))))
  intro y hy
  rw[aQ bJ h2] at hy
  rcases ahN.1 hy with hy | hy
  ·exact hall y hy
  ·simp only[aiy] at hy;subst hy;exact decide_eq_false h3
 ·obtain rfl:k=x.st.length:=by omega
  rw[ahb] at hall
  have eo:afD s.act x.st=false:=atv.2 (fun y hy=>by rw[hall y hy];decide)
  refine ei (bE.inv { X:=Nat,up:=fun j=>[(33,.s (iA j))],uo:=fun j=>[],inv:=fun j=>j≤x.st.length∧(∀y∈x.st.take j,(fA m y.1==y.2)=false),meas:=fun j=>x.st.length-j,x0:=0 }) ?_
  refine ai (ai (ai (by exact (a4 (ai rfl rfl))) (ai (by exact (ai (ai (fun _=>rfl) (iE (by simp only[zz,reduceCtorEq];rfl))) rfl)) (by exact trivial))) rfl) (ai (ai (afc _) ?_) ?_)
  ·exact fun y hy=>absurd hy (by simp)
  intro (j:Nat) ⟨hj,hal⟩
  refine ah (p:=j<x.st.length) (au (by dsimp only;omega)) (fun h4=>?_) (fun h4=>?_)
  ·refine ai (ai (abq _) (iN (n:=x.st.length) (by omega))) (ai rfl ?_)
   have hxj:=vY hx h4
   refine ei (.seq [0,1,2,3,4,5,6]) (ai (by kernel_rfl) ?_)
   refine ai hxj ?_
   refine ai (by show 0+(x.st.getD j bJ).1.toNat*1<6;omega) ?_
   refine ah (p:=(fA m (x.st.getD j bJ).1==(x.st.getD j bJ).2)=true) (by (show (m.getD (0+(x.st.getD j bJ).1.toNat*1) false==(x.st.getD j bJ).2)=true↔_;rw[apT,aiF];exact Iff.rfl)) (fun h5=>?_) (fun h5=>?_)
   ·have e:atE m x.st=true:=ahT (d:=bJ) h4 h5
    refine ai (ai (fun _=>trivial) ?_) trivial
    show ak _ (iP (nI s.act x m))
    rw[nI,if_neg (fun h=>h h1),if_neg (by rw[eo];decide),if_pos e]
    exact rfl
   refine ei (j+1) (ai (ai rfl rfl) (ai (ai (ai rfl (ai (ai rfl rfl) (ai (ai rfl rfl) (ai (ai (ai (fun _=>rfl) (aP (by omega))) rfl) trivial)))) rfl) (ai (ai (iL (by omega)) ?_) (iM (by omega)))))
   intro y hy
   rw[aQ bJ h4] at hy
   rcases ahN.1 hy with hy | hy
   ·exact hal y hy
   ·simp only[aiy] at hy;subst hy;exact att.2 h5
  ·obtain rfl:j=x.st.length:=by omega
   rw[ahb] at hal
   have e:atE m x.st=false:=atv.2 (fun y hy=>by rw[hal y hy];decide)
   refine ai (ai (fun _=>trivial) ?_) trivial
   show ak _ (iP (nI s.act x m))
   rw[nI,if_neg (fun h=>h h1),if_neg (by rw[eo];decide),if_neg (by rw[e];decide)]
   exact rfl
theorem akV:aL Tryz.prog 131 (iO (fun a:List Bool×Stp=>[enA a.1,stA a.2]) (fun a=>a.1.length≤6∧okS a.1.length a.2.st∧a.2.st.length≤1000000) (fun a=>enP (rX a.1 a.2.st))):=by
 refine aY (Tb:=tab) mixed aB Tryz.func131 rfl rfl ?_
 rintro ⟨m,x⟩ hpre
 refine ai (ai rfl (ai rfl rfl)) ?_
 obtain ⟨hm,hx,hl⟩:=hpre
 have hm:m.length≤6:=hm
 have hx:okS m.length x.st:=hx
 have hl:x.st.length≤1000000:=hl
 refine ei (bE.inv { X:=Nat,up:=fun k=>[(10,.s (iA k))],uo:=fun k=>[⟨0,194,[.ob (enO (rX m (x.st.take k)))]⟩],inv:=fun k=>k≤x.st.length∧(True),meas:=fun k=>x.st.length-k,x0:=0 }) ?_
 refine ai (ai (ai (by exact (a4 (ai rfl rfl))) (ai ?_ ?_)) rfl) (ai (ai (afc _) ?_) ?_)
 ·exact (ai (ai (fun _=>rfl) (iE (by simp only[zz,reduceCtorEq];rfl))) rfl)
 ·exact (ai (ai rfl (ai rfl (fun _ _=>rfl))) trivial)
 ·trivial
 intro (k:Nat) ⟨hk,_⟩
 refine ah (p:=k<x.st.length) (au (by dsimp only;omega)) (fun h1=>?_) (fun h1=>?_)
 ·refine ai (ai (abq _) (iN (n:=x.st.length) (by omega))) (ai rfl ?_)
  have hxk:=vY hx h1
  refine ai (by show 0≤(x.st.getD k bJ).1∧(x.st.getD k bJ).1<6;omega) ?_
  refine ai (by show 0+(x.st.getD k bJ).1.toNat*1<6;omega) ?_
  refine ei (k+1) (ai (ai rfl rfl) (ai (ai (ai rfl (ai (ai rfl rfl) (ai (ai rfl rfl) (ai (ai (ai (fun _=>rfl) (aP (by omega))) rfl) (ai (ai rfl (ai rfl ?_)) trivial))))) rfl) (ai (ai (iL (by omega)) trivial) (iM (by omega)))))
  intro q hq
  show oH (eP (rX m (x.st.take k))) (0+(x.st.getD k bJ).1.toNat*1) (bP (x.st.getD k bJ).2) q=eP (rX m (x.st.take (k+1))) q
  rw[aiF,apT,afL (by rw[ab8];omega),aQ bJ h1,akS]
 ·obtain rfl:k=x.st.length:=by omega
  rw[ahb]
  refine ai (ai (fun _=>(by exact (fun _ _=>rfl))) ?_) trivial
  exact (ai rfl (fun _ _=>rfl))
def zeroE (act:Int):List Bool:=List.replicate act.toNat false
def iG (act:Int) (l:List Stp) (k:Nat):List Bool:=(l.take k).foldl (fun m x=>rX m x.st) (zeroE act)
def kF (act:Int) (l:List Stp) (k:Nat):List Bool:=(l.take k).foldl (fun m x=>bH m (x.st.map (·.1)) true) (zeroE act)
theorem ah0 {act:Int} {l:List Stp} {k:Nat} (h:k<l.length):iG act l (k+1)=rX (iG act l k) (l.getD k st0).st:=by unfold iG;rw[aQ st0 h,asK];rfl
theorem akc {act:Int} {l:List Stp} {k:Nat} (h:k<l.length):kF act l (k+1)=bH (kF act l k) ((l.getD k st0).st.map (·.1)) true:=by unfold kF;rw[aQ st0 h,asK];rfl
theorem y5 {α β:Type} {f:List β→α→List β} (hf:∀m x,(f m x).length=m.length):∀(l:List α) (m:List β),(l.foldl f m).length=m.length
 | [],_=>rfl
 | x :: l,m=>by rw[asL,y5 hf l,hf]
theorem aj9 (act:Int) (l:List Stp) (k:Nat):(iG act l k).length=act.toNat:=by
 refine (y5 (f:=fun m (x:Stp)=>rX m x.st) (fun m x=>ab8 x.st m) (l.take k) (zeroE act)).trans ?_
 unfold zeroE;rw[atA]
theorem ami (act:Int) (l:List Stp) (k:Nat):(kF act l k).length=act.toNat:=by
 refine (y5 (f:=fun m (x:Stp)=>bH m (x.st.map (·.1)) true) (fun m x=>dR true (x.st.map (·.1)) m) (l.take k) (zeroE act)).trans ?_
 unfold zeroE;rw[atA]
def yg (s:mI):Int:=dx (fun k=>nI s.act (s.sts.getD k st0) (iG s.act s.sts k)) s.sts.length
def kS (s:mI):Int:=
 if s.act<1∨6<s.act then 2 else if s.sts.length=0 then 13 else if 64<s.sts.length then 5 else if ¬yg s=0 then yg s
 else if (iG s.act s.sts s.sts.length).any id=true then 9 else if ((kF s.act s.sts s.sts.length).any fun y=>false==y)=true then 13 else 0
theorem asC:∀{m:List Bool},m.length≤6→(!((m.getD 0 false==false)&&((m.getD 1 false==false)&&((m.getD 2 false==false)&&((m.getD 3 false==false)&&((m.getD 4 false==false)&&((m.getD 5 false==false)&&true)))))))=m.any id
 | [],_=>rfl
 | [a],_=>by cases a<;>rfl
 | [a,b],_=>by cases a<;>cases b<;>rfl
 | [a,b,c],_=>by cases a<;>cases b<;>cases c<;>rfl
 | [a,b,c,d],_=>by cases a<;>cases b<;>cases c<;>cases d<;>rfl
 | [a,b,c,d,e],_=>by cases a<;>cases b<;>cases c<;>cases d<;>cases e<;>rfl
 | [a,b,c,d,e,f],_=>by cases a<;>cases b<;>cases c<;>cases d<;>cases e<;>cases f<;>rfl
 | _ :: _ :: _ :: _ :: _ :: _ :: _ :: _,h=>by simp at h
theorem ap9 (l:List Sk) {j:Nat} (h:j<l.length):(l.map (·.1)).getD j 0=(l.getD j bJ).1:=by
 rw[abo,abo,ajs,abn h];rfl
theorem af0 {act:Int} {x:Stp} {m:List Bool} (h:nI act x m=0):jT x=0∧∀y∈x.st,0≤y.1∧y.1<act:=by
 unfold nI at h
 split at h
 ·rename_i h1;exact absurd h h1
 rename_i h1
 have h1:=aqu.1 h1
 split at h
 ·cases h
 rename_i h2
 refine ⟨h1,fun y hy=>⟨((xg h1).2.1 y hy).1,?_⟩⟩
 have:afD act x.st=false:=by simpa using h2
 have:=atv.1 this y hy
 simpa using this
theorem acE:∀k,k<6→jZ (vals (List.replicate 6 (.bool false))) k=eP [] k:=fun k hk=>by
 match k,hk with
 | 0,_=>rfl | 1,_=>rfl | 2,_=>rfl | 3,_=>rfl | 4,_=>rfl | 5,_=>rfl
theorem agC (act:Int) (k:Nat):eP (zeroE act) k=eP [] k:=by
 unfold eP zeroE
 rw[abo,atW]
 split<;>rfl
theorem al6:aL Tryz.prog 67 (bT (fun s:mI=>[sqA s]) (fun _=>True) (fun s=>iP (kS s))):=by
 refine aY (Tb:=tab) mixed aB Tryz.func67 rfl rfl ?_
 rintro (s:mI) hpre
 refine ai (ai rfl (ai rfl rfl)) ?_
 refine ah (p:=s.act<1) (au (by omega)) (fun h1=>?_) (fun h1=>?_)
 ·refine ai (ai (fun _=>trivial) ?_) trivial
  show ak _ (iP (kS s))
  rw[kS,if_pos (.inl h1)]
  exact rfl
 refine ah (p:=6<s.act) (au (by omega)) (fun h2=>?_) (fun h2=>?_)
 ·refine ai (ai (fun _=>trivial) ?_) trivial
  show ak _ (iP (kS s))
  rw[kS,if_pos (.inr h2)]
  exact rfl
 have e0:¬(s.act<1∨6<s.act):=fun h=>h.elim h1 h2
 refine ah (p:=s.sts.length=0) (gB (by omega)) (fun h3=>?_) (fun h3=>?_)
 ·refine ai (ai (fun _=>trivial) ?_) trivial
  show ak _ (iP (kS s))
  rw[kS,if_neg e0,if_pos h3]
  exact rfl
 refine ah (p:=64<s.sts.length) (au (by omega)) (fun h4=>?_) (fun h4=>?_)
 ·refine ai (ai (fun _=>trivial) ?_) trivial
  show ak _ (iP (kS s))
  rw[kS,if_neg e0,if_neg h3,if_pos h4]
  exact rfl
 have hA:kS s=if ¬yg s=0 then yg s else if (iG s.act s.sts s.sts.length).any id=true then 9 else if ((kF s.act s.sts s.sts.length).any fun y=>false==y)=true then 13 else 0:=by
  unfold kS;rw[if_neg e0,if_neg h3,if_neg h4]
 refine ei (bE.inv { X:=Nat,up:=fun k=>[(32,.s (iA k))],uo:=fun k=>[⟨1,194,[.ob (enO (iG s.act s.sts k))]⟩,⟨2,194,[.ob (enO (kF s.act s.sts k))]⟩],inv:=fun k=>k≤s.sts.length∧(∀j,j<k→nI s.act (s.sts.getD j st0) (iG s.act s.sts j)=0),meas:=fun k=>s.sts.length-k,x0:=0 }) ?_
 refine ai (ai (ai (by exact (a4 (ai rfl rfl))) (ai ?_ ?_)) rfl) (ai (ai (afc _) ?_) ?_)
 ·exact (ai (ai (fun _=>rfl) (iE (by simp only[zz,reduceCtorEq];rfl))) rfl)
 ·refine (ai (ai rfl (ai rfl ?_)) (ai (ai rfl (ai rfl ?_)) trivial))
  ·exact fun q hq=>(acE q hq).trans (agC s.act q).symm
  ·exact fun q hq=>(acE q hq).trans (agC s.act q).symm
 ·exact fun j hj=>absurd hj (alJ _)
 intro (k:Nat) ⟨hk,hall⟩
 have hel:=aj9 s.act s.sts k
 have hml:=ami s.act s.sts k
 refine ah (p:=k<s.sts.length) (au (by omega)) (fun h5=>?_) (fun h5=>?_)
 ·refine ai (ai (abq _) (iN (n:=s.sts.length) (by omega))) (ai rfl ?_)
  refine ei _ (ai (apP) (ei ((s,s.sts.getD k st0,iG s.act s.sts k)) (ei [] (ai (a4 (ai (fun _=>Or.inl rfl) (ai nof (Or.inl rfl)))) (ai (by exact (ai (ai rfl (ai rfl (fun _ _=>rfl))) (ai (ai (ai rfl (fun _ _=>rfl)) (iE (by simp only[zz,reduceCtorEq]))) (ai rfl (fun _ _=>rfl))))) (ai trivial (ai ((by show s.act≤6;omega)) ?_)))))))
  refine bg (p:=nI s.act (s.sts.getD k st0) (iG s.act s.sts k)=0) (bK (by dsimp only;omega)) (fun h6=>?_) (fun h6=>?_)
  ·have e:yg s=nI s.act (s.sts.getD k st0) (iG s.act s.sts k):=cB (f:=fun k=>nI s.act (s.sts.getD k st0) (iG s.act s.sts k)) h5 hall h6
   refine ai (ai (fun _=>trivial) ?_) trivial
   show ak _ (iP (kS s))
   rw[hA,if_pos (show ¬yg s=0 by rw[e];exact h6),e]
   exact rfl
  obtain ⟨hck,hso⟩:=af0 h6
  have h6l:=(xg hck).1.2
  have hokS:okS s.act.toNat (s.sts.getD k st0).st:=fun y hy=>by have:=hso y hy;omega
  refine ei _ (ai ((jc akV (iG s.act s.sts k,s.sts.getD k st0) ⟨by show (iG s.act s.sts k).length≤6;omega,by show okS (iG s.act s.sts k).length _;rw[hel];exact hokS,by show (s.sts.getD k st0).st.length≤1000000;omega⟩ (r:=enP (iG s.act s.sts (k+1))) (by rw[ah0 h5]))) (ei (()) (ei [] (ai (a4 (ai (fun _=>Or.inl rfl) (ai nof (Or.inl rfl)))) (ai (by exact (ai (ai rfl (fun _ _=>rfl)) (ai (ai rfl (fun _ _=>rfl)) (iE (by simp only[zz,reduceCtorEq]))))) (ai trivial (ai (trivial) ?_)))))))
  refine ei (bE.inv { X:=Nat,up:=fun j=>[(49,.s (iA j))],uo:=fun j=>[⟨2,194,[.ob (enO (bH (kF s.act s.sts k) (((s.sts.getD k st0).st.map (·.1)).take j) true))]⟩],inv:=fun j=>j≤(s.sts.getD k st0).st.length∧(True),meas:=fun j=>(s.sts.getD k st0).st.length-j,x0:=0 }) ?_
  refine ai (ai (ai (by exact (a4 (ai rfl rfl))) (ai ?_ ?_)) rfl) (ai (ai (afc _) ?_) ?_)
  ·exact (ai (ai (fun _=>rfl) (iE (by simp only[zz,reduceCtorEq];rfl))) rfl)
  ·exact (ai (ai rfl (ai rfl (fun _ _=>rfl))) trivial)
  ·trivial
  intro (j:Nat) ⟨hj,_⟩
  refine ah (p:=j<(s.sts.getD k st0).st.length) (by simp only[zz,reduceCtorEq];omega) (fun h7=>?_) (fun h7=>?_)
  ·refine ai (ai (abq _) (iN (n:=(s.sts.getD k st0).st.length) (by omega))) (ai rfl ?_)
   have hxj:=vY hokS h7
   refine ai (by show 0≤((s.sts.getD k st0).st.getD j bJ).1∧((s.sts.getD k st0).st.getD j bJ).1<6;omega) ?_
   refine ai (by show 0+((s.sts.getD k st0).st.getD j bJ).1.toNat*1<6;omega) ?_
   refine ei (j+1) (ai (ai rfl rfl) (ai (ai (ai rfl (ai (ai rfl rfl) (ai (ai rfl rfl) (ai (ai (ai (fun _=>rfl) (aP (by omega))) rfl) (ai (ai rfl (ai rfl ?_)) trivial))))) rfl) (ai (ai (iL (by omega)) trivial) (iM (by omega)))))
   intro q hq
   show oH (eP (bH (kF s.act s.sts k) (((s.sts.getD k st0).st.map (·.1)).take j) true)) (0+((s.sts.getD k st0).st.getD j bJ).1.toNat*1) (bP true) q=eP (bH (kF s.act s.sts k) (((s.sts.getD k st0).st.map (·.1)).take (j+1)) true) q
   have eg:=ap9 (s.sts.getD k st0).st h7
   rw[aiF,apT,afL (by rw[dR];omega),aQ 0 (by rw[amo];exact h7),pU,eg]
  ·obtain rfl:j=(s.sts.getD k st0).st.length:=by omega
   have e9:bH (kF s.act s.sts k) (((s.sts.getD k st0).st.map (·.1)).take (s.sts.getD k st0).st.length) true=kF s.act s.sts (k+1):=by
    rw[akc h5,atr (by rw[amo];exact aha _)]
   refine ei (k+1) (ai (ai rfl rfl) (ai (ai (ai rfl (ai (ai rfl rfl) (ai (ai rfl rfl) (ai (ai (ai (fun _=>rfl) (aP (by omega))) rfl) (ai (ai rfl (ai rfl (fun _ _=>rfl))) (ai (ai rfl (ai rfl ?_)) trivial)))))) rfl) (ai (ai (iL (by omega)) ?_) (iM (by omega)))))
   ·exact fun q hq=>by rw[←e9]
   ·intro i hi
    by_cases e:i=k
    ·subst e;exact h6
    ·exact hall i (by omega)
 ·obtain rfl:k=s.sts.length:=by omega
  have e1:yg s=0:=gD hall
  refine ah (p:=(iG s.act s.sts s.sts.length).any id=true) (by (rw[←asC (m:=iG s.act s.sts s.sts.length) (by omega)];first | done | exact Iff.rfl)) (fun h8=>?_) (fun h8=>?_)
  ·refine ai (ai (fun _=>trivial) ?_) trivial
   show ak _ (iP (kS s))
   rw[hA,if_neg (fun h=>h e1),if_pos h8]
   exact rfl
  refine ai (ai (by decide) (ai (by show 0≤s.act;omega) (by show s.act≤6;omega))) ?_
  refine ei _ (ai (apG) (ei ((kF s.act s.sts s.sts.length,false)) (ei [] (ai (ai rfl (ai rfl (ai rfl (ai rfl (ai (fun _=>Or.inl rfl) (ai (fun _=>ai rfl rfl) (Or.inl rfl))))))) (ai ?_ (ai (by exact trivial) (ai ((by show (kF s.act s.sts s.sts.length).length≤1000000;omega)) ?_)))))))
  ·refine (ai (ai rfl (ai ?_ ?_)) rfl)
   ·show s.act.toNat-(0:Int).toNat=(kF s.act s.sts s.sts.length).length
    rw[hml];rfl
   ·intro q hq
    show [eP (kF s.act s.sts s.sts.length) ((0:Int).toNat+q)]=_
    rw[show (0:Int).toNat+q=q by simp];rfl
  refine aX (b:=(kF s.act s.sts s.sts.length).any fun y=>false==y) rfl (fun h9=>?_) (fun h9=>?_)
  ·refine ai (ai (fun _=>trivial) ?_) trivial
   show ak _ (iP (kS s))
   rw[hA,if_neg (fun h=>h e1),if_neg h8,if_pos h9]
   exact rfl
  ·refine ai (ai (fun _=>trivial) ?_) trivial
   show ak _ (iP (kS s))
   rw[hA,if_neg (fun h=>h e1),if_neg h8,if_neg (by rw[h9];decide)]
   exact rfl
theorem ak0 (b:Bool) (l:List Int) (m:List Bool) {i:Nat} (hi:i<m.length):(bH m l b).getD i false=if l.any (fun k=>k.toNat==i) then b else m.getD i false:=by
 induction l generalizing m with
 | nil=>rfl
 | cons k l ih=>
  show (bH (m.set k.toNat b) l b).getD i false=_
  rw[ih (m.set k.toNat b) (by rw[atF];exact hi),atX]
  by_cases e:k.toNat=i
  ·rw[beq_iff_eq.2 e,alh,if_pos rfl]
   split
   ·rfl
   ·rw[abo,atS,if_pos e,if_pos (by omega)];rfl
  ·rw[beq_eq_false_iff_ne.2 e,aqz]
   congr 1
   rw[abo,atS,if_neg e,abo]
def vN (n:Int):Ex:=.node 1 n []
def uf (n:Int):List PV:=[iP 1,iP n,.val (.slice none 0 0)]
def mR (y:Sk):Int:=2*y.1+if y.2 then 1 else 0
def afP (l:List Sk):Ex:=match l with
 | [y]=>vN (mR y)
 | l=>.node 3 0 (l.map fun y=>vN (mR y))
def xw (l:List Sk) (k:Nat):List PV:=uf (mR (l.getD k bJ))
abbrev C3 := PV × PV × PV
def yV (c:C3):List PV:=[c.1,c.2.1,c.2.2]
def ze (n:Int):C3:=(iP 1,iP n,.val (.slice none 0 0))
def lG (l:List Sk):C3:=(if l.length=1 then iP 1 else iP 3,if l.length=1 then iP (mR (l.getD 0 bJ)) else iP 0,if l.length=1 then .val (.slice none 0 0) else .seq l.length (xw l))
def ab7 (l:List Sk):List PV:=yV (lG l)
theorem ahP {l:List Sk} (h:l.length=1):ab7 l=uf (mR (l.getD 0 bJ)):=by unfold ab7 yV lG;simp only[h,if_true];rfl
theorem ae4 {l:List Sk} (h:¬l.length=1):ab7 l=[iP 3,iP 0,.seq l.length (xw l)]:=by unfold ab7 yV lG;simp only[h,if_false]
theorem oo:aL Tryz.prog 69 (bT (fun n:Int=>[iA n]) (fun _=>True) (fun n=>.agg (uf n))):=by
 refine aY (Tb:=tab) mixed aB Tryz.func69 rfl rfl ?_
 rintro (n:Int) hpre
 refine ai (ai rfl (ai rfl rfl)) ?_
 refine ai (ai (fun _=>trivial) ?_) trivial
 exact (ai rfl (ai rfl rfl))
def agi (l:List Sk):Prop:=l.length≤1000∧okS 6 l
theorem aqZ {l:List Sk} (h:agi l) {k:Nat} (hk:k<l.length):0≤(l.getD k bJ).1∧(l.getD k bJ).1<6:=by
 have:=vY h.2 hk;omega
def asW (l:List Sk) (k:Nat):LV:=.rw 79 3 k (xw l)
theorem ahQ (l:List Sk) (k:Nat):∀j,j<k+1→bS k (xw l) (bn 3 (uf (mR (l.getD k bJ)))) j=xw l j:=by
 intro j hj
 unfold bS
 by_cases h:j<k
 ·rw[if_pos h]
 ·obtain rfl:j=k:=by omega
  rw[if_neg h,atn];rfl
theorem ag7:aL Tryz.prog 71 (iO (fun l:List Sk=>[arL l]) (fun l=>agi l∧0<l.length) (fun l=>.agg (ab7 l))):=by
 refine aY (Tb:=tab) mixed aB Tryz.func71 rfl rfl ?_
 rintro (l:List Sk) hpre
 refine ai (ai rfl (ai rfl rfl)) ?_
 obtain ⟨hs,hp⟩:=hpre
 have hl:l.length≤1000:=hs.1
 refine ei (bE.inv { X:=Nat,up:=fun k=>[(9,.s (iA k)),(3,asW l k)],uo:=fun k=>[],inv:=fun k=>k≤l.length∧(True),meas:=fun k=>l.length-k,x0:=0 }) ?_
 refine ai (ai (ai (by exact (a4 (ai rfl rfl))) (ai (by exact (ai (ai (ai (fun _=>rfl) (iE (by simp only[zz,reduceCtorEq];rfl))) rfl) rfl)) (by exact trivial))) rfl) (ai (ai (afc _) ?_) ?_)
 ·trivial
 intro (k:Nat) ⟨hk,_⟩
 refine ah (p:=k<l.length) (au (by omega)) (fun h1=>?_) (fun h1=>?_)
 ·refine ai (ai (abq _) (iN (n:=l.length) (by omega))) (ai rfl ?_)
  have hx:=aqZ hs h1
  have hw:IntKind.i64.wrap (2*(l.getD k bJ).1)=2*(l.getD k bJ).1:=wrI (by omega) (by omega)
  refine aX (b:=(l.getD k bJ).2) rfl (fun h2=>?_) (fun h2=>?_)
  ·refine ei _ (ai (oo) (ei (mR (l.getD k bJ)) (ei [] (ai (a4 (ai (fun _=>Or.inl rfl) (ai nof (Or.inl rfl)))) (ai ?_ (ai (by exact trivial) (ai (trivial) ?_)))))))
   ·show IntKind.i64.wrap (IntKind.i64.wrap (2*(l.getD k bJ).1)+1)=mR (l.getD k bJ)
    rw[hw,wrI (by omega) (by omega)];unfold mR;rw[h2];rfl
   refine ai (mxL (n:=k+1) (by omega) (by decide)) (ai (lt1 rfl) ?_)
   refine ei (k+1) (ai (ai rfl rfl) (ai (ai (ai rfl (ai (ai rfl rfl) (ai (ai rfl rfl) (ai (ai (ai (ai (fun _=>rfl) (aP (by omega))) rfl) (ai rfl (ai rfl (ai rfl ?_)))) trivial)))) rfl) (ai (ai (iL (by omega)) trivial) (iM (by omega)))))
   exact ahQ l k
  ·refine ei _ (ai (oo) (ei (mR (l.getD k bJ)) (ei [] (ai (a4 (ai (fun _=>Or.inl rfl) (ai nof (Or.inl rfl)))) (ai ?_ (ai (by exact trivial) (ai (trivial) ?_)))))))
   ·show IntKind.i64.wrap (2*(l.getD k bJ).1)=mR (l.getD k bJ)
    rw[hw];unfold mR;rw[h2];simp
   refine ai (mxL (n:=k+1) (by omega) (by decide)) (ai (lt1 rfl) ?_)
   refine ei (k+1) (ai (ai rfl rfl) (ai (ai (ai rfl (ai (ai rfl rfl) (ai (ai rfl rfl) (ai (ai (ai (ai (fun _=>rfl) (aP (by omega))) rfl) (ai rfl (ai rfl (ai rfl ?_)))) trivial)))) rfl) (ai (ai (iL (by omega)) trivial) (iM (by omega)))))
   exact ahQ l k
 ·obtain rfl:k=l.length:=by omega
  refine ah (p:=l.length=1) (gB (by omega)) (fun h3=>?_) (fun h3=>?_)
  ·refine ai (ai (by decide) (by show (0:Int)<(l.length:Int);omega)) ?_
   refine ai (by show 0<l.length;omega) ?_
   refine ai (ai (fun h=>absurd (show false=true from h) (by decide)) ?_) trivial
   show ak _ (.agg (ab7 l))
   rw[ahP h3]
   exact (ai rfl (ai (iE rfl) rfl))
  ·refine ai (ai (fun h=>absurd (show false=true from h) (by decide)) ?_) trivial
   show ak _ (.agg (ab7 l))
   rw[ae4 h3]
   exact (ai rfl (ai rfl (ai rfl (fun _ _=>rfl))))
def um (act:Int) (p:List (Stp×C3)) (x:Stp):List (Stp×C3):=
 if 0<x.wt then (p++[(⟨x.st,0⟩,lG x.st)])++[(⟨[],x.wt⟩,ze (2*act+1+((p.length+1:Nat):Int)))] else p++[(⟨x.st,0⟩,lG x.st)]
def aq4 (act:Int):List (Stp×C3):=[(⟨[],0⟩,ze (2*act))]
def dI (s:mI) (k:Nat):List (Stp×C3):=(s.sts.take k).foldl (um s.act) (aq4 s.act)
theorem aeN {s:mI} {k:Nat} (h:k<s.sts.length):dI s (k+1)=um s.act (dI s k) (s.sts.getD k st0):=by unfold dI;rw[aQ st0 h,asK];rfl
theorem am3 (act:Int) (p:List (Stp×C3)) (x:Stp):(um act p x).length≤p.length+2∧p.length<(um act p x).length:=by
 unfold um
 split
 ·simp only[aaf,ai1,aoK];omega
 ·simp only[aaf,ai1,aoK];omega
theorem agB (s:mI):∀k,k≤s.sts.length→(dI s k).length≤2*k+1∧0<(dI s k).length
 | 0,_=>⟨by show (aq4 s.act).length≤1;exact aha _,by show 0<1;decide⟩
 | k+1,h=>by
  obtain ⟨h1,h2⟩:=agB s k (by omega)
  obtain ⟨h3,h4⟩:=am3 s.act (dI s k) (s.sts.getD k st0)
  rw[aeN (by omega)];omega
abbrev SC := Stp × C3
def qd:SC:=(st0,(iP 0,iP 0,.val (.slice none 0 0)))
def uU (x:Stp):List PV:=[if x.st=[] then .val (.slice none 0 0) else za x.st,iP x.wt]
def abC:PV:=.seq 1 (bn 1 [.val (.string (strOf [115,116,97,114,116]))])
def amW (act:Int) (ins:PV) (st tr:SV):Ob:=.cells 36 [iA act,.p false ins,st,tr]
def anK (s:SV):Ob:=.cells 77 [s]
def aqW (p:List SC):Ob:=.row 89 2 p.length (fun k=>uU (p.getD k qd).1)
def arY (p:List SC):Ob:=.row 79 3 p.length (fun k=>yV (p.getD k qd).2)
def ab3:SV:=.p false (.val (.slice none 0 0))
structure abS where
 act:Int
 p:List SC
 s0:PV
 wt:Int
 e0:PV
 e1:PV
 e2:PV
 x:SC
def abS.ok (a:abS):Prop:=a.p.length≤1000∧uU a.x.1=[a.s0,iP a.wt]∧yV a.x.2=[a.e0,a.e1,a.e2]
def apy (a:abS):List SV:=[.p false (.agg [a.s0,iP a.wt]),.p false (.agg [a.e0,a.e1,a.e2]),.own 0 0,.own 1 0]
def arV (n:Bool) (a:abS):Prop:=a.ok∧(n=true→a.p=[])
def asw:Bool→abS→List Ob
 | true,a=>[amW a.act abC ab3 ab3,anK ab3]
 | false,a=>[amW a.act abC (.row 2) ab3,anK (.row 3),aqW a.p,arY a.p]
def aqw (a:abS):List Ob:=[amW a.act abC (.row 2) ab3,anK (.row 3),aqW (a.p++[a.x]),arY (a.p++[a.x])]
def arh (n:Bool):rz:={ A:=abS,fix:=2,args:=apy,objs:=asw n,pre:=arV n,res:=fun _=>.tup [],objs':=aqw,inl:=[4000009,4000013] }
theorem tN (f:SC→List PV) (p:List SC) (x:SC) {g:Nat→List PV} (hg:g 0=f x):∀k,k<p.length+1→bS p.length (fun k=>f (p.getD k qd)) g k=f ((p++[x]).getD k qd):=by
 intro k hk
 unfold bS
 by_cases h:k<p.length
 ·rw[if_pos h]
  show f (p.getD k qd)=_
  rw[abo,abo,afk h]
 ·obtain rfl:k=p.length:=by omega
  rw[if_neg h,atn,hg,abo,agH (aha _),atn];rfl
theorem acn:jN Tryz.prog 68 (arh false):=by
 refine o8 (Tb:=tab) mixed aB Tryz.func68 rfl rfl ?_
 rintro ⟨act,p,s0,wt,e0,e1,e2,x⟩ hpre
 refine ai (ai rfl (ai rfl rfl)) ?_
 obtain ⟨⟨hp,hx,he⟩,_⟩:=hpre
 have hp:p.length≤1000:=hp
 have hx:uU x.1=[s0,iP wt]:=hx
 have he:yV x.2=[e0,e1,e2]:=he
 refine ei (.one 0 (.one 1 (.one 2 (.rd 5 [4] (.rd 6 [4] (.alt 3 (.alt 4 (.one 9 (.one 7 (.one 8 (.one 10 (.one 11 .done))))) (.alt 7 (.one 4 (.one 9 (.one 8 (.one 10 (.one 11 .done))))) .stop)) (.alt 7 (.one 3 (.one 4 (.one 9 (.one 8 (.one 10 (.one 11 .done)))))) .stop))))))) (ai (by kernel_rfl) ?_)
 refine ai ?_ (ai ?_ trivial)
 ·refine ai ?_ (ai ?_ trivial)
  ·refine ai (mxL (n:=p.length+1) (by omega) (by decide)) (ai (lt1 rfl) ?_)
   refine ai (mxL (n:=p.length+1) (by omega) (by decide)) (ai (lt1 rfl) ?_)
   refine ei [0,1,6,7] (ai (ai rfl (ai rfl rfl)) (ai trivial ?_))
   refine (ai (ai rfl (ai rfl (ai (ai rfl (fun _ _=>rfl)) (ai rfl rfl)))) (ai (ai rfl rfl) (ai (ai rfl (ai rfl (ai ?_ ?_))) (ai rfl (ai rfl (ai ?_ ?_))))))
   ·show p.length+1=(p++[x]).length;rw[aaf];rfl
   ·exact fun k hk=>tN (fun q=>uU q.1) p x (g:=bn 2 [s0,iP wt]) hx.symm k (by have hk:k<(p++[x]).length:=hk;rwa [aaf] at hk)
   ·show p.length+1=(p++[x]).length;rw[aaf];rfl
   ·exact fun k hk=>tN (fun q=>yV q.2) p x (g:=bn 3 [e0,e1,e2]) he.symm k (by have hk:k<(p++[x]).length:=hk;rwa [aaf] at hk)
  ·refine ai (mxL (n:=p.length+1) (by omega) (by decide)) (ai (lt1 rfl) ?_)
   refine ai (mxL (n:=p.length+1) (by omega) (by decide)) (ai (lt1 rfl) ?_)
   refine ei [0,1,6,7] (ai (ai rfl (ai rfl rfl)) (ai trivial ?_))
   refine (ai (ai rfl (ai rfl (ai (ai rfl (fun _ _=>rfl)) (ai rfl rfl)))) (ai (ai rfl rfl) (ai (ai rfl (ai rfl (ai ?_ ?_))) (ai rfl (ai rfl (ai ?_ ?_))))))
   ·show p.length+1=(p++[x]).length;rw[aaf];rfl
   ·exact fun k hk=>tN (fun q=>uU q.1) p x (g:=bn 2 [s0,iP wt]) hx.symm k (by have hk:k<(p++[x]).length:=hk;rwa [aaf] at hk)
   ·show p.length+1=(p++[x]).length;rw[aaf];rfl
   ·exact fun k hk=>tN (fun q=>yV q.2) p x (g:=bn 3 [e0,e1,e2]) he.symm k (by have hk:k<(p++[x]).length:=hk;rwa [aaf] at hk)
 ·refine ai (mxL (n:=p.length+1) (by omega) (by decide)) (ai (lt1 rfl) ?_)
  refine ai (mxL (n:=p.length+1) (by omega) (by decide)) (ai (lt1 rfl) ?_)
  refine ei [0,1,6,7] (ai (ai rfl (ai rfl rfl)) (ai trivial ?_))
  refine (ai (ai rfl (ai rfl (ai (ai rfl (fun _ _=>rfl)) (ai rfl rfl)))) (ai (ai rfl rfl) (ai (ai rfl (ai rfl (ai ?_ ?_))) (ai rfl (ai rfl (ai ?_ ?_))))))
  ·show p.length+1=(p++[x]).length;rw[aaf];rfl
  ·exact fun k hk=>tN (fun q=>uU q.1) p x (g:=bn 2 [s0,iP wt]) hx.symm k (by have hk:k<(p++[x]).length:=hk;rwa [aaf] at hk)
  ·show p.length+1=(p++[x]).length;rw[aaf];rfl
  ·exact fun k hk=>tN (fun q=>yV q.2) p x (g:=bn 3 [e0,e1,e2]) he.symm k (by have hk:k<(p++[x]).length:=hk;rwa [aaf] at hk)
theorem ao1:jN Tryz.prog 68 (arh true):=by
 refine o8 (Tb:=tab) mixed aB Tryz.func68 rfl rfl ?_
 rintro ⟨act,p,s0,wt,e0,e1,e2,x⟩ hpre
 refine ai (ai rfl (ai rfl rfl)) ?_
 obtain ⟨⟨hp,hx,he⟩,hn⟩:=hpre
 obtain rfl:p=[]:=hn rfl
 have hx:uU x.1=[s0,iP wt]:=hx
 have he:yV x.2=[e0,e1,e2]:=he
 refine ei (.one 0 (.one 1 (.one 2 (.rd 5 [4] (.rd 6 [4] (.alt 3 (.alt 4 (.one 9 (.one 7 (.one 8 (.one 10 (.one 11 .done))))) (.alt 7 (.one 4 (.one 9 (.one 8 (.one 10 (.one 11 .done))))) .stop)) (.alt 7 (.one 3 (.one 4 (.one 9 (.one 8 (.one 10 (.one 11 .done)))))) .stop))))))) (ai (by kernel_rfl) ?_)
 refine ai ?_ (ai ?_ trivial)
 ·refine ai ?_ (ai ?_ trivial)
  ·refine ai (ai (by decide) (by decide)) (ai (lt1 rfl) ?_)
   refine ai (ai (by decide) (by decide)) (ai (lt1 rfl) ?_)
   refine ei [0,1,4,5] (ai (ai rfl (ai rfl rfl)) (ai trivial ?_))
   refine (ai (ai rfl (ai rfl (ai (ai rfl (fun _ _=>rfl)) (ai rfl rfl)))) (ai (ai rfl rfl) (ai (ai rfl (ai rfl (ai rfl ?_))) (ai rfl (ai rfl (ai rfl ?_))))))
   ·intro k hk
    have hk:k<1:=hk
    obtain rfl:k=0:=by omega
    exact hx.symm
   ·intro k hk
    have hk:k<1:=hk
    obtain rfl:k=0:=by omega
    exact he.symm
  ·refine ai (ai (by decide) (by decide)) (ai (lt1 rfl) ?_)
   refine ai (ai (by decide) (by decide)) (ai (lt1 rfl) ?_)
   refine ei [0,1,4,5] (ai (ai rfl (ai rfl rfl)) (ai trivial ?_))
   refine (ai (ai rfl (ai rfl (ai (ai rfl (fun _ _=>rfl)) (ai rfl rfl)))) (ai (ai rfl rfl) (ai (ai rfl (ai rfl (ai rfl ?_))) (ai rfl (ai rfl (ai rfl ?_))))))
   ·intro k hk
    have hk:k<1:=hk
    obtain rfl:k=0:=by omega
    exact hx.symm
   ·intro k hk
    have hk:k<1:=hk
    obtain rfl:k=0:=by omega
    exact he.symm
 ·refine ai (ai (by decide) (by decide)) (ai (lt1 rfl) ?_)
  refine ai (ai (by decide) (by decide)) (ai (lt1 rfl) ?_)
  refine ei [0,1,4,5] (ai (ai rfl (ai rfl rfl)) (ai trivial ?_))
  refine (ai (ai rfl (ai rfl (ai (ai rfl (fun _ _=>rfl)) (ai rfl rfl)))) (ai (ai rfl rfl) (ai (ai rfl (ai rfl (ai rfl ?_))) (ai rfl (ai rfl (ai rfl ?_))))))
  ·intro k hk
   have hk:k<1:=hk
   obtain rfl:k=0:=by omega
   exact hx.symm
  ·intro k hk
   have hk:k<1:=hk
   obtain rfl:k=0:=by omega
   exact he.symm
def asf:Spec:=bT (fun l:List (Sk)=>[arL l]) (fun l=>l.length≤1000000) (fun l=>za l)
theorem apd:aL Tryz.prog 70 asf:=by
 refine aY (Tb:=tab) mixed aB Tryz.func70 rfl rfl ?_
 rintro (l:List (Sk)) hpre
 refine ai (ai rfl (ai rfl rfl)) ?_
 have hl:l.length≤1000000:=hpre
 intro b hb
 refine aZ (fun h1=>?_) (fun h1=>?_)
 ·have h1:l.length=0:=hb h1
  refine ai (ai (fun _=>trivial) ?_) trivial
  show ak _ (za l)
  rw[aqH.1 h1]
  exact rfl
 ·refine ai (mxL (n:=0+l.length) (by omega) (by decide)) (ai (fun _ _=>rfl) ?_)
  refine ai (ai (fun _ k hk=>by rw[afF k hk];rfl) ?_) trivial
  refine (ai ?_ (fun _ _=>rfl))
  exact aiF _
def toN (k n:Nat):Int:=(((k+1) % n:Nat):Int)
def aaX (p:List SC) (k:Nat):List PV:=[.seq 1 (bn 1 [iP (k:Int)]),.seq 1 (bn 1 [iP (toN k p.length)]),(p.getD k qd).2.1,(p.getD k qd).2.2.1,(p.getD k qd).2.2.2]
def asV (p:List SC) (k:Nat):LV:=.rw 123 5 k (aaX p)
def afz (act:Int) (p:List SC):PV:=.agg [iP act,abC,.seq p.length (fun k=>uU (p.getD k qd).1),.seq p.length (aaX p)]
def wu (s:mI):Int:=if ¬kS s=0 then kS s else if 24<(dI s s.sts.length).length then 5 else 0
def ofRaw (s:mI):PV:=if wu s=0 then .tup [afz s.act (dI s s.sts.length),iP 0] else .tup [.agg [iP 0,.val (.slice none 0 0),.val (.slice none 0 0),.val (.slice none 0 0)],iP (wu s)]
theorem aiX (p:List SC) (k:Nat) {g:Nat→List PV} (hg:g 0=aaX p k):∀j,j<k+1→bS k (aaX p) g j=aaX p j:=by
 intro j hj
 unfold bS
 by_cases h:j<k
 ·rw[if_pos h]
 ·obtain rfl:j=k:=by omega
  rw[if_neg h,atn,hg]
theorem seq_ok {s:mI} (h:kS s=0):(1≤s.act∧s.act≤6)∧s.sts.length≤64∧∀x∈s.sts,jT x=0:=by
 unfold kS at h
 split at h
 ·cases h
 rename_i h1
 split at h
 ·cases h
 split at h
 ·cases h
 rename_i h3
 split at h
 ·rename_i h4;exact absurd h h4
 rename_i h4
 refine ⟨by omega,by omega,fun x hx=>?_⟩
 obtain ⟨k,hk,rfl⟩:=arp hx
 have:=nG (aqu.1 h4) k hk
 rw[show s.sts.getD k st0=s.sts[k] by rw[abo,abn hk];rfl] at this
 exact (af0 this).1
end Go.Sx.Pe
