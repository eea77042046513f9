/- ChartFires, part 5 of its proof: declarations that the last part uses. -/
import Derived.Test.YteenedbiifampaaGreatDoorF4
set_option maxHeartbeats 1000000
set_option maxRecDepth 4000
set_option linter.unusedSimpArgs false
set_option linter.unusedVariables false
set_option linter.unusedSectionVars false
namespace Go.Sx.Pe
open Go Go.Proofs Go.Sx.Pn
theorem amD:aG Tryz.prog 95 aor:=by
 refine aU (Tb:=tab) mixed ay Tryz.func95 rfl rfl ?_
 rintro (a:aN×Stp) hpre
 refine ai (ai rfl (ai rfl rfl)) ?_
 have hl:a.2.st.length≤1000000:=hpre
 refine ei (bg.inv { X:=Nat,up:=fun k=>[(5,.s (iA k))],uo:=fun k=>[],inv:=fun k=>k≤a.2.st.length∧(∀j,j<k→jv a.1.act a.2.st j=0),meas:=fun k=>a.2.st.length-k,x0:=0 }) ?_
 refine ai (ai (ai (by exact (a4 (ai rfl rfl))) (ai (by exact (ai (ai (fun _=>rfl) (iE (by simp only[zz,reduceCtorEq];rfl))) rfl)) (by exact trivial))) rfl) (ai (ai (aeT _) ?_) ?_)
 ·exact fun j hj=>absurd hj (alb _)
 intro (k:Nat) ⟨hk,hall⟩
 refine ah (p:=k<a.2.st.length) (au (by omega)) (fun h1=>?_) (fun h1=>?_)
 ·refine ai (ai (abw _) (iN (n:=a.2.st.length) (by omega))) (ai rfl ?_)
  refine ah (p:=(a.2.st.getD k bB).1<0) (au Iff.rfl) (fun h2=>?_) (fun h2=>?_)
  ·have e:jv a.1.act a.2.st k=2:=by unfold jv;rw[if_pos (by omega)]
   have e2:dD (jv a.1.act a.2.st) a.2.st.length=2:=(cZ h1 hall (by rw[e];decide)).trans e
   refine ai (ai (fun _=>trivial) ?_) trivial
   show ak _ (iP (fB a.1.act a.2))
   rw[fB,if_pos (show ¬dD (jv a.1.act a.2.st) a.2.st.length=0 by rw[e2];decide),e2]
   exact rfl
  refine ah (p:=a.1.act≤(a.2.st.getD k bB).1) (cO Iff.rfl) (fun h3=>?_) (fun h3=>?_)
  ·have e:jv a.1.act a.2.st k=2:=by unfold jv;rw[if_pos (by omega)]
   have e2:dD (jv a.1.act a.2.st) a.2.st.length=2:=(cZ h1 hall (by rw[e];decide)).trans e
   refine ai (ai (fun _=>trivial) ?_) trivial
   show ak _ (iP (fB a.1.act a.2))
   rw[fB,if_pos (show ¬dD (jv a.1.act a.2.st) a.2.st.length=0 by rw[e2];decide),e2]
   exact rfl
  refine ah (p:=0<k) (au (by omega)) (fun h4=>?_) (fun h4=>?_)
  ·have hw:IntKind.i64.wrap ((k:Int)-1)=((k-1:Nat):Int):=ajK h4 (by omega)
   refine ai (ai (by rw[hw];exact abw _) (by rw[hw];show ((k-1:Nat):Int)<(a.2.st.length:Int);omega)) ?_
   refine ai rfl ?_
   refine ah (p:=(a.2.st.getD k bB).1≤(a.2.st.getD (k-1) bB).1) (by exact cO (by rw[hw];exact Iff.rfl)) (fun h5=>?_) (fun h5=>?_)
   ·have e:jv a.1.act a.2.st k=9:=by unfold jv;rw[if_neg (by omega),if_pos ⟨h4,h5⟩]
    have e2:dD (jv a.1.act a.2.st) a.2.st.length=9:=(cZ h1 hall (by rw[e];decide)).trans e
    refine ai (ai (fun _=>trivial) ?_) trivial
    show ak _ (iP (fB a.1.act a.2))
    rw[fB,if_pos (show ¬dD (jv a.1.act a.2.st) a.2.st.length=0 by rw[e2];decide),e2]
    exact rfl
   ·refine ei (k+1) (ai (ai rfl rfl) (ai (ai (ai rfl (ai (ai rfl rfl) (ai (ai rfl rfl) (ai (ai (ai (fun _=>rfl) (aH (by omega))) rfl) trivial)))) rfl) (ai (ai (iL (by omega)) ?_) (iM (by omega)))))
    intro j hj
    by_cases hjk:j=k
    ·subst hjk;unfold jv;rw[if_neg (by omega),if_neg (fun h=>h5 h.2)]
    ·exact hall j (by omega)
  ·refine ei (k+1) (ai (ai rfl rfl) (ai (ai (ai rfl (ai (ai rfl rfl) (ai (ai rfl rfl) (ai (ai (ai (fun _=>rfl) (aH (by omega))) rfl) trivial)))) rfl) (ai (ai (iL (by omega)) ?_) (iM (by omega)))))
   intro j hj
   by_cases hjk:j=k
   ·subst hjk;unfold jv;rw[if_neg (by omega),if_neg (fun h=>h4 h.1)]
   ·exact hall j (by omega)
 ·obtain rfl:k=a.2.st.length:=by omega
  have e2:dD (jv a.1.act a.2.st) a.2.st.length=0:=gG hall
  have hA:fB a.1.act a.2=if a.2.wt<0∨1000000<a.2.wt then 2 else 0:=by unfold fB;rw[if_neg (fun h=>h e2)]
  refine ah (p:=a.2.wt<0) (au (by omega)) (fun h6=>?_) (fun h6=>?_)
  ·refine ai (ai (fun _=>trivial) ?_) trivial
   show ak _ (iP (fB a.1.act a.2))
   rw[hA,if_pos (.inl h6)]
   exact rfl
  refine ah (p:=1000000<a.2.wt) (au (by omega)) (fun h7=>?_) (fun h7=>?_)
  ·refine ai (ai (fun _=>trivial) ?_) trivial
   show ak _ (iP (fB a.1.act a.2))
   rw[hA,if_pos (.inr h7)]
   exact rfl
  ·refine ai (ai (fun _=>trivial) ?_) trivial
   show ak _ (iP (fB a.1.act a.2))
   rw[hA,if_neg (fun h=>h.elim h6 h7)]
   exact rfl
def mY (n:Nat) (l:List Int) (k:Nat):Int:=if l.getD k 0<0∨(n:Int)≤l.getD k 0 then 2 else if 0<k∧l.getD k 0≤l.getD (k-1) 0 then 9 else 0
def iw (n:Nat) (l:List Int):Int:=if l.length=0 then 13 else dD (mY n l) l.length
def aqA:Spec:=bM (fun a:aN×List Int=>[iJ a.1,isA a.2]) (fun a=>a.2.length≤1000000) (fun a=>iP (iw a.1.sts.length a.2))
theorem aeQ:aG Tryz.prog 148 aqA:=by
 refine aU (Tb:=tab) mixed ay Tryz.func148 rfl rfl ?_
 rintro (a:aN×List Int) hpre
 refine ai (ai rfl (ai rfl rfl)) ?_
 have hl:a.2.length≤1000000:=hpre
 refine ah (p:=a.2.length=0) (eZ (by omega)) (fun h0=>?_) (fun h0=>?_)
 ·refine ai (ai (fun _=>trivial) ?_) trivial
  show ak _ (iP (iw a.1.sts.length a.2))
  rw[iw,if_pos h0]
  exact rfl
 have hA:iw a.1.sts.length a.2=dD (mY a.1.sts.length a.2) a.2.length:=by unfold iw;rw[if_neg h0]
 refine ei (bg.inv { X:=Nat,up:=fun k=>[(12,.s (iA k))],uo:=fun k=>[],inv:=fun k=>k≤a.2.length∧(∀j,j<k→mY a.1.sts.length a.2 j=0),meas:=fun k=>a.2.length-k,x0:=0 }) ?_
 refine ai (ai (ai (by exact (a4 (ai rfl rfl))) (ai (by exact (ai (ai (fun _=>rfl) (iE (by simp only[zz,reduceCtorEq];rfl))) rfl)) (by exact trivial))) rfl) (ai (ai (aeT _) ?_) ?_)
 ·exact fun j hj=>absurd hj (alb _)
 intro (k:Nat) ⟨hk,hall⟩
 refine ah (p:=k<a.2.length) (au (by omega)) (fun h1=>?_) (fun h1=>?_)
 ·skip
  refine ai (ai (abw _) (iN (n:=a.2.length) (by omega))) (ai rfl ?_)
  refine ah (p:=a.2.getD k 0<0) (au Iff.rfl) (fun h2=>?_) (fun h2=>?_)
  ·have e:mY a.1.sts.length a.2 k=2:=by unfold mY;rw[if_pos (by omega)]
   refine ai (ai (fun _=>trivial) ?_) trivial
   show ak _ (iP (iw a.1.sts.length a.2))
   rw[hA,cZ h1 hall (by rw[e];decide),e]
   exact rfl
  skip
  refine ah (p:=(a.1.sts.length:Int)≤a.2.getD k 0) (cO Iff.rfl) (fun h3=>?_) (fun h3=>?_)
  ·have e:mY a.1.sts.length a.2 k=2:=by unfold mY;rw[if_pos (by omega)]
   refine ai (ai (fun _=>trivial) ?_) trivial
   show ak _ (iP (iw a.1.sts.length a.2))
   rw[hA,cZ h1 hall (by rw[e];decide),e]
   exact rfl
  skip
  refine ah (p:=0<k) (au (by omega)) (fun h4=>?_) (fun h4=>?_)
  ·have hw:IntKind.i64.wrap ((k:Int)-1)=((k-1:Nat):Int):=ajK h4 (by omega)
   skip
   refine ai (ai (by rw[hw];exact abw _) (by rw[hw];show ((k-1:Nat):Int)<(a.2.length:Int);omega)) ?_
   refine ai rfl ?_
   refine ah (p:=a.2.getD k 0≤a.2.getD (k-1) 0) (by exact cO (by rw[hw];exact Iff.rfl)) (fun h5=>?_) (fun h5=>?_)
   ·have e:mY a.1.sts.length a.2 k=9:=by unfold mY;rw[if_neg (by omega),if_pos ⟨h4,h5⟩]
    refine ai (ai (fun _=>trivial) ?_) trivial
    show ak _ (iP (iw a.1.sts.length a.2))
    rw[hA,cZ h1 hall (by rw[e];decide),e]
    exact rfl
   ·refine ei (k+1) (ai (ai rfl rfl) (ai (ai (ai rfl (ai (ai rfl rfl) (ai (ai rfl rfl) (ai (ai (ai (fun _=>rfl) (aH (by omega))) rfl) trivial)))) rfl) (ai (ai (iL (by omega)) ?_) (iM (by omega)))))
    intro j hj
    by_cases hjk:j=k
    ·subst hjk;unfold mY;rw[if_neg (by omega),if_neg (fun h=>h5 h.2)]
    ·exact hall j (by omega)
  ·refine ei (k+1) (ai (ai rfl rfl) (ai (ai (ai rfl (ai (ai rfl rfl) (ai (ai rfl rfl) (ai (ai (ai (fun _=>rfl) (aH (by omega))) rfl) trivial)))) rfl) (ai (ai (iL (by omega)) ?_) (iM (by omega)))))
   intro j hj
   by_cases hjk:j=k
   ·subst hjk;unfold mY;rw[if_neg (by omega),if_neg (fun h=>h4 h.1)]
   ·exact hall j (by omega)
 ·obtain rfl:k=a.2.length:=by omega
  refine ai (ai (fun _=>trivial) ?_) trivial
  show ak _ (iP (iw a.1.sts.length a.2))
  rw[hA,gG hall]
  exact rfl
theorem agE:aG Tryz.prog 96 aqA:=by
 refine aU (Tb:=tab) mixed ay Tryz.func96 rfl rfl ?_
 rintro (a:aN×List Int) hpre
 refine ai (ai rfl (ai rfl rfl)) ?_
 have hl:a.2.length≤1000000:=hpre
 refine ah (p:=a.2.length=0) (eZ (by omega)) (fun h0=>?_) (fun h0=>?_)
 ·refine ai (ai (fun _=>trivial) ?_) trivial
  show ak _ (iP (iw a.1.sts.length a.2))
  rw[iw,if_pos h0]
  exact rfl
 have hA:iw a.1.sts.length a.2=dD (mY a.1.sts.length a.2) a.2.length:=by unfold iw;rw[if_neg h0]
 refine ei (bg.inv { X:=Nat,up:=fun k=>[(5,.s (iA k))],uo:=fun k=>[],inv:=fun k=>k≤a.2.length∧(∀j,j<k→mY a.1.sts.length a.2 j=0),meas:=fun k=>a.2.length-k,x0:=0 }) ?_
 refine ai (ai (ai (by exact (a4 (ai rfl rfl))) (ai (by exact (ai (ai (fun _=>rfl) (iE (by simp only[zz,reduceCtorEq];rfl))) rfl)) (by exact trivial))) rfl) (ai (ai (aeT _) ?_) ?_)
 ·exact fun j hj=>absurd hj (alb _)
 intro (k:Nat) ⟨hk,hall⟩
 refine ah (p:=k<a.2.length) (au (by omega)) (fun h1=>?_) (fun h1=>?_)
 ·refine ei (.seq [0,1,2,3,4,5,6,7,8,9,10,11,12,13,14]) (ai (by kernel_rfl) ?_)
  refine ai (ai (abw _) (iN (n:=a.2.length) (by omega))) (ai rfl ?_)
  refine ah (p:=a.2.getD k 0<0) (au Iff.rfl) (fun h2=>?_) (fun h2=>?_)
  ·have e:mY a.1.sts.length a.2 k=2:=by unfold mY;rw[if_pos (by omega)]
   refine ai (ai (fun _=>trivial) ?_) trivial
   show ak _ (iP (iw a.1.sts.length a.2))
   rw[hA,cZ h1 hall (by rw[e];decide),e]
   exact rfl
  refine ai (ai (abw _) (iN (n:=a.2.length) (by omega))) (ai rfl ?_)
  refine ah (p:=(a.1.sts.length:Int)≤a.2.getD k 0) (cO Iff.rfl) (fun h3=>?_) (fun h3=>?_)
  ·have e:mY a.1.sts.length a.2 k=2:=by unfold mY;rw[if_pos (by omega)]
   refine ai (ai (fun _=>trivial) ?_) trivial
   show ak _ (iP (iw a.1.sts.length a.2))
   rw[hA,cZ h1 hall (by rw[e];decide),e]
   exact rfl
  refine ei (.seq [0,1,2,3,4,5,6,7,8,9,10,11,12,13]) (ai (by kernel_rfl) ?_)
  refine ah (p:=0<k) (au (by omega)) (fun h4=>?_) (fun h4=>?_)
  ·have hw:IntKind.i64.wrap ((k:Int)-1)=((k-1:Nat):Int):=ajK h4 (by omega)
   refine ai (ai (abw _) (iN (n:=a.2.length) (by omega))) (ai rfl ?_)
   refine ai (ai (by rw[hw];exact abw _) (by rw[hw];show ((k-1:Nat):Int)<(a.2.length:Int);omega)) ?_
   refine ai rfl ?_
   refine ah (p:=a.2.getD k 0≤a.2.getD (k-1) 0) (by exact cO (by rw[hw];exact Iff.rfl)) (fun h5=>?_) (fun h5=>?_)
   ·have e:mY a.1.sts.length a.2 k=9:=by unfold mY;rw[if_neg (by omega),if_pos ⟨h4,h5⟩]
    refine ai (ai (fun _=>trivial) ?_) trivial
    show ak _ (iP (iw a.1.sts.length a.2))
    rw[hA,cZ h1 hall (by rw[e];decide),e]
    exact rfl
   ·refine ei (k+1) (ai (ai rfl rfl) (ai (ai (ai rfl (ai (ai rfl rfl) (ai (ai rfl rfl) (ai (ai (ai (fun _=>rfl) (aH (by omega))) rfl) trivial)))) rfl) (ai (ai (iL (by omega)) ?_) (iM (by omega)))))
    intro j hj
    by_cases hjk:j=k
    ·subst hjk;unfold mY;rw[if_neg (by omega),if_neg (fun h=>h5 h.2)]
    ·exact hall j (by omega)
  ·refine ei (k+1) (ai (ai rfl rfl) (ai (ai (ai rfl (ai (ai rfl rfl) (ai (ai rfl rfl) (ai (ai (ai (fun _=>rfl) (aH (by omega))) rfl) trivial)))) rfl) (ai (ai (iL (by omega)) ?_) (iM (by omega)))))
   intro j hj
   by_cases hjk:j=k
   ·subst hjk;unfold mY;rw[if_neg (by omega),if_neg (fun h=>h4 h.1)]
   ·exact hall j (by omega)
 ·obtain rfl:k=a.2.length:=by omega
  refine ai (ai (fun _=>trivial) ?_) trivial
  show ak _ (iP (iw a.1.sts.length a.2))
  rw[hA,gG hall]
  exact rfl
def jX (c:aN):Int:=2*c.act+c.ins.length+c.sts.length
def wD (c:aN):Prop:=0≤c.act∧c.act≤1000∧c.ins.length≤1000000∧c.sts.length≤1000000
def aoP:Spec:=bM (fun c:aN=>[iJ c]) wD (fun c=>iP (jX c))
theorem ai3:aG Tryz.prog 149 aoP:=by
 refine aU (Tb:=tab) mixed ay Tryz.func149 rfl rfl ?_
 rintro (c:aN) hpre
 refine ai (ai rfl (ai rfl rfl)) ?_
 obtain ⟨h1,h2,h3,h4⟩:=hpre
 have h1:0≤c.act:=h1
 have h2:c.act≤1000:=h2
 have h3:c.ins.length≤1000000:=h3
 have h4:c.sts.length≤1000000:=h4
 refine ai (ai (fun _=>trivial) ?_) trivial
 show IntKind.i64.wrap (IntKind.i64.wrap (IntKind.i64.wrap (2*c.act)+(c.ins.length:Int))+(c.sts.length:Int))=jX c
 rw[jq (n:=2*c.act) (by omega) (by omega),jq (n:=2*c.act+(c.ins.length:Int)) (by omega) (by omega),jq (by omega) (by omega)];rfl
theorem ahw:aG Tryz.prog 47 aoP:=by
 refine aU (Tb:=tab) mixed ay Tryz.func47 rfl rfl ?_
 rintro (c:aN) hpre
 refine ai (ai rfl (ai rfl rfl)) ?_
 obtain ⟨h1,h2,h3,h4⟩:=hpre
 have h1:0≤c.act:=h1
 have h2:c.act≤1000:=h2
 have h3:c.ins.length≤1000000:=h3
 have h4:c.sts.length≤1000000:=h4
 refine ai (ai (fun _=>trivial) ?_) trivial
 show IntKind.i64.wrap (IntKind.i64.wrap (IntKind.i64.wrap (2*c.act)+(c.ins.length:Int))+(c.sts.length:Int))=jX c
 rw[jq (n:=2*c.act) (by omega) (by omega),jq (n:=2*c.act+(c.ins.length:Int)) (by omega) (by omega),jq (by omega) (by omega)];rfl
def iX (c:aN) (t:jK):Int:=if ¬iw c.sts.length t.fr=0 then iw c.sts.length t.fr else if ¬iw c.sts.length t.to=0 then iw c.sts.length t.to else dB t.wh (jX c)
def akG (t:jK):Prop:=t.fr.length≤1000000∧t.to.length≤1000000∧t.wh.size≤1000000
def asP:Spec:=bM (fun a:aN×jK=>[iJ a.1,trA a.2]) (fun a=>wD a.1∧akG a.2) (fun a=>iP (iX a.1 a.2))
theorem aqs:aG Tryz.prog 91 asP:=by
 refine aU (Tb:=tab) mixed ay Tryz.func91 rfl rfl ?_
 rintro (a:aN×jK) hpre
 refine ai (ai rfl (ai rfl rfl)) ?_
 obtain ⟨hs,h1,h2,h3⟩:=hpre
 refine ei (bg.unroll 3) ?_
 refine ai (by decide) ?_
 refine ai (by decide) ?_
 refine ei _ (ai (aeQ) (ei ((a.1,a.2.fr)) (ei [] (ai (a4 (ai (fun _=>Or.inl rfl) (ai nof (Or.inl rfl)))) (ai (by exact (ai (ai rfl (ai (ai rfl (fun _ _=>rfl)) (ai (ai rfl (fun _ _=>rfl)) (ai rfl (fun _ _=>rfl))))) (ai rfl (fun _ _=>rfl)))) (ai trivial (ai (h1) ?_)))))))
 refine aZ (p:=iw a.1.sts.length a.2.fr=0) (bI (by dsimp only;omega)) (fun g1=>?_) (fun g1=>?_)
 ·refine ai (ai (fun _=>trivial) ?_) trivial
  show ak _ (iP (iX a.1 a.2))
  rw[iX,if_pos g1]
  exact rfl
 refine ai (by decide) ?_
 refine ai (by decide) ?_
 refine ei _ (ai (aeQ) (ei ((a.1,a.2.to)) (ei [] (ai (a4 (ai (fun _=>Or.inl rfl) (ai nof (Or.inl rfl)))) (ai (by exact (ai (ai rfl (ai (ai rfl (fun _ _=>rfl)) (ai (ai rfl (fun _ _=>rfl)) (ai rfl (fun _ _=>rfl))))) (ai rfl (fun _ _=>rfl)))) (ai trivial (ai (h2) ?_)))))))
 refine aZ (p:=iw a.1.sts.length a.2.to=0) (bI (by dsimp only;omega)) (fun g2=>?_) (fun g2=>?_)
 ·refine ai (ai (fun _=>trivial) ?_) trivial
  show ak _ (iP (iX a.1 a.2))
  rw[iX,if_neg (fun h=>h g1),if_pos g2]
  exact rfl
 refine ei (.seq [0,1,2,3,4,5]) (ai (by kernel_rfl) ?_)
 refine ei _ (ai (ai3) (ei (a.1) (ei [] (ai (a4 (ai (fun _=>Or.inl rfl) (ai nof (Or.inl rfl)))) (ai (by exact (ai rfl (ai (ai rfl (fun _ _=>rfl)) (ai (ai rfl (fun _ _=>rfl)) (ai rfl (fun _ _=>rfl)))))) (ai trivial (ai (hs) ?_)))))))
 refine ei _ (ai (abR) (ei ((a.2.wh,jX a.1)) (ei [] (ai (a4 (ai (fun _=>Or.inl rfl) (ai nof (Or.inl rfl)))) (ai (by exact (ai (ai rfl (ai rfl (ai rfl (fun _ _=>rfl)))) rfl)) (ai trivial (ai (h3) ?_)))))))
 refine ai (ai (fun _=>trivial) ?_) trivial
 show ak _ (iP (iX a.1 a.2))
 rw[iX,if_neg (fun h=>h g1),if_neg (fun h=>h g2)]
 exact rfl
def an9:Spec:=bM (fun a:aN×List Stp=>[.p false (ajW a.2),.p false (.bnd 90 [vG a.1])]) (fun a=>a.2.length≤1000000∧∀s∈a.2,s.st.length≤1000000) (fun a=>iP (dD (fun k=>fB a.1.act (a.2.getD k st0)) a.2.length))
theorem akE:aG Tryz.prog 92 an9:=by
 refine aU (Tb:=tab) mixed ay Tryz.func92 rfl rfl ?_
 rintro (a:aN×List Stp) hpre
 refine ai (ai rfl (ai rfl rfl)) ?_
 obtain ⟨hl,hs⟩:=hpre
 have hl:a.2.length≤1000000:=hl
 refine ei (bg.inv { X:=Nat,up:=fun k=>[(10,.s (iA k))],uo:=fun k=>[],inv:=fun k=>k≤a.2.length∧(∀j,j<k→fB a.1.act (a.2.getD j st0)=0),meas:=fun k=>a.2.length-k,x0:=0 }) ?_
 refine ai (ai (ai (by exact (a4 (ai rfl rfl))) (ai (by exact (ai (ai (fun _=>rfl) (iE (by simp only[zz,reduceCtorEq];rfl))) rfl)) (by exact trivial))) rfl) (ai (ai (aeT _) ?_) ?_)
 ·exact fun j hj=>absurd hj (alb _)
 intro (k:Nat) ⟨hk,hall⟩
 refine ah (p:=k<a.2.length) (au (by omega)) (fun h1=>?_) (fun h1=>?_)
 ·refine ai (ai (abw _) (iN (n:=a.2.length) (by omega))) (ai rfl ?_)
  refine ei _ (ai (step_ok) (ei ((a.1,a.2.getD k st0)) (ei [] (ai (a4 (ai (fun _=>Or.inl rfl) (ai nof (Or.inl rfl)))) (ai (by exact (ai (ai rfl (ai (ai rfl (fun _ _=>rfl)) (ai (ai rfl (fun _ _=>rfl)) (ai rfl (fun _ _=>rfl))))) (ai (ai rfl (fun _ _=>rfl)) (iE (by simp only[zz,reduceCtorEq]))))) (ai trivial (ai (hs _ (aeJ (bJ st0 h1))) ?_)))))))
  refine aZ (p:=fB a.1.act (a.2.getD k st0)=0) (bI (by dsimp only;omega)) (fun h2=>?_) (fun h2=>?_)
  ·refine ai (ai (fun _=>trivial) ?_) trivial
   show ak _ (iP (dD (fun k=>fB a.1.act (a.2.getD k st0)) a.2.length))
   rw[cZ h1 hall h2]
   exact rfl
  refine ei (k+1) (ai (ai rfl rfl) (ai (ai (ai rfl (ai (ai rfl rfl) (ai (ai rfl rfl) (ai (ai (ai (fun _=>rfl) (aH (by omega))) rfl) trivial)))) rfl) (ai (ai (iL (by omega)) ?_) (iM (by omega)))))
  intro j hj
  by_cases hjk:j=k
  ·subst hjk;exact h2
  ·exact hall j (by omega)
 ·obtain rfl:k=a.2.length:=by omega
  refine ai (ai (fun _=>trivial) ?_) trivial
  show ak _ (iP (dD (fun k=>fB a.1.act (a.2.getD k st0)) a.2.length))
  rw[gG hall]
  exact rfl
def aoe:Spec:=bM (fun a:aN×List jK=>[.p false (anB a.2),.p false (.bnd 91 [vG a.1])]) (fun a=>a.2.length≤1000000∧wD a.1∧∀s∈a.2,akG s) (fun a=>iP (dD (fun k=>iX a.1 (a.2.getD k aD)) a.2.length))
theorem aj3:aG Tryz.prog 93 aoe:=by
 refine aU (Tb:=tab) mixed ay Tryz.func93 rfl rfl ?_
 rintro (a:aN×List jK) hpre
 refine ai (ai rfl (ai rfl rfl)) ?_
 obtain ⟨hl,hc,hs⟩:=hpre
 have hl:a.2.length≤1000000:=hl
 refine ei (bg.inv { X:=Nat,up:=fun k=>[(10,.s (iA k))],uo:=fun k=>[],inv:=fun k=>k≤a.2.length∧(∀j,j<k→iX a.1 (a.2.getD j aD)=0),meas:=fun k=>a.2.length-k,x0:=0 }) ?_
 refine ai (ai (ai (by exact (a4 (ai rfl rfl))) (ai (by exact (ai (ai (fun _=>rfl) (iE (by simp only[zz,reduceCtorEq];rfl))) rfl)) (by exact trivial))) rfl) (ai (ai (aeT _) ?_) ?_)
 ·exact fun j hj=>absurd hj (alb _)
 intro (k:Nat) ⟨hk,hall⟩
 refine ah (p:=k<a.2.length) (au (by omega)) (fun h1=>?_) (fun h1=>?_)
 ·refine ai (ai (abw _) (iN (n:=a.2.length) (by omega))) (ai rfl ?_)
  refine ei _ (ai (aqs) (ei ((a.1,a.2.getD k aD)) (ei [] (ai (a4 (ai (fun _=>Or.inl rfl) (ai nof (Or.inl rfl)))) (ai (by exact (ai (ai rfl (ai (ai rfl (fun _ _=>rfl)) (ai (ai rfl (fun _ _=>rfl)) (ai rfl (fun _ _=>rfl))))) (ai (ai rfl (fun _ _=>rfl)) (ai (ai rfl (fun _ _=>rfl)) (ai (iE (by simp only[zz,reduceCtorEq])) (ai (iE (by simp only[zz,reduceCtorEq])) (ai rfl (fun _ _=>rfl)))))))) (ai trivial (ai (⟨hc,hs _ (aeJ (bJ aD h1))⟩) ?_)))))))
  refine aZ (p:=iX a.1 (a.2.getD k aD)=0) (bI (by dsimp only;omega)) (fun h2=>?_) (fun h2=>?_)
  ·refine ai (ai (fun _=>trivial) ?_) trivial
   show ak _ (iP (dD (fun k=>iX a.1 (a.2.getD k aD)) a.2.length))
   rw[cZ h1 hall h2]
   exact rfl
  refine ei (k+1) (ai (ai rfl rfl) (ai (ai (ai rfl (ai (ai rfl rfl) (ai (ai rfl rfl) (ai (ai (ai (fun _=>rfl) (aH (by omega))) rfl) trivial)))) rfl) (ai (ai (iL (by omega)) ?_) (iM (by omega)))))
  intro j hj
  by_cases hjk:j=k
  ·subst hjk;exact h2
  ·exact hall j (by omega)
 ·obtain rfl:k=a.2.length:=by omega
  refine ai (ai (fun _=>trivial) ?_) trivial
  show ak _ (iP (dD (fun k=>iX a.1 (a.2.getD k aD)) a.2.length))
  rw[gG hall]
  exact rfl
def bE (c:aN):Int:=
 if c.act<1∨6<c.act then 2 else if ¬dO c.ins=0 then dO c.ins else if c.sts.length=0 then 13 else if 24<c.sts.length∨32<c.trs.length then 5 else
 if ¬dD (fun k=>fB c.act (c.sts.getD k st0)) c.sts.length=0 then dD (fun k=>fB c.act (c.sts.getD k st0)) c.sts.length else dD (fun k=>iX c (c.trs.getD k aD)) c.trs.length
def fC (c:aN):Prop:=(∀s∈c.sts,s.st.length≤1000000)∧∀t∈c.trs,akG t
theorem qp {l:List (List UInt8)} (h:dO l=0):l.length≤16:=by
 unfold dO at h
 split at h
 ·cases h
 ·omega
def aqr:Spec:=bM (fun c:aN=>[iJ c]) fC (fun c=>iP (bE c))
theorem ahK:aG Tryz.prog 26 aqr:=by
 refine aU (Tb:=tab) mixed ay Tryz.func26 rfl rfl ?_
 rintro (c:aN) hpre
 refine ai (ai rfl (ai rfl rfl)) ?_
 obtain ⟨hst,htr⟩:=hpre
 refine ah (p:=c.act<1) (au (by omega)) (fun h1=>?_) (fun h1=>?_)
 ·refine ai (ai (fun _=>trivial) ?_) trivial
  show ak _ (iP (bE c))
  rw[bE,if_pos (.inl h1)]
  exact rfl
 refine ah (p:=6<c.act) (au (by omega)) (fun h2=>?_) (fun h2=>?_)
 ·refine ai (ai (fun _=>trivial) ?_) trivial
  show ak _ (iP (bE c))
  rw[bE,if_pos (.inr h2)]
  exact rfl
 have e0:¬(c.act<1∨6<c.act):=fun h=>h.elim h1 h2
 refine ei _ (ai (amb) (ei (c.ins) (ei [] (ai (a4 (ai (fun _=>Or.inl rfl) (ai nof (Or.inl rfl)))) (ai (by exact (ai rfl (fun _ _=>rfl))) (ai trivial (ai (trivial) ?_)))))))
 refine aZ (p:=dO c.ins=0) (bI (by omega)) (fun h3=>?_) (fun h3=>?_)
 ·refine ai (ai (fun _=>trivial) ?_) trivial
  show ak _ (iP (bE c))
  rw[bE,if_neg e0,if_pos h3]
  exact rfl
 have h16:=qp h3
 have e1:¬¬dO c.ins=0:=fun h=>h h3
 refine ah (p:=c.sts.length=0) (eZ (by omega)) (fun h4=>?_) (fun h4=>?_)
 ·refine ai (ai (fun _=>trivial) ?_) trivial
  show ak _ (iP (bE c))
  rw[bE,if_neg e0,if_neg e1,if_pos h4]
  exact rfl
 refine ah (p:=24<c.sts.length) (au (by omega)) (fun h5=>?_) (fun h5=>?_)
 ·refine ai (ai (fun _=>trivial) ?_) trivial
  show ak _ (iP (bE c))
  rw[bE,if_neg e0,if_neg e1,if_neg h4,if_pos (.inl h5)]
  exact rfl
 refine ah (p:=32<c.trs.length) (au (by omega)) (fun h6=>?_) (fun h6=>?_)
 ·refine ai (ai (fun _=>trivial) ?_) trivial
  show ak _ (iP (bE c))
  rw[bE,if_neg e0,if_neg e1,if_neg h4,if_pos (.inr h6)]
  exact rfl
 have e2:¬(24<c.sts.length∨32<c.trs.length):=fun h=>h.elim h5 h6
 refine ei (.seq [0,1,2,3,4,5]) (ai (by kernel_rfl) ?_)
 refine ei _ (ai (akE) (ei ((c,c.sts)) (ei [] (ai (a4 (ai (fun _=>Or.inl rfl) (ai nof (Or.inl rfl)))) (ai (by exact (ai (ai rfl (fun _ _=>rfl)) (ai rfl rfl))) (ai trivial (ai (⟨by show c.sts.length≤1000000;omega,hst⟩) ?_)))))))
 refine aZ (p:=dD (fun k=>fB c.act (c.sts.getD k st0)) c.sts.length=0) (bI (by dsimp only;omega)) (fun h7=>?_) (fun h7=>?_)
 ·refine ai (ai (fun _=>trivial) ?_) trivial
  show ak _ (iP (bE c))
  rw[bE,if_neg e0,if_neg e1,if_neg h4,if_neg e2,if_pos h7]
  exact rfl
 have hsm:wD c:=⟨by omega,by omega,by omega,by omega⟩
 refine ei _ (ai (aj3) (ei ((c,c.trs)) (ei [] (ai (a4 (ai (fun _=>Or.inl rfl) (ai nof (Or.inl rfl)))) (ai (by exact (ai (ai rfl (fun _ _=>rfl)) (ai rfl rfl))) (ai trivial (ai (⟨by show c.trs.length≤1000000;omega,hsm,htr⟩) ?_)))))))
 refine ai (ai (fun _=>trivial) ?_) trivial
 show ak _ (iP (bE c))
 rw[bE,if_neg e0,if_neg e1,if_neg h4,if_neg e2,if_neg (fun h=>h h7)]
 exact rfl
theorem ael:aG Tryz.prog 27 aqr:=by
 refine aU (Tb:=tab) mixed ay Tryz.func27 rfl rfl ?_
 rintro (c:aN) hpre
 refine ai (ai rfl (ai rfl rfl)) ?_
 obtain ⟨hst,htr⟩:=hpre
 refine ah (p:=c.act<1) (au (by omega)) (fun h1=>?_) (fun h1=>?_)
 ·refine ai (ai (fun _=>trivial) ?_) trivial
  show ak _ (iP (bE c))
  rw[bE,if_pos (.inl h1)]
  exact rfl
 refine ah (p:=6<c.act) (au (by omega)) (fun h2=>?_) (fun h2=>?_)
 ·refine ai (ai (fun _=>trivial) ?_) trivial
  show ak _ (iP (bE c))
  rw[bE,if_pos (.inr h2)]
  exact rfl
 have e0:¬(c.act<1∨6<c.act):=fun h=>h.elim h1 h2
 refine ei _ (ai (ajM) (ei (c.ins) (ei [] (ai (a4 (ai (fun _=>Or.inl rfl) (ai nof (Or.inl rfl)))) (ai (by exact (ai rfl (fun _ _=>rfl))) (ai trivial (ai (trivial) ?_)))))))
 refine aZ (p:=dO c.ins=0) (bI (by omega)) (fun h3=>?_) (fun h3=>?_)
 ·refine ai (ai (fun _=>trivial) ?_) trivial
  show ak _ (iP (bE c))
  rw[bE,if_neg e0,if_pos h3]
  exact rfl
 have h16:=qp h3
 have e1:¬¬dO c.ins=0:=fun h=>h h3
 refine ah (p:=c.sts.length=0) (eZ (by omega)) (fun h4=>?_) (fun h4=>?_)
 ·refine ai (ai (fun _=>trivial) ?_) trivial
  show ak _ (iP (bE c))
  rw[bE,if_neg e0,if_neg e1,if_pos h4]
  exact rfl
 refine ah (p:=24<c.sts.length) (au (by omega)) (fun h5=>?_) (fun h5=>?_)
 ·refine ai (ai (fun _=>trivial) ?_) trivial
  show ak _ (iP (bE c))
  rw[bE,if_neg e0,if_neg e1,if_neg h4,if_pos (.inl h5)]
  exact rfl
 refine ah (p:=32<c.trs.length) (au (by omega)) (fun h6=>?_) (fun h6=>?_)
 ·refine ai (ai (fun _=>trivial) ?_) trivial
  show ak _ (iP (bE c))
  rw[bE,if_neg e0,if_neg e1,if_neg h4,if_pos (.inr h6)]
  exact rfl
 have e2:¬(24<c.sts.length∨32<c.trs.length):=fun h=>h.elim h5 h6
 have hA:bE c=if ¬dD (fun k=>fB c.act (c.sts.getD k st0)) c.sts.length=0 then dD (fun k=>fB c.act (c.sts.getD k st0)) c.sts.length else dD (fun k=>iX c (c.trs.getD k aD)) c.trs.length:=by
  unfold bE;rw[if_neg e0,if_neg e1,if_neg h4,if_neg e2]
 refine ei (bg.inv { X:=Nat,up:=fun k=>[(4,.s (iA k))],uo:=fun k=>[],inv:=fun k=>k≤c.sts.length∧(∀j,j<k→fB c.act (c.sts.getD j st0)=0),meas:=fun k=>c.sts.length-k,x0:=0 }) ?_
 refine ai (ai (ai (by exact (a4 (ai rfl rfl))) (ai (by exact (ai (ai (fun _=>rfl) (iE (by simp only[zz,reduceCtorEq];rfl))) rfl)) (by exact trivial))) rfl) (ai (ai (aeT _) ?_) ?_)
 ·exact fun j hj=>absurd hj (alb _)
 intro (k:Nat) ⟨hk,hall⟩
 refine ah (p:=k<c.sts.length) (au (by omega)) (fun g1=>?_) (fun g1=>?_)
 ·refine ei (.seq [0,1,2,3,4,5,6,7]) (ai (by kernel_rfl) ?_)
  refine ai (ai (abw _) (iN (n:=c.sts.length) (by omega))) (ai rfl ?_)
  refine ei _ (ai (amD) (ei ((c,c.sts.getD k st0)) (ei [] (ai (a4 (ai (fun _=>Or.inl rfl) (ai nof (Or.inl rfl)))) (ai (by exact (ai (ai rfl (ai (ai rfl (fun _ _=>rfl)) (ai (ai rfl (fun _ _=>rfl)) (ai rfl (fun _ _=>rfl))))) (ai (ai rfl (fun _ _=>rfl)) (iE (by simp only[zz,reduceCtorEq]))))) (ai trivial (ai (hst _ (aeJ (bJ st0 g1))) ?_)))))))
  refine aZ (p:=fB c.act (c.sts.getD k st0)=0) (bI (by dsimp only;omega)) (fun g2=>?_) (fun g2=>?_)
  ·have e:=cZ (f:=fun k=>fB c.act (c.sts.getD k st0)) g1 hall g2
   refine ai (ai (fun _=>trivial) ?_) trivial
   show ak _ (iP (bE c))
   rw[hA,if_pos (show ¬dD (fun k=>fB c.act (c.sts.getD k st0)) c.sts.length=0 by rw[e];exact g2),e]
   exact rfl
  refine ei (k+1) (ai (ai rfl rfl) (ai (ai (ai rfl (ai (ai rfl rfl) (ai (ai rfl rfl) (ai (ai (ai (fun _=>rfl) (aH (by omega))) rfl) trivial)))) rfl) (ai (ai (iL (by omega)) ?_) (iM (by omega)))))
  intro j hj
  by_cases hjk:j=k
  ·subst hjk;exact g2
  ·exact hall j (by omega)
 ·obtain rfl:k=c.sts.length:=by omega
  rw[if_neg (fun h=>h (gG hall))] at hA
  refine ei (bg.inv { X:=Nat,up:=fun j=>[(6,.s (iA j))],uo:=fun j=>[],inv:=fun j=>j≤c.trs.length∧(∀i,i<j→iX c (c.trs.getD i aD)=0),meas:=fun j=>c.trs.length-j,x0:=0 }) ?_
  refine ai (ai (ai (by exact (a4 (ai rfl rfl))) (ai (by exact (ai (ai (fun _=>rfl) (iE (by simp only[zz,reduceCtorEq];rfl))) rfl)) (by exact trivial))) rfl) (ai (ai (aeT _) ?_) ?_)
  ·exact fun i hi=>absurd hi (alb _)
  intro (j:Nat) ⟨hj,hallt⟩
  refine ah (p:=j<c.trs.length) (au (by omega)) (fun g3=>?_) (fun g3=>?_)
  ·refine ai (ai (abw _) (iN (n:=c.trs.length) (by omega))) (ai rfl ?_)
   have hto:=htr _ (aeJ (bJ aD g3))
   refine ei _ (ai (agE) (ei ((c,(c.trs.getD j aD).fr)) (ei [] (ai (a4 (ai (fun _=>Or.inl rfl) (ai nof (Or.inl rfl)))) (ai (by exact (ai (ai rfl (ai (ai rfl (fun _ _=>rfl)) (ai (ai rfl (fun _ _=>rfl)) (ai rfl (fun _ _=>rfl))))) (ai rfl (fun _ _=>rfl)))) (ai trivial (ai (hto.1) ?_)))))))
   refine aZ (p:=iw c.sts.length (c.trs.getD j aD).fr=0) (bI (by dsimp only;omega)) (fun g4=>?_) (fun g4=>?_)
   ·have e:iX c (c.trs.getD j aD)=iw c.sts.length (c.trs.getD j aD).fr:=by unfold iX;rw[if_pos g4]
    refine ai (ai (fun _=>trivial) ?_) trivial
    show ak _ (iP (bE c))
    rw[hA,cZ (f:=fun k=>iX c (c.trs.getD k aD)) g3 hallt (by rw[e];exact g4),e]
    exact rfl
   refine ei _ (ai (agE) (ei ((c,(c.trs.getD j aD).to)) (ei [] (ai (a4 (ai (fun _=>Or.inl rfl) (ai nof (Or.inl rfl)))) (ai (by exact (ai (ai rfl (ai (ai rfl (fun _ _=>rfl)) (ai (ai rfl (fun _ _=>rfl)) (ai rfl (fun _ _=>rfl))))) (ai rfl (fun _ _=>rfl)))) (ai trivial (ai (hto.2.1) ?_)))))))
   refine aZ (p:=iw c.sts.length (c.trs.getD j aD).to=0) (bI (by dsimp only;omega)) (fun g5=>?_) (fun g5=>?_)
   ·have e:iX c (c.trs.getD j aD)=iw c.sts.length (c.trs.getD j aD).to:=by unfold iX;rw[if_neg (fun h=>h g4),if_pos g5]
    refine ai (ai (fun _=>trivial) ?_) trivial
    show ak _ (iP (bE c))
    rw[hA,cZ (f:=fun k=>iX c (c.trs.getD k aD)) g3 hallt (by rw[e];exact g5),e]
    exact rfl
   refine ei (.seq [0,1,2,3,4,5]) (ai (by kernel_rfl) ?_)
   have hsm:wD c:=⟨by omega,by omega,by omega,by omega⟩
   refine ei _ (ai (ahw) (ei (c) (ei [] (ai (a4 (ai (fun _=>Or.inl rfl) (ai nof (Or.inl rfl)))) (ai (by exact (ai rfl (ai (ai rfl (fun _ _=>rfl)) (ai (ai rfl (fun _ _=>rfl)) (ai rfl (fun _ _=>rfl)))))) (ai trivial (ai (hsm) ?_)))))))
   refine ei _ (ai (amh) (ei (((c.trs.getD j aD).wh,jX c)) (ei [] (ai (a4 (ai (fun _=>Or.inl rfl) (ai nof (Or.inl rfl)))) (ai (by exact (ai (ai (iE (by simp only[zz,reduceCtorEq])) (ai (iE (by simp only[zz,reduceCtorEq])) (ai rfl (fun _ _=>rfl)))) rfl)) (ai trivial (ai (trivial) ?_)))))))
   have e:iX c (c.trs.getD j aD)=dB (c.trs.getD j aD).wh (jX c):=by unfold iX;rw[if_neg (fun h=>h g4),if_neg (fun h=>h g5)]
   refine aZ (p:=dB (c.trs.getD j aD).wh (jX c)=0) (bI (by dsimp only;omega)) (fun g6=>?_) (fun g6=>?_)
   ·refine ai (ai (fun _=>trivial) ?_) trivial
    show ak _ (iP (bE c))
    rw[hA,cZ (f:=fun k=>iX c (c.trs.getD k aD)) g3 hallt (by rw[e];exact g6),e]
    exact rfl
   refine ei (j+1) (ai (ai rfl rfl) (ai (ai (ai rfl (ai (ai rfl rfl) (ai (ai rfl rfl) (ai (ai (ai (fun _=>rfl) (aH (by omega))) rfl) trivial)))) rfl) (ai (ai (iL (by omega)) ?_) (iM (by omega)))))
   intro i hi
   by_cases hij:i=j
   ·subst hij;rw[e];exact g6
   ·exact hallt i (by omega)
  ·obtain rfl:j=c.trs.length:=by omega
   refine ai (ai (fun _=>trivial) ?_) trivial
   show ak _ (iP (bE c))
   rw[hA,gG hallt]
   exact rfl
abbrev dec (n : Nat) : List UInt8 := Lib.decDigits n
def ad3 (n:Nat):List UInt8:=if n=0 then [] else dec n
theorem als (n:Nat):ad3 n=if n=0 then [] else ad3 (n / 10)++[UInt8.ofNat (48+n % 10)]:=by
 unfold ad3
 by_cases h:n=0
 ·rw[if_pos h,if_pos h]
 ·rw[if_neg h,if_neg h]
  unfold dec
  rw[Lib.decDigits]
  by_cases h2:n<10
  ·rw[dif_pos h2,if_pos (by omega),atx h2];rfl
  ·rw[dif_neg h2,if_neg (by omega)]
theorem apN (s:List UInt8) (l h:Nat):(strOf s).extract l h=strOf ((s.take h).drop l):=by
 apply ByteArray.ext
 simp only[strOf,ByteArray.data_extract]
 apply Array.ext'
 simp[List.drop_take]
theorem xq:aG Tryz.prog 79 (bM (fun n:Nat=>[iA n]) (fun n=>n<100) (fun n=>sP (dec n))):=
 ahX (ae0 (α:=Nat) Tryz.func79 rfl rfl (vals:=fun n=>[.int .i64 n]) (pre:=fun n=>n<100) (ret:=fun n=>.string (strOf (dec n))) (fun _ _=>rfl)
  fun n hn w=>(Tryz.strconv_Itoa_small n hn w).mono fun e w' h=>by
   obtain ⟨h1,h2⟩:=h
   subst h2
   exact ⟨h1,RowKit.Below.refl _ _⟩) id
  (fun _ _=>rfl) (fun _ _=>rfl) (fun _ _=>rfl) (fun _ _=>rfl) (fun _ h=>h)
def aen (i:Nat) (d:UInt8):List UInt8:=[UInt8.ofNat (97+i),d]
def jy:Nat→List (List UInt8)
 | 0=>[]
 | n+1=>jy n++[aen n 48,aen n 49]
theorem aaV:∀n,(jy n).length=2*n
 | 0=>rfl
 | n+1=>by rw[jy,abg,aaV n];simp;omega
def yN (k:Nat):List UInt8:=121 :: dec k
def nN:Nat→List (List UInt8)
 | 0=>[]
 | n+1=>nN n++[yN n]
theorem aaU:∀n,(nN n).length=n
 | 0=>rfl
 | n+1=>by rw[nN,abg,aaU n];rfl
def dS (c:aN):List (List UInt8):=jy c.act.toNat++c.ins++nN c.sts.length
theorem aa1 {a b:List (List UInt8)} {n:Nat} {f g:Nat→List PV} (hn:n=a.length) (hf:∀k,k<a.length→f k=[sP (a.getD k [])]) (hg:∀k,k<b.length→g k=[sP (b.getD k [])]):∀k,k<(a++b).length→bQ n f g k=[sP ((a++b).getD k [])]:=by
 intro k hk
 subst hn
 unfold bQ
 by_cases h:k<a.length
 ·rw[if_pos h,hf k h,abl,abl,afs h]
 ·have hb:k-a.length<b.length:=by rw[abg] at hk;omega
  rw[if_neg h,hg _ hb,abl,abl,ag4 (by omega)]
def ssR (l:List (List UInt8)):LV:=.rw 9 1 l.length (fun k=>[sP (l.getD k [])])
def abc:List UInt8:=[97,98,99,100,101,102]
theorem aqC {d:Nat} (h:d<6):(strOf abc).extract ((d:Int)).toNat (((d+1:Nat):Int)).toNat=strOf [UInt8.ofNat (97+d)]:=by
 rw[aq5,aq5,apN]
 have:∀d:Fin 6,(abc.take (d.1+1)).drop d.1=[UInt8.ofNat (97+d.1)]:=by decide
 exact congrArg strOf (this ⟨d,h⟩)
def agO (c:aN):Prop:=1≤c.act∧c.act≤6∧c.ins.length≤1000∧c.sts.length≤99
def asN:Spec:=gX (fun c:aN=>[iJ c]) agO (fun c=>ssP (dS c))
theorem ao3 {x y:List UInt8} {a b:ByteArray} (ha:a=strOf x) (hb:b=strOf y):∀k,k<[x,y].length→bn 1 [.val (.string a),.val (.string b)] k=[sP ([x,y].getD k [])]:=by
 intro k hk
 have hk:k<2:=hk
 subst ha;subst hb
 match k,hk with
 | 0,_=>rfl
 | 1,_=>rfl
theorem ajb {x:List UInt8} {a:ByteArray} (ha:a=strOf x):∀k,k<[x].length→bn 1 [.val (.string a)] k=[sP ([x].getD k [])]:=by
 intro k hk
 have hk:k<1:=hk
 subst ha
 obtain rfl:k=0:=by omega
 rfl
theorem aK {l:List PV} (n:Nat) (h:l.length=n):∀k,k<n→(bn 1 l k).length=1:=by
 intro k hk
 subst h
 induction l generalizing k with
 | nil=>simp at hk
 | cons d l ih=>
  cases k with
  | zero=>rfl
  | succ k=>
   have h1:=ih k (by simpa using hk)
   show (bn 1 (d :: l) (k+1)).length=1
   have:bn 1 (d :: l) (k+1)=bn 1 l k:=by
    unfold bn
    rw[aoD,aoD];rfl
   rw[this];exact h1
theorem afF {n:Nat} (h:n≤10000):n≤maxLen∧n*16≤140737488355328:=⟨by unfold maxLen;omega,by omega⟩
theorem aqp:aG Tryz.prog 76 asN:=by
 refine aU (Tb:=tab) mixed ay Tryz.func76 rfl rfl ?_
 rintro (c:aN) hpre
 refine ai (ai rfl (ai rfl rfl)) ?_
 obtain ⟨h1,h2,h3,h4⟩:=hpre
 have h1:1≤c.act:=h1
 have h2:c.act≤6:=h2
 have h3:c.ins.length≤1000:=h3
 have h4:c.sts.length≤99:=h4
 refine ei (bg.inv { X:=Nat,up:=fun i=>[(9,.s (iA i)),(3,ssR (jy i))],uo:=fun i=>[],inv:=fun i=>i≤c.act.toNat∧(True),meas:=fun i=>c.act.toNat-i,x0:=0 }) ?_
 refine ai (ai (ai (by exact (a4 (ai rfl rfl))) (ai (by exact (ai (ai (ai (fun _=>rfl) (iE (by simp only[zz,reduceCtorEq];rfl))) rfl) rfl)) (by exact trivial))) rfl) (ai (ai (aeT _) ?_) ?_)
 ·trivial
 intro (i:Nat) ⟨hi,_⟩
 have hln:=aaV i
 refine ah (p:=i<c.act.toNat) (by exact au (by omega)) (fun g1=>?_) (fun g1=>?_)
 ·have hw:IntKind.i64.wrap ((i:Int)+1)=((i+1:Nat):Int):=aH (by omega)
  have hx:(strOf abc).extract ((i:Int)).toNat (IntKind.i64.wrap ((i:Int)+1)).toNat=strOf [UInt8.ofNat (97+i)]:=by rw[hw];exact aqC (by omega)
  have hxs:((((strOf abc).extract ((i:Int)).toNat (IntKind.i64.wrap ((i:Int)+1)).toNat).size+1:Nat):Int)≤9223372036854775807:=by rw[hx,dN];show ((1+1:Nat):Int)≤_;decide
  refine ai (ai (abw _) (ai (by rw[hw];omega) (by rw[hw];show ((i+1:Nat):Int)≤6;omega))) ?_
  refine ai hxs (ai hxs ?_)
  refine ai (afF (by show (jy i).length+2≤10000;omega)) (ai (aK 2 rfl) ?_)
  refine ei (i+1) (ai (ai rfl rfl) (ai (ai (ai rfl (ai (ai rfl rfl) (ai (ai rfl rfl) (ai (ai (ai (ai (fun _=>rfl) (aH (by omega))) rfl) (ai rfl (ai rfl (ai ?_ ?_)))) trivial)))) rfl) (ai (ai (iL (by omega)) trivial) (iM (by omega)))))
  ·show (jy i).length+2=(jy (i+1)).length
   rw[jy,abg];rfl
  ·exact fun k hk=>aa1 (a:=jy i) (b:=[aen i 48,aen i 49]) (n:=(jy i).length) (f:=fun k=>[sP ((jy i).getD k [])]) rfl (fun _ _=>rfl) (ao3 (x:=aen i 48) (y:=aen i 49) (a:=(strOf abc).extract ((i:Int)).toNat (IntKind.i64.wrap ((i:Int)+1)).toNat++strOf [48]) (b:=(strOf abc).extract ((i:Int)).toNat (IntKind.i64.wrap ((i:Int)+1)).toNat++strOf [49]) (by rw[hx,eU];rfl) (by rw[hx,eU];rfl)) k (by rw[abg];exact hk)
 ·obtain rfl:i=c.act.toNat:=by omega
  refine ai (afF (by show (jy c.act.toNat).length+c.ins.length≤10000;omega)) (ai (fun _ _=>rfl) ?_)
  refine ei (bg.inv { X:=Nat,up:=fun j=>[(31,.s (iA j)),(3,ssR (jy c.act.toNat++c.ins++nN j))],uo:=fun j=>[],inv:=fun j=>j≤c.sts.length∧(True),meas:=fun j=>c.sts.length-j,x0:=0 }) ?_
  refine ai (ai (ai (by exact (a4 (ai rfl rfl))) (ai ?_ ?_)) rfl) (ai (ai (aeT _) ?_) ?_)
  ·refine (ai (ai (ai (fun _=>rfl) (iE (by simp only[zz,reduceCtorEq];rfl))) rfl) (ai rfl (ai rfl (ai ?_ ?_))))
   ·show (jy c.act.toNat).length+c.ins.length=(jy c.act.toNat++c.ins++nN 0).length
    rw[abg,abg];rfl
   ·intro k hk
    have:=aa1 (a:=jy c.act.toNat) (b:=c.ins) (n:=(jy c.act.toNat).length) (f:=fun k=>[sP ((jy c.act.toNat).getD k [])]) (g:=fun k=>[sP (c.ins.getD k [])]) rfl (fun _ _=>rfl) (fun _ _=>rfl) k (by rw[abg];exact hk)
    rw[this]
    show _=[sP ((jy c.act.toNat++c.ins++[]).getD k [])]
    rw[aqH]
  ·exact trivial
  ·trivial
  intro (j:Nat) ⟨hj,_⟩
  have hlj:=aaU j
  have hla:(jy c.act.toNat++c.ins++nN j).length=2*c.act.toNat+c.ins.length+j:=by rw[abg,abg,hln,hlj]
  refine ah (p:=j<c.sts.length) (au (by omega)) (fun g2=>?_) (fun g2=>?_)
  ·refine ei _ (ai (xq) (ei (j) (ei [] (ai (a4 (ai (fun _=>Or.inl rfl) (ai nof (Or.inl rfl)))) (ai (by exact rfl) (ai trivial (ai ((by show j<100;omega)) ?_)))))))
   have hd:(dec j).length≤2:=by
    have:∀j:Fin 100,(Lib.decDigits j.1).length≤2:=by decide +kernel
    exact this ⟨j,by omega⟩
   refine ai (by show (((strOf [121]).size+(strOf (dec j)).size:Nat):Int)≤9223372036854775807;rw[dN,dN,List.length_singleton];omega) ?_
   refine ai (afF (by show (jy c.act.toNat++c.ins++nN j).length+1≤10000;omega)) (ai (aK 1 rfl) ?_)
   refine ei (j+1) (ai (ai rfl rfl) (ai (ai (ai rfl (ai (ai rfl rfl) (ai (ai rfl rfl) (ai (ai (ai (ai (fun _=>rfl) (aH (by omega))) rfl) (ai rfl (ai rfl (ai ?_ ?_)))) trivial)))) rfl) (ai (ai (iL (by omega)) trivial) (iM (by omega)))))
   ·show (jy c.act.toNat++c.ins++nN j).length+1=(jy c.act.toNat++c.ins++nN (j+1)).length
    rw[nN,abg,abg,abg,abg,abg];rfl
   ·have e:jy c.act.toNat++c.ins++nN (j+1)=(jy c.act.toNat++c.ins++nN j)++[yN j]:=by rw[nN];simp
    have:=aa1 (a:=jy c.act.toNat++c.ins++nN j) (b:=[yN j]) rfl (fun _ _=>rfl) (ajb (x:=yN j) (a:=strOf [121]++strOf (dec j)) (by rw[eU];rfl))
    rw[←e] at this
    intro k hk
    exact this k (by rw[e,abg];exact hk)
  ·obtain rfl:j=c.sts.length:=by omega
   refine ai (ai (fun h=>absurd (show false=true from h) (by decide)) ?_) trivial
   show ak _ (ssP (dS c))
   rw[dS]
   exact (ai rfl (fun _ _=>rfl))
theorem dW {c:aN} (h:bE c=0):(1≤c.act∧c.act≤6)∧dO c.ins=0∧(0<c.sts.length∧c.sts.length≤24)∧c.trs.length≤32∧(∀k,k<c.sts.length→fB c.act (c.sts.getD k st0)=0)∧∀k,k<c.trs.length→iX c (c.trs.getD k aD)=0:=by
 unfold bE at h
 split at h
 ·cases h
 split at h
 ·rename_i h1 h2;exact absurd h h2
 split at h
 ·cases h
 split at h
 ·cases h
 split at h
 ·rename_i h1;exact absurd h h1
 rename_i h1 h2 h3 h4 h5
 refine ⟨by omega,aqG.1 h2,by omega,by omega,fun k hk=>oW (aqG.1 h5) k hk,fun k hk=>oW h k hk⟩
theorem an0 {c:aN} (h:bE c=0):agO c:=by
 obtain ⟨h1,h2,h3,h4,-⟩:=dW h
 have:=qp h2
 exact ⟨h1.1,h1.2,by omega,by omega⟩
def fA (m:List Bool) (k:Nat):PV:=bP (m.getD k false)
def mJ (m:List Bool):PV:=.arr 24 (fA m)
def uS (m:List Bool):SV:=.p false (mJ m)
theorem oC (g:Nat→PV):∀(n i k:Nat),k<n→(mq g i n)[k]?=some (g (i+k))
 | 0,_,_,h=>by omega
 | n+1,i,0,_=>rfl
 | n+1,i,k+1,h=>by
  show (mq g (i+1) n)[k]?=_
  rw[oC g n (i+1) k (by omega),show i+1+k=i+(k+1) by omega]
theorem aow (m:List Bool) {k:Nat} (h:k<24):(eD 24 (fA m))[k]?=some (fA m k):=by
 unfold eD;rw[oC _ _ _ _ h,ahH]
def eP (n:Nat) (l:List Int):Prop:=∀k∈l,0≤k∧k<(n:Int)
theorem jw {n:Nat} {l:List Int} (h:eP n l) {k:Nat} (hk:k<l.length):0≤l.getD k 0∧l.getD k 0<(n:Int):=h _ (aeJ (bJ 0 hk))
def gM (m:List Bool) (k:Int):Bool:=m.getD k.toNat false
def allM (m:List Bool) (l:List Int):Bool:=l.all (gM m)
def ark (m:List Bool):PV:=.fn 161 [.pt (eD 24 (fA m)) 0]
theorem aoZ:aG Tryz.prog 161 (bM (fun a:List Bool×Int=>[iA a.2,.p false (.pt (eD 24 (fA a.1)) 0)]) (fun a=>0≤a.2∧a.2<24) (fun a=>bP (!gM a.1 a.2))):=by
 refine aU (Tb:=tab) mixed ay Tryz.func161 rfl rfl ?_
 rintro (a:List Bool×Int) hpre
 refine ai (ai rfl (ai rfl rfl)) ?_
 have h1:0≤a.2:=hpre.1
 have h2:a.2<24:=hpre.2
 refine ai ⟨h1,h2⟩ ?_
 refine ei (fA a.1 a.2.toNat) (ai (by rw[ahH];exact aow a.1 (by omega)) ?_)
 refine ai (ai (fun _=>trivial) ?_) trivial
 exact rfl
def ar5:Spec:=bM (fun a:List Bool×List Int=>[isA a.2,.p false (ark a.1)]) (fun a=>eP 24 a.2∧a.2.length≤1000000) (fun a=>iP (jr (fun k=>!gM a.1 k) a.2))
theorem apX:aG Tryz.prog 106 ar5:=by
 refine aU (Tb:=tab) mixed ay Tryz.func106 rfl rfl ?_
 rintro (a:List Bool×List Int) hpre
 refine ai (ai rfl (ai rfl rfl)) ?_
 obtain ⟨hx,hl⟩:=hpre
 have hl:a.2.length≤1000000:=hl
 refine ei (bg.inv { X:=Nat,up:=fun k=>[(8,.s (iA k))],uo:=fun k=>[],inv:=fun k=>k≤a.2.length∧(∀y∈a.2.take k,(!gM a.1 y)=false),meas:=fun k=>a.2.length-k,x0:=0 }) ?_
 refine ai (ai (ai (by exact (a4 (ai rfl rfl))) (ai (by exact (ai (ai (fun _=>rfl) (iE (by simp only[zz,reduceCtorEq];rfl))) rfl)) (by exact trivial))) rfl) (ai (ai (aeT _) ?_) ?_)
 ·exact fun y hy=>absurd hy (by simp)
 intro (k:Nat) ⟨hk,hall⟩
 refine ah (p:=k<a.2.length) (au (by omega)) (fun h1=>?_) (fun h1=>?_)
 ·refine ai (ai (abw _) (iN (n:=a.2.length) (by omega))) (ai rfl ?_)
  refine ei _ (ai (aoZ) (ei ((a.1,a.2.getD k 0)) (ei [] (ai (a4 (ai (fun _=>Or.inl rfl) (ai nof (Or.inl rfl)))) (ai (by exact (ai (iE (by simp only[zz,reduceCtorEq])) (ai rfl rfl))) (ai trivial (ai (jw hx h1) ?_)))))))
  refine aR (b:=!gM a.1 (a.2.getD k 0)) rfl (fun h2=>?_) (fun h2=>?_)
  ·refine ai (ai (fun _=>trivial) ?_) trivial
   show ak _ (iP (jr (fun k=>!gM a.1 k) a.2))
   rw[qK (d:=0) h1 h2 hall]
   exact rfl
  refine ei (k+1) (ai (ai rfl rfl) (ai (ai (ai rfl (ai (ai rfl rfl) (ai (ai rfl rfl) (ai (ai (ai (fun _=>rfl) (aH (by omega))) rfl) trivial)))) rfl) (ai (ai (iL (by omega)) ?_) (iM (by omega)))))
  intro y hy
  rw[aM 0 h1] at hy
  rcases ahv.1 hy with hy | hy
  ·exact hall y hy
  ·simp only[aiz] at hy;subst hy;exact h2
 ·obtain rfl:k=a.2.length:=by omega
  rw[af0] at hall
  refine ai (ai (fun _=>trivial) ?_) trivial
  show ak _ (iP (jr (fun k=>!gM a.1 k) a.2))
  rw[uh hall]
  exact rfl
theorem aoU:aG Tryz.prog 38 (bM (fun a:List Bool×List Int=>[isA a.2,.p false (ark a.1)]) (fun a=>eP 24 a.2∧a.2.length≤1000000) (fun a=>bP (a.2.any fun k=>!gM a.1 k))):=by
 refine aU (Tb:=tab) mixed ay Tryz.func38 rfl rfl ?_
 rintro (a:List Bool×List Int) hpre
 refine ai (ai rfl (ai rfl rfl)) ?_
 refine ei _ (ai (apX) (ei (a) (ei [] (ai (a4 (ai (fun _=>Or.inl rfl) (ai nof (Or.inl rfl)))) (ai (by exact (ai (ai rfl (fun _ _=>rfl)) (ai rfl rfl))) (ai trivial (ai (hpre) ?_)))))))
 refine ai (ai (fun _=>trivial) ?_) trivial
 show ak _ (bP (a.2.any fun k=>!gM a.1 k))
 rw[(qD (fun k=>!gM a.1 k) a.2).symm]
 exact rfl
theorem ahR:aG Tryz.prog 114 (bM (fun a:List Bool×List Int=>[uS a.1,isA a.2]) (fun a=>eP 24 a.2∧a.2.length≤1000000) (fun a=>bP (allM a.1 a.2))):=by
 refine jC [3000006] ?_
 refine aU (Tb:=tab) mixed ay Tryz.func114 rfl rfl ?_
 rintro (a:List Bool×List Int) hpre
 refine ai (ai rfl (ai rfl rfl)) ?_
 refine ei _ (ai (aoU) (ei (a) (ei [] (ai (a4 (ai (fun _=>Or.inl rfl) (ai nof (Or.inl rfl)))) (ai (by exact (ai (ai rfl (fun _ _=>rfl)) (ai rfl rfl))) (ai trivial (ai (hpre) ?_)))))))
 refine ai (ai (fun _=>trivial) ?_) trivial
 show ak _ (bP (allM a.1 a.2))
 rw[show allM a.1 a.2=!(a.2.any fun k=>!gM a.1 k) by unfold allM;simp[List.not_any_eq_all_not]]
 exact rfl
def bN (l:List Bool):List Bool:=l++List.replicate (24-l.length) false
theorem l6 (l:List Bool) (k:Nat):(bN l).getD k false=l.getD k false:=by
 unfold bN
 rw[abl,abl]
 by_cases h:k<l.length
 ·rw[afs h]
 ·rw[ag4 (by omega),asw (l:=l) (by omega),atJ]
  split<;>rfl
theorem ni {l:List Bool} (h:l.length≤24):(bN l).length=24:=by unfold bN;rw[abg,ato];omega
def mk0:List Bool:=bN []
def gT (c:aN) (a:List Bool):Int:=if ¬bE c=0 then bE c else if ¬a.length=c.sts.length then 8 else 0
def jH (c:aN) (a:List Bool):List Bool:=if gT c a=0 then bN a else mk0
def asW:Spec:=gX (fun a:aN×List Bool=>[iJ a.1,kI a.2]) (fun a=>fC a.1) (fun a=>.tup [mJ (jH a.1 a.2),iP (gT a.1 a.2)])
theorem ajG:∀k,k<24→kM (vals (List.replicate 24 (.bool false))) k=fA mk0 k:=by
 intro k hk
 rw[tK,aef 24 _ hk]
 unfold fA mk0
 rw[l6];rfl
theorem iQ {c:aN} {a:List Bool} (h:gT c a=0):bE c=0∧a.length=c.sts.length∧a.length≤24:=by
 unfold gT at h
 split at h
 ·rename_i h1;exact absurd h h1
 ·rename_i h1
  split at h
  ·cases h
  ·rename_i h2
   have h1:=aqG.1 h1
   have h2:=aqG.1 h2
   have:=(dW h1).2.2.1.2
   exact ⟨h1,h2,by omega⟩
theorem apw {l:List Bool} (h:l.length≤24):∀k,k<24→aa6 (kM (vals (List.replicate 24 (.bool false)))) 0 (Nat.min l.length 24) (fun k=>[bP (l.getD k false)]) k=fA (bN l) k:=by
 intro k hk
 unfold aa6
 have hm:Nat.min l.length 24=l.length:=atF h
 rw[hm]
 unfold fA
 rw[l6]
 by_cases hk2:k<l.length
 ·rw[if_pos ⟨aeT _,by omega⟩,atj];rfl
 ·rw[if_neg (by omega),tK,aef 24 _ hk,abl,asw (by omega)];rfl
theorem ae1:aG Tryz.prog 110 asW:=by
 refine aU (Tb:=tab) mixed ay Tryz.func110 rfl rfl ?_
 rintro (a:aN×List Bool) hpre
 refine ai (ai rfl (ai rfl rfl)) ?_
 refine ei _ (ai (ahK) (ei (a.1) (ei [] (ai (a4 (ai (fun _=>Or.inl rfl) (ai nof (Or.inl rfl)))) (ai (by exact (ai rfl (ai (ai rfl (fun _ _=>rfl)) (ai (ai rfl (fun _ _=>rfl)) (ai rfl (fun _ _=>rfl)))))) (ai trivial (ai (hpre) ?_)))))))
 refine aZ (p:=bE a.1=0) (bI (by omega)) (fun h1=>?_) (fun h1=>?_)
 ·have e:gT a.1 a.2=bE a.1:=by unfold gT;rw[if_pos h1]
  refine ai (ai (fun h=>absurd (show false=true from h) (by decide)) ?_) trivial
  show ak _ (.tup [mJ (jH a.1 a.2),iP (gT a.1 a.2)])
  rw[jH,e,if_neg h1]
  refine (ai (ai rfl ?_) rfl)
  exact ajG
 refine aZ (p:=a.2.length=a.1.sts.length) (bI (by omega)) (fun h2=>?_) (fun h2=>?_)
 ·have e:gT a.1 a.2=8:=by unfold gT;rw[if_neg (fun h=>h h1),if_pos h2]
  refine ai (ai (fun h=>absurd (show false=true from h) (by decide)) ?_) trivial
  show ak _ (.tup [mJ (jH a.1 a.2),iP (gT a.1 a.2)])
  rw[jH,e,if_neg (show ¬(8:Int)=0 by decide)]
  refine (ai (ai rfl ?_) rfl)
  exact ajG
 have e:gT a.1 a.2=0:=by unfold gT;rw[if_neg (fun h=>h h1),if_neg (fun h=>h h2)]
 refine ai (ai (by decide) (ai (by decide) (by decide))) ?_
 refine ai (ai rfl (fun _ _=>rfl)) ?_
 refine ai (ai (fun h=>absurd (show false=true from h) (by decide)) ?_) trivial
 show ak _ (.tup [mJ (jH a.1 a.2),iP (gT a.1 a.2)])
 rw[jH,e,if_pos rfl]
 refine (ai (ai rfl ?_) rfl)
 exact apw (iQ e).2.2
def fT (c:aN) (a v:List Bool):Int:=if ¬gT c a=0 then gT c a else if ¬(v.length:Int)=jX c then 8 else 0
def asT:Spec:=gX (fun a:aN×List Bool×List Bool=>[iJ a.1,kI a.2.1,kI a.2.2]) (fun a=>fC a.1) (fun a=>.tup [mJ (jH a.1 a.2.1),iP (fT a.1 a.2.1 a.2.2)])
theorem acz {c:aN} (h:bE c=0):wD c:=by
 obtain ⟨h1,h2,h3,h4,-⟩:=dW h
 have:=qp h2
 exact ⟨by omega,by omega,by omega,by omega⟩
theorem ag2:aG Tryz.prog 112 asT:=by
 refine aU (Tb:=tab) mixed ay Tryz.func112 rfl rfl ?_
 rintro (a:aN×List Bool×List Bool) hpre
 refine ai (ai rfl (ai rfl rfl)) ?_
 refine ei _ (ai (ae1) (ei ((a.1,a.2.1)) (ei [] (ai (a4 (ai (fun _=>Or.inl rfl) (ai nof (Or.inl rfl)))) (ai (by exact (ai (ai rfl (ai (ai rfl (fun _ _=>rfl)) (ai (ai rfl (fun _ _=>rfl)) (ai rfl (fun _ _=>rfl))))) (ai rfl (fun _ _=>rfl)))) (ai trivial (ai (hpre) ?_)))))))
 refine ah (p:=gT a.1 a.2.1=0) (eZ (by dsimp only;omega)) (fun h1=>?_) (fun h1=>?_)
 ·refine ei _ (ai (ai3) (ei (a.1) (ei [] (ai (a4 (ai (fun _=>Or.inl rfl) (ai nof (Or.inl rfl)))) (ai (by exact (ai rfl (ai (ai rfl (fun _ _=>rfl)) (ai (ai rfl (fun _ _=>rfl)) (ai rfl (fun _ _=>rfl)))))) (ai trivial (ai (acz (iQ h1).1) ?_)))))))
  refine aZ (p:=(a.2.2.length:Int)=jX a.1) (bI (by omega)) (fun h2=>?_) (fun h2=>?_)
  ·have e:fT a.1 a.2.1 a.2.2=8:=by unfold fT;rw[if_neg (fun h=>h h1),if_pos h2]
   refine ai (ai (fun h=>absurd (show false=true from h) (by decide)) ?_) trivial
   show ak _ (.tup [mJ (jH a.1 a.2.1),iP (fT a.1 a.2.1 a.2.2)])
   rw[e]
   exact (ai (ai rfl (fun _ _=>rfl)) rfl)
  ·have e:fT a.1 a.2.1 a.2.2=0:=by unfold fT;rw[if_neg (fun h=>h h1),if_neg (fun h=>h h2)]
   refine ai (ai (fun h=>absurd (show false=true from h) (by decide)) ?_) trivial
   show ak _ (.tup [mJ (jH a.1 a.2.1),iP (fT a.1 a.2.1 a.2.2)])
   rw[e]
   exact (ai (ai rfl (fun _ _=>rfl)) (iE (by simp only[zz,reduceCtorEq];omega)))
 ·have e:fT a.1 a.2.1 a.2.2=gT a.1 a.2.1:=by unfold fT;rw[if_pos h1]
  refine ai (ai (fun h=>absurd (show false=true from h) (by decide)) ?_) trivial
  show ak _ (.tup [mJ (jH a.1 a.2.1),iP (fT a.1 a.2.1 a.2.2)])
  rw[e]
  exact (ai (ai rfl (fun _ _=>rfl)) rfl)
theorem afH {n:Nat} {f g:Nat→List PV}:∀k,k<0+n→bQ 0 f g k=g k:=fun k hk=>by
 unfold bQ;rw[if_neg (alb _),atj]
def asj:Spec:=bM (fun l:List (Bool)=>[kI l]) (fun l=>l.length≤1000000) (fun l=>jU l)
theorem aoY:aG Tryz.prog 40 asj:=by
 refine aU (Tb:=tab) mixed ay Tryz.func40 rfl rfl ?_
 rintro (l:List (Bool)) hpre
 refine ai (ai rfl (ai rfl rfl)) ?_
 have hl:l.length≤1000000:=hpre
 intro b hb
 refine bf (fun h1=>?_) (fun h1=>?_)
 ·have h1:l.length=0:=hb h1
  refine ai (ai (fun _=>trivial) ?_) trivial
  show ak _ (jU l)
  rw[aqy.1 h1]
  exact rfl
 ·refine ai (mxL (n:=0+l.length) (by omega) (by decide)) (ai (fun _ _=>rfl) ?_)
  refine ai (ai (fun _ k hk=>by rw[afH k hk];rfl) ?_) trivial
  refine (ai ?_ (fun _ _=>rfl))
  exact ahH _
def atc:Spec:=bM (fun a:aN×List Bool=>[iJ a.1,uS a.2]) (fun a=>a.1.sts.length≤24∧a.2.length=24) (fun a=>jU (a.2.take a.1.sts.length))
theorem adU:aG Tryz.prog 98 atc:=by
 refine aU (Tb:=tab) mixed ay Tryz.func98 rfl rfl ?_
 rintro (a:aN×List Bool) hpre
 refine ai (ai rfl (ai rfl rfl)) ?_
 obtain ⟨h1,h2⟩:=hpre
 have h1:a.1.sts.length≤24:=h1
 have h2:a.2.length=24:=h2
 refine ai (ai (by decide) (ai (abw _) (by show (a.1.sts.length:Int)≤24;omega))) ?_
 have htl:(a.2.take a.1.sts.length).length=a.1.sts.length:=by rw[aja];omega
 refine ei _ (ai (aoY) (ei (a.2.take a.1.sts.length) (ei [] (ai (ai rfl (ai rfl (ai rfl (ai rfl (ai (fun _=>Or.inl rfl) (ai (fun _=>ai rfl rfl) (Or.inl rfl))))))) (ai ?_ (ai (by exact trivial) (ai ((by show (a.2.take a.1.sts.length).length≤1000000;omega)) ?_)))))))
 ·refine (ai rfl (ai ?_ ?_))
  ·show ((a.1.sts.length:Int)).toNat-(0:Int).toNat=(a.2.take a.1.sts.length).length
   rw[htl];simp
  ·intro k hk
   have hk:k<((a.1.sts.length:Int)).toNat-(0:Int).toNat:=hk
   have hk:k<a.1.sts.length:=by simpa using hk
   show [bP (a.2.getD ((0:Int).toNat+k) false)]=[bP ((a.2.take a.1.sts.length).getD k false)]
   rw[show (0:Int).toNat+k=k by simp,abl,abl,alh,if_pos hk]
 refine ai (ai (fun _=>trivial) ?_) trivial
 exact (ai rfl (fun _ _=>rfl))
def isR (l:List Int):LV:=.rw 3 1 l.length (fun k=>[iP (l.getD k 0)])
theorem adV {a b:List Int} {n:Nat} {f g:Nat→List PV} (hn:n=a.length) (hf:∀k,k<a.length→f k=[iP (a.getD k 0)]) (hg:∀k,k<b.length→g k=[iP (b.getD k 0)]):∀k,k<(a++b).length→bQ n f g k=[iP ((a++b).getD k 0)]:=by
 intro k hk
 subst hn
 unfold bQ
 by_cases h:k<a.length
 ·rw[if_pos h,hf k h,abl,abl,afs h]
 ·have hb:k-a.length<b.length:=by rw[abg] at hk;omega
  rw[if_neg h,hg _ hb,abl,abl,ag4 (by omega)]
theorem aaR (a:List Int) (x:Int):∀k,k<a.length+1→bQ a.length (fun k=>[iP (a.getD k 0)]) (bn 1 [iP x]) k=[iP ((a++[x]).getD k 0)]:=fun k hk=>
 adV (a:=a) (b:=[x]) rfl (fun _ _=>rfl) (fun j hj=>by
  have hj:j<1:=hj
  obtain rfl:j=0:=by omega
  rfl) k (by rw[abg];exact hk)
def pE (c:aN) (m vs:List Bool) (i:Nat):Bool:=allM m (c.trs.getD i aD).fr&&bL vs (c.trs.getD i aD).wh
def dw (p:Nat→Bool):Nat→List Int
 | 0=>[]
 | n+1=>if p n then dw p n++[(n:Int)] else dw p n
theorem mW (p:Nat→Bool):∀n,(dw p n).length≤n
 | 0=>ahl _
 | n+1=>by
  have:=mW p n
  rw[dw];split
  ·rw[abg];simp;omega
  ·omega
def asH:Spec:=gX (fun a:aN×List Bool×List Bool=>[iJ a.1,uS a.2.1,kI a.2.2]) (fun a=>bE a.1=0∧fC a.1∧(a.2.2.length:Int)=jX a.1) (fun a=>.tup [iV (dw (pE a.1 a.2.1 a.2.2) a.1.trs.length),iP 0])
theorem aa0 {n:Nat} {l:List Int} (h:iw n l=0) (hn:n≤24):eP 24 l∧eP n l∧0<l.length:=by
 unfold iw at h
 split at h
 ·cases h
 ·rename_i h0
  have h1:=oW h
  have:eP n l:=by
   intro k hk
   obtain ⟨i,hi,rfl⟩:=arD hk
   have h2:=h1 i hi
   unfold mY at h2
   have hg:l.getD i 0=l[i]:=by rw[abl,abr hi];rfl
   rw[hg] at h2
   split at h2
   ·cases h2
   ·omega
  exact ⟨fun k hk=>by have:=this k hk;omega,this,by omega⟩
theorem apM {c:aN} {t:jK} (h:iX c t=0) (hn:c.sts.length≤24):(eP 24 t.fr∧eP c.sts.length t.fr)∧(eP 24 t.to∧eP c.sts.length t.to)∧dB t.wh (jX c)=0:=by
 unfold iX at h
 split at h
 ·rename_i h1;exact absurd h h1
 rename_i h1
 split at h
 ·rename_i h2;exact absurd h h2
 rename_i h2
 have g1:=aa0 (aqG.1 h1) hn
 have g2:=aa0 (aqG.1 h2) hn
 exact ⟨⟨g1.1,g1.2.1⟩,⟨g2.1,g2.2.1⟩,h⟩
theorem jJ {c:aN} (h:bE c=0) {i:Nat} (hi:i<c.trs.length):(eP 24 (c.trs.getD i aD).fr∧eP c.sts.length (c.trs.getD i aD).fr)∧(eP 24 (c.trs.getD i aD).to∧eP c.sts.length (c.trs.getD i aD).to)∧dB (c.trs.getD i aD).wh (jX c)=0:=by
 obtain ⟨_,_,h3,_,_,h6⟩:=dW h
 exact apM (h6 i hi) h3.2
theorem lJ {c:aN} (h:fC c) {i:Nat} (hi:i<c.trs.length):akG (c.trs.getD i aD):=h.2 _ (aeJ (bJ aD hi))
theorem enabled_ok:aG Tryz.prog 113 asH:=by
 refine aU (Tb:=tab) mixed ay Tryz.func113 rfl rfl ?_
 rintro (a:aN×List Bool×List Bool) hpre
 refine ai (ai rfl (ai rfl rfl)) ?_
 obtain ⟨hc,ho,hv⟩:=hpre
 have hc:bE a.1=0:=hc
 have ho:fC a.1:=ho
 have hv:(a.2.2.length:Int)=jX a.1:=hv
 have h32:=(dW hc).2.2.2.1
 refine ei (bg.inv { X:=Nat,up:=fun k=>[(16,.s (iA k)),(8,isR (dw (pE a.1 a.2.1 a.2.2) k))],uo:=fun k=>[],inv:=fun k=>k≤a.1.trs.length∧(True),meas:=fun k=>a.1.trs.length-k,x0:=0 }) ?_
 refine ai (ai (ai (by exact (a4 (ai rfl rfl))) (ai (by exact (ai (ai (ai (fun _=>rfl) (iE (by simp only[zz,reduceCtorEq];rfl))) rfl) rfl)) (by exact trivial))) rfl) (ai (ai (aeT _) ?_) ?_)
 ·trivial
 intro (k:Nat) ⟨hk,_⟩
 have hfl:=mW (pE a.1 a.2.1 a.2.2) k
 refine ah (p:=k<a.1.trs.length) (au (by omega)) (fun h1=>?_) (fun h1=>?_)
 ·refine ai (ai (abw _) (iN (n:=a.1.trs.length) (by omega))) (ai rfl ?_)
  obtain ⟨g1,g2,g3⟩:=jJ hc h1
  have hto:=lJ ho h1
  have hP:pE a.1 a.2.1 a.2.2 k=(allM a.2.1 (a.1.trs.getD k aD).fr&&bL a.2.2 (a.1.trs.getD k aD).wh):=rfl
  refine ei _ (ai (ahR) (ei ((a.2.1,(a.1.trs.getD k aD).fr)) (ei [] (ai (a4 (ai (fun _=>Or.inl rfl) (ai nof (Or.inl rfl)))) (ai (by exact (ai (ai rfl (fun _ _=>rfl)) (ai rfl (fun _ _=>rfl)))) (ai trivial (ai (⟨g1.1,hto.1⟩) ?_)))))))
  refine aR (b:=!allM a.2.1 (a.1.trs.getD k aD).fr) rfl (fun h2=>?_) (fun h2=>?_)
  ·have h2:allM a.2.1 (a.1.trs.getD k aD).fr=false:=by simpa using h2
   have e:dw (pE a.1 a.2.1 a.2.2) (k+1)=dw (pE a.1 a.2.1 a.2.2) k:=by rw[dw,if_neg (by rw[hP,h2,aoH];decide)]
   refine ei (k+1) (ai (ai rfl rfl) (ai (ai (ai rfl (ai (ai rfl rfl) (ai (ai rfl rfl) (ai (ai (ai (ai (fun _=>rfl) (aH (by omega))) rfl) (ai rfl (ai rfl (ai ?_ ?_)))) trivial)))) rfl) (ai (ai (iL (by omega)) trivial) (iM (by omega)))))
   ·rw[e]
   ·rw[e];exact fun _ _=>rfl
  have h2:allM a.2.1 (a.1.trs.getD k aD).fr=true:=by simpa using h2
  have hev:oJ (a.1.trs.getD k aD).wh a.2.2=(bL a.2.2 (a.1.trs.getD k aD).wh,0):=by unfold oJ;rw[hv,if_pos g3]
  refine ei _ (ai ((rW apL ((a.1.trs.getD k aD).wh,a.2.2) hto.2.2 (by show PV.tup [bP (oJ (a.1.trs.getD k aD).wh a.2.2).1,iP (oJ (a.1.trs.getD k aD).wh a.2.2).2]=_;rw[hev]))) (ei (()) (ei [] (ai (a4 (ai (fun _=>Or.inl rfl) (ai nof (Or.inl rfl)))) (ai (by exact (ai (ai (iE (by simp only[zz,reduceCtorEq])) (ai (iE (by simp only[zz,reduceCtorEq])) (ai rfl (fun _ _=>rfl)))) (ai rfl (fun _ _=>rfl)))) (ai trivial (ai (trivial) ?_)))))))
  refine aR (b:=bL a.2.2 (a.1.trs.getD k aD).wh) rfl (fun h3=>?_) (fun h3=>?_)
  ·have e:dw (pE a.1 a.2.1 a.2.2) (k+1)=dw (pE a.1 a.2.1 a.2.2) k++[(k:Int)]:=by rw[dw,if_pos (by rw[hP,h2,h3];rfl)]
   refine ai (mxL (n:=(dw (pE a.1 a.2.1 a.2.2) k).length+1) (by omega) (by decide)) (ai (aK 1 rfl) ?_)
   refine ei (k+1) (ai (ai rfl rfl) (ai (ai (ai rfl (ai (ai rfl rfl) (ai (ai rfl rfl) (ai (ai (ai (ai (fun _=>rfl) (aH (by omega))) rfl) (ai rfl (ai rfl (ai ?_ ?_)))) trivial)))) rfl) (ai (ai (iL (by omega)) trivial) (iM (by omega)))))
   ·rw[e,abg];rfl
   ·rw[e];exact aaR _ _
  ·have e:dw (pE a.1 a.2.1 a.2.2) (k+1)=dw (pE a.1 a.2.1 a.2.2) k:=by rw[dw,if_neg (by rw[hP,h3,apT];decide)]
   refine ei (k+1) (ai (ai rfl rfl) (ai (ai (ai rfl (ai (ai rfl rfl) (ai (ai rfl rfl) (ai (ai (ai (ai (fun _=>rfl) (aH (by omega))) rfl) (ai rfl (ai rfl (ai ?_ ?_)))) trivial)))) rfl) (ai (ai (iL (by omega)) trivial) (iM (by omega)))))
   ·rw[e]
   ·rw[e];exact fun _ _=>rfl
 ·obtain rfl:k=a.1.trs.length:=by omega
  refine ai (ai (fun _=>(by exact (ai (fun _ _=>rfl) trivial))) ?_) trivial
  exact (ai (ai rfl (fun _ _=>rfl)) rfl)
def abW (c:aN) (a v:List Bool):List Int:=if fT c a v=0 then dw (pE c a v) c.trs.length else []
def qU (c:aN) (a v:List Bool):PV:=.tup [iV (abW c a v),iP (fT c a v)]
def arp:Spec:=gX (fun a:aN×List Bool×List Bool=>[iJ a.1,kI a.2.1,kI a.2.2]) (fun a=>fC a.1) (fun a=>qU a.1 a.2.1 a.2.2)
theorem qQ {c:aN} {a v:List Bool} (h:fT c a v=0):gT c a=0∧(v.length:Int)=jX c:=by
 unfold fT at h
 split at h
 ·rename_i h1;exact absurd h h1
 ·rename_i h1
  split at h
  ·cases h
  ·rename_i h2;exact ⟨aqG.1 h1,aqG.1 h2⟩
theorem aoc (a:List Bool) (k:Int):gM (bN a) k=gM a k:=l6 a k.toNat
theorem abT (a:List Bool) (l:List Int):allM (bN a) l=allM a l:=by
 unfold allM;rw[show gM (bN a)=gM a from funext (aoc a)]
theorem amn (c:aN) (a v:List Bool):pE c (bN a) v=pE c a v:=by
 funext i;unfold pE;rw[abT]
theorem ajX:aG Tryz.prog 48 arp:=by
 refine aU (Tb:=tab) mixed ay Tryz.func48 rfl rfl ?_
 rintro (a:aN×List Bool×List Bool) hpre
 refine ai (ai rfl (ai rfl rfl)) ?_
 refine ei _ (ai (ag2) (ei (a) (ei [] (ai (a4 (ai (fun _=>Or.inl rfl) (ai nof (Or.inl rfl)))) (ai (by exact (ai (ai rfl (ai (ai rfl (fun _ _=>rfl)) (ai (ai rfl (fun _ _=>rfl)) (ai rfl (fun _ _=>rfl))))) (ai (ai rfl (fun _ _=>rfl)) (ai rfl (fun _ _=>rfl))))) (ai trivial (ai (hpre) ?_)))))))
 refine aZ (p:=fT a.1 a.2.1 a.2.2=0) (bI (by omega)) (fun h1=>?_) (fun h1=>?_)
 ·refine ai (ai (fun h=>absurd (show false=true from h) (by decide)) ?_) trivial
  show ak _ (qU a.1 a.2.1 a.2.2)
  rw[qU,abW,if_neg h1]
  exact (ai rfl rfl)
 obtain ⟨g1,g2⟩:=qQ h1
 have e1:jH a.1 a.2.1=bN a.2.1:=if_pos g1
 refine ei _ (ai ((fF enabled_ok (a.1,jH a.1 a.2.1,a.2.2) ⟨(iQ g1).1,hpre,g2⟩ (r:=.tup [iV (dw (pE a.1 a.2.1 a.2.2) a.1.trs.length),iP 0]) (by show PV.tup [iV (dw (pE a.1 (jH a.1 a.2.1) a.2.2) a.1.trs.length),iP 0]=_;rw[e1,amn]))) (ei (()) (ei [] (ai (a4 (ai (fun _=>Or.inl rfl) (ai nof (Or.inl rfl)))) (ai (by exact (ai (ai rfl (ai (ai rfl (fun _ _=>rfl)) (ai (ai rfl (fun _ _=>rfl)) (ai rfl (fun _ _=>rfl))))) (ai (ai rfl (fun _ _=>rfl)) (ai rfl (fun _ _=>rfl))))) (ai trivial (ai (trivial) ?_)))))))
 refine ai (ai (fun h=>absurd (show false=true from h) (by decide)) ?_) trivial
 show ak _ (qU a.1 a.2.1 a.2.2)
 rw[qU,abW,if_pos h1,h1]
 exact (ai (ai rfl (fun _ _=>rfl)) rfl)
def bG (m:List Bool) (l:List Int) (b:Bool):List Bool:=l.foldl (fun m k=>m.set k.toNat b) m
theorem bZ (b:Bool):∀(l:List Int) (m:List Bool),(bG m l b).length=m.length
 | [],_=>rfl
 | k :: l,m=>by
  show (bG (m.set k.toNat b) l b).length=_
  rw[bZ b l,atG]
theorem lX (m:List Bool) (l:List Int) (k:Int) (b:Bool):bG m (l++[k]) b=(bG m l b).set k.toNat b:=by unfold bG;rw[asB];rfl
theorem aa7 {m:List Bool} (hm:m.length=24) {j:Nat} (hj:j<24) (b:Bool) (k:Nat):oU (fA m) j (bP b) k=fA (m.set j b) k:=by
 unfold oU fA
 rw[abl,abl,atM]
 by_cases h:k=j
 ·rw[if_pos h,if_pos h.symm,if_pos (by omega)];rfl
 ·rw[if_neg h,if_neg (fun e=>h e.symm)]
def nU (m:List Bool) (t:jK):List Bool:=bG (bG m t.fr false) t.to true
def bq (c:aN) (m:List Bool) (i:Nat):List Bool×Bool:=if allM m (c.trs.getD i aD).fr then (nU m (c.trs.getD i aD),true) else (m,false)
def mkO (m:List Bool):Ob:=.arr 117 24 (fA m)
def ate:Spec:=gX (fun a:aN×List Bool×Nat=>[iJ a.1,uS a.2.1,iA a.2.2]) (fun a=>bE a.1=0∧fC a.1∧a.2.1.length=24∧a.2.2<a.1.trs.length) (fun a=>.tup [mJ (bq a.1 a.2.1 a.2.2).1,bP (bq a.1 a.2.1 a.2.2).2])
theorem ams:aG Tryz.prog 61 ate:=by
 refine aU (Tb:=tab) mixed ay Tryz.func61 rfl rfl ?_
 rintro ⟨c,m,i⟩ hpre
 refine ai (ai rfl (ai rfl rfl)) ?_
 obtain ⟨hc,ho,hm,hi⟩:=hpre
 have hc:bE c=0:=hc
 have ho:fC c:=ho
 have hm:m.length=24:=hm
 have hi:i<c.trs.length:=hi
 obtain ⟨g1,g2,g3⟩:=jJ hc hi
 have hto:=lJ ho hi
 refine ai (ai (abw _) (iN (n:=c.trs.length) (by omega))) (ai rfl ?_)
 refine ei _ (ai (ahR) (ei ((m,(c.trs.getD i aD).fr)) (ei [] (ai (a4 (ai (fun _=>Or.inl rfl) (ai nof (Or.inl rfl)))) (ai (by exact (ai (ai rfl (fun _ _=>rfl)) (ai rfl (fun _ _=>rfl)))) (ai trivial (ai (⟨g1.1,hto.1⟩) ?_)))))))
 refine aR (b:=!allM m (c.trs.getD i aD).fr) rfl (fun h2=>?_) (fun h2=>?_)
 ·have h2:allM m (c.trs.getD i aD).fr=false:=by simpa using h2
  have e:bq c m i=(m,false):=by unfold bq;rw[h2];rfl
  refine ai (ai (fun h=>absurd (show false=true from h) (by decide)) ?_) trivial
  show ak _ (.tup [mJ (bq c m i).1,bP (bq c m i).2])
  rw[e]
  exact (ai (ai rfl (fun _ _=>rfl)) rfl)
 have h2:allM m (c.trs.getD i aD).fr=true:=by simpa using h2
 have e:bq c m i=(nU m (c.trs.getD i aD),true):=by unfold bq;rw[h2];rfl
 have hf:(c.trs.getD i aD).fr.length≤1000000:=hto.1
 have ht:(c.trs.getD i aD).to.length≤1000000:=hto.2.1
 refine ei (bg.inv { X:=Nat,up:=fun k=>[(27,.s (iA k))],uo:=fun k=>[⟨1,117,[.ob (mkO (bG m ((c.trs.getD i aD).fr.take k) false))]⟩],inv:=fun k=>k≤(c.trs.getD i aD).fr.length∧(True),meas:=fun k=>(c.trs.getD i aD).fr.length-k,x0:=0 }) ?_
 refine ai (ai (ai (by exact (a4 (ai rfl rfl))) (ai ?_ ?_)) rfl) (ai (ai (aeT _) ?_) ?_)
 ·exact (ai (ai (fun _=>rfl) (iE (by simp only[zz,reduceCtorEq];rfl))) rfl)
 ·exact (ai (ai rfl (ai rfl (fun _ _=>rfl))) trivial)
  skip
 ·trivial
 intro (k:Nat) ⟨hk,_⟩
 refine ah (p:=k<(c.trs.getD i aD).fr.length) (by simp only[zz,reduceCtorEq];omega) (fun h3=>?_) (fun h3=>?_)
 ·refine ai (ai (abw _) (iN (n:=(c.trs.getD i aD).fr.length) (by omega))) (ai rfl ?_)
  have hx:=jw g1.1 h3
  have h24:((c.trs.getD i aD).fr.getD k 0).toNat<24:=by omega
  refine ai hx ?_
  refine ai (by show 0+((c.trs.getD i aD).fr.getD k 0).toNat*1<24;omega) ?_
  refine ei (k+1) (ai (ai rfl rfl) (ai (ai (ai rfl (ai (ai rfl rfl) (ai (ai rfl rfl) (ai (ai (ai (fun _=>rfl) (aH (by omega))) rfl) (ai (ai rfl (ai rfl ?_)) trivial))))) rfl) (ai (ai (iL (by omega)) trivial) (iM (by omega)))))
  intro q hq
  show oU (fA (bG m ((c.trs.getD i aD).fr.take k) false)) (0+((c.trs.getD i aD).fr.getD k 0).toNat*1) (bP false) q=fA (bG m ((c.trs.getD i aD).fr.take (k+1)) false) q
  rw[ahH,aoD,aa7 (by rw[bZ];exact hm) h24,aM 0 h3,lX]
 ·obtain rfl:k=(c.trs.getD i aD).fr.length:=by omega
  rw[af0]
  refine ei (bg.inv { X:=Nat,up:=fun j=>[(37,.s (iA j))],uo:=fun j=>[⟨1,117,[.ob (mkO (bG (bG m (c.trs.getD i aD).fr false) ((c.trs.getD i aD).to.take j) true))]⟩],inv:=fun j=>j≤(c.trs.getD i aD).to.length∧(True),meas:=fun j=>(c.trs.getD i aD).to.length-j,x0:=0 }) ?_
  refine ai (ai (ai (by exact (a4 (ai rfl rfl))) (ai ?_ ?_)) rfl) (ai (ai (aeT _) ?_) ?_)
  ·exact (ai (ai (fun _=>rfl) (iE (by simp only[zz,reduceCtorEq];rfl))) rfl)
  ·exact (ai (ai rfl (ai rfl (fun _ _=>rfl))) trivial)
   skip
  ·trivial
  intro (j:Nat) ⟨hk,_⟩
  refine ah (p:=j<(c.trs.getD i aD).to.length) (by simp only[zz,reduceCtorEq];omega) (fun h3=>?_) (fun h3=>?_)
  ·refine ai (ai (abw _) (iN (n:=(c.trs.getD i aD).to.length) (by omega))) (ai rfl ?_)
   have hx:=jw g2.1 h3
   have h24:((c.trs.getD i aD).to.getD j 0).toNat<24:=by omega
   refine ai hx ?_
   refine ai (by show 0+((c.trs.getD i aD).to.getD j 0).toNat*1<24;omega) ?_
   refine ei (j+1) (ai (ai rfl rfl) (ai (ai (ai rfl (ai (ai rfl rfl) (ai (ai rfl rfl) (ai (ai (ai (fun _=>rfl) (aH (by omega))) rfl) (ai (ai rfl (ai rfl ?_)) trivial))))) rfl) (ai (ai (iL (by omega)) trivial) (iM (by omega)))))
   intro q hq
   show oU (fA (bG (bG m (c.trs.getD i aD).fr false) ((c.trs.getD i aD).to.take j) true)) (0+((c.trs.getD i aD).to.getD j 0).toNat*1) (bP true) q=fA (bG (bG m (c.trs.getD i aD).fr false) ((c.trs.getD i aD).to.take (j+1)) true) q
   rw[ahH,aoD,aa7 (by rw[bZ];exact (bZ _ _ _).trans hm) h24,aM 0 h3,lX]
  ·obtain rfl:j=(c.trs.getD i aD).to.length:=by omega
   rw[af0]
   refine ai (ai (fun h=>absurd (show false=true from h) (by decide)) ?_) trivial
   show ak _ (.tup [mJ (bq c m i).1,bP (bq c m i).2])
   rw[e]
   exact (ai (ai rfl (fun _ _=>rfl)) rfl)
def arK (m:List Bool) (t:jK):PV:=.fn 125 [.pt (eD 24 (fA m)) 0,.pt (trK t) 0]
def qb (l:List Int) (k:Int):Bool:=l.any fun y=>k==y
def nQ (m:List Bool) (t:jK) (k:Int):Bool:=gM m k&&!qb t.fr k
theorem ap9:aG Tryz.prog 125 (bM (fun a:(List Bool×jK)×Int=>[iA a.2,.p false (.pt (eD 24 (fA a.1.1)) 0),.p false (.pt (trK a.1.2) 0)]) (fun a=>(0≤a.2∧a.2<24)∧a.1.2.fr.length≤1000000) (fun a=>bP (nQ a.1.1 a.1.2 a.2))):=by
 refine aU (Tb:=tab) mixed ay Tryz.func125 rfl rfl ?_
 rintro (a:(List Bool×jK)×Int) hpre
 refine ai (ai rfl (ai rfl rfl)) ?_
 obtain ⟨⟨h1,h2⟩,h3⟩:=hpre
 have h1:0≤a.2:=h1
 have h2:a.2<24:=h2
 refine ai ⟨h1,h2⟩ ?_
 refine ei (fA a.1.1 a.2.toNat) (ai (by rw[ahH];exact aow a.1.1 (by omega)) ?_)
 refine aR (b:=gM a.1.1 a.2) rfl (fun h4=>?_) (fun h4=>?_)
 ·refine ei _ (ai (apx) (ei ((a.1.2.fr,a.2)) (ei [] (ai (a4 (ai (fun _=>Or.inl rfl) (ai nof (Or.inl rfl)))) (ai (by exact (ai (ai rfl (fun _ _=>rfl)) rfl)) (ai trivial (ai (h3) ?_)))))))
  refine ai (ai (fun _=>trivial) ?_) trivial
  show ak _ (bP (nQ a.1.1 a.1.2 a.2))
  rw[show nQ a.1.1 a.1.2 a.2=!qb a.1.2.fr a.2 by unfold nQ;rw[h4];rfl]
  exact rfl
 ·refine ai (ai (fun _=>trivial) ?_) trivial
  show ak _ (bP (nQ a.1.1 a.1.2 a.2))
  rw[show nQ a.1.1 a.1.2 a.2=false by unfold nQ;rw[h4];rfl]
  exact rfl
def alY (a:(List Bool×jK)×List Int):Prop:=eP 24 a.2∧a.2.length≤1000000∧a.1.2.fr.length≤1000000
theorem apk:aG Tryz.prog 106 (bM (fun a:(List Bool×jK)×List Int=>[isA a.2,.p false (arK a.1.1 a.1.2)]) alY (fun a=>iP (jr (nQ a.1.1 a.1.2) a.2))):=by
 refine aU (Tb:=tab) mixed ay Tryz.func106 rfl rfl ?_
 rintro (a:(List Bool×jK)×List Int) hpre
 refine ai (ai rfl (ai rfl rfl)) ?_
 obtain ⟨hx,hl,hf⟩:=hpre
 have hl:a.2.length≤1000000:=hl
 refine ei (bg.inv { X:=Nat,up:=fun k=>[(8,.s (iA k))],uo:=fun k=>[],inv:=fun k=>k≤a.2.length∧(∀y∈a.2.take k,nQ a.1.1 a.1.2 y=false),meas:=fun k=>a.2.length-k,x0:=0 }) ?_
 refine ai (ai (ai (by exact (a4 (ai rfl rfl))) (ai (by exact (ai (ai (fun _=>rfl) (iE (by simp only[zz,reduceCtorEq];rfl))) rfl)) (by exact trivial))) rfl) (ai (ai (aeT _) ?_) ?_)
 ·exact fun y hy=>absurd hy (by simp)
 intro (k:Nat) ⟨hk,hall⟩
 refine ah (p:=k<a.2.length) (au (by omega)) (fun h1=>?_) (fun h1=>?_)
 ·refine ai (ai (abw _) (iN (n:=a.2.length) (by omega))) (ai rfl ?_)
  refine ei _ (ai (ap9) (ei ((a.1,a.2.getD k 0)) (ei [] (ai (a4 (ai (fun _=>Or.inl rfl) (ai nof (Or.inl rfl)))) (ai (by exact (ai (iE (by simp only[zz,reduceCtorEq])) (ai (ai rfl rfl) (ai rfl rfl)))) (ai trivial (ai (⟨jw hx h1,hf⟩) ?_)))))))
  refine aR (b:=nQ a.1.1 a.1.2 (a.2.getD k 0)) rfl (fun h2=>?_) (fun h2=>?_)
  ·refine ai (ai (fun _=>trivial) ?_) trivial
   show ak _ (iP (jr (nQ a.1.1 a.1.2) a.2))
   rw[qK (d:=0) h1 h2 hall]
   exact rfl
  refine ei (k+1) (ai (ai rfl rfl) (ai (ai (ai rfl (ai (ai rfl rfl) (ai (ai rfl rfl) (ai (ai (ai (fun _=>rfl) (aH (by omega))) rfl) trivial)))) rfl) (ai (ai (iL (by omega)) ?_) (iM (by omega)))))
  intro y hy
  rw[aM 0 h1] at hy
  rcases ahv.1 hy with hy | hy
  ·exact hall y hy
  ·simp only[aiz] at hy;subst hy;exact h2
 ·obtain rfl:k=a.2.length:=by omega
  rw[af0] at hall
  refine ai (ai (fun _=>trivial) ?_) trivial
  show ak _ (iP (jr (nQ a.1.1 a.1.2) a.2))
  rw[uh hall]
  exact rfl
theorem ao5:aG Tryz.prog 38 (bM (fun a:(List Bool×jK)×List Int=>[isA a.2,.p false (arK a.1.1 a.1.2)]) alY (fun a=>bP (a.2.any (nQ a.1.1 a.1.2)))):=by
 refine aU (Tb:=tab) mixed ay Tryz.func38 rfl rfl ?_
 rintro (a:(List Bool×jK)×List Int) hpre
 refine ai (ai rfl (ai rfl rfl)) ?_
 refine ei _ (ai (apk) (ei (a) (ei [] (ai (a4 (ai (fun _=>Or.inl rfl) (ai nof (Or.inl rfl)))) (ai (by exact (ai (ai rfl (fun _ _=>rfl)) (ai rfl rfl))) (ai trivial (ai (hpre) ?_)))))))
 refine ai (ai (fun _=>trivial) ?_) trivial
 show ak _ (bP (a.2.any (nQ a.1.1 a.1.2)))
 rw[(qD (nQ a.1.1 a.1.2) a.2).symm]
 exact rfl
def aah (c:aN) (m:List Bool) (i:Nat):Bool:=(c.trs.getD i aD).to.any (nQ m (c.trs.getD i aD))
def asM:Spec:=bM (fun a:aN×List Bool×Nat=>[iJ a.1,uS a.2.1,iA a.2.2]) (fun a=>bE a.1=0∧fC a.1∧a.2.2<a.1.trs.length) (fun a=>bP (aah a.1 a.2.1 a.2.2))
theorem afi:aG Tryz.prog 62 asM:=by
 refine jC [3000015] ?_
 refine aU (Tb:=tab) mixed ay Tryz.func62 rfl rfl ?_
 rintro ⟨c,m,i⟩ hpre
 refine ai (ai rfl (ai rfl rfl)) ?_
 obtain ⟨hc,ho,hi⟩:=hpre
 have hc:bE c=0:=hc
 have ho:fC c:=ho
 have hi:i<c.trs.length:=hi
 obtain ⟨g1,g2,g3⟩:=jJ hc hi
 have hto:=lJ ho hi
 refine ai (ai (abw _) (iN (n:=c.trs.length) (by omega))) (ai rfl ?_)
 refine ei _ (ai (ao5) (ei (((m,c.trs.getD i aD),(c.trs.getD i aD).to)) (ei [] (ai (a4 (ai (fun _=>Or.inl rfl) (ai nof (Or.inl rfl)))) (ai (by exact (ai (ai rfl (fun _ _=>rfl)) (ai rfl rfl))) (ai trivial (ai (⟨g2.1,hto.2.1,hto.1⟩) ?_)))))))
 refine ai (ai (fun _=>trivial) ?_) trivial
 exact rfl
def kH (c:aN) (s:List Bool×List Int) (i:Int):List Bool×List Int:=if allM s.1 (c.trs.getD i.toNat aD).fr then (bG s.1 (c.trs.getD i.toNat aD).fr false,s.2++[i]) else s
def gY (c:aN) (m:List Bool) (l:List Int):List Bool×List Int:=l.foldl (kH c) (m,[])
theorem ajS (c:aN) (m:List Bool) (l:List Int) (i:Int):gY c m (l++[i])=kH c (gY c m l) i:=by unfold gY;rw[asB];rfl
theorem ak3 (c:aN) (s:List Bool×List Int) (i:Int):(kH c s i).1.length=s.1.length∧(kH c s i).2.length≤s.2.length+1:=by
 unfold kH
 split
 ·exact ⟨bZ _ _ _,by simp⟩
 ·exact ⟨rfl,by omega⟩
theorem ahg (c:aN):∀(l:List Int) (s:List Bool×List Int),(l.foldl (kH c) s).1.length=s.1.length∧(l.foldl (kH c) s).2.length≤s.2.length+l.length
 | [],s=>⟨rfl,by simp⟩
 | i :: l,s=>by
  have h1:=ak3 c s i
  have h2:=ahg c l (kH c s i)
  exact ⟨h2.1.trans h1.1,by rw[ati,ai6];omega⟩
theorem ahh (c:aN):∀(l:List Int) (s:List Bool×List Int) (x:Int),x∈(l.foldl (kH c) s).2→x∈s.2∨x∈l
 | [],s,x,h=>.inl h
 | i :: l,s,x,h=>by
  rcases ahh c l (kH c s i) x h with h | h
  ·unfold kH at h
   split at h
   ·rcases ahv.1 h with h | h
    ·exact .inl h
    ·exact .inr (by simp at h;simp[h])
   ·exact .inl h
  ·exact .inr (aoB _ h)
theorem vo {p:Nat→Bool}:∀{n:Nat} {x:Int},x∈dw p n→∃i:Nat,i<n∧x=i∧p i=true
 | 0,x,h=>by simp[dw] at h
 | n+1,x,h=>by
  rw[dw] at h
  split at h
  ·rename_i hp
   rcases ahv.1 h with h | h
   ·obtain ⟨i,h1,h2,h3⟩:=vo h;exact ⟨i,by omega,h2,h3⟩
   ·simp at h;exact ⟨n,by omega,h,hp⟩
  ·obtain ⟨i,h1,h2,h3⟩:=vo h;exact ⟨i,by omega,h2,h3⟩
def eH (c:aN) (m:List Bool) (l:List Int):List Bool:=l.foldl (fun m i=>bG m (c.trs.getD i.toNat aD).to true) m
theorem acs (c:aN) (m:List Bool) (l:List Int) (i:Int):eH c m (l++[i])=bG (eH c m l) (c.trs.getD i.toNat aD).to true:=by unfold eH;rw[asB];rfl
theorem rY (c:aN):∀(l:List Int) (m:List Bool),(eH c m l).length=m.length
 | [],_=>rfl
 | i :: l,m=>by
  show (eH c (bG m (c.trs.getD i.toNat aD).to true) l).length=_
  rw[rY c l,bZ]
def pK (c:aN) (a v:List Bool):List Bool×List Int:=gY c (bN a) (dw (pE c a v) c.trs.length)
def vI (c:aN) (a v:List Bool):PV:=if fT c a v=0 then .tup [jU ((eH c (pK c a v).1 (pK c a v).2).take c.sts.length),iV (pK c a v).2,iP 0] else .tup [jU [],iV [],iP (fT c a v)]
def ar1:Spec:=gX (fun a:aN×List Bool×List Bool=>[iJ a.1,kI a.2.1,kI a.2.2]) (fun a=>fC a.1) (fun a=>vI a.1 a.2.1 a.2.2)
theorem aps:aG Tryz.prog 49 ar1:=by
 refine aU (Tb:=tab) mixed ay Tryz.func49 rfl rfl ?_
 rintro ⟨c,a,v⟩ hpre
 refine ai (ai rfl (ai rfl rfl)) ?_
 have ho:fC c:=hpre
 refine ei _ (ai ((fF ag2 (c,a,v) ho (r:=.tup [mJ (jH c a),iP (fT c a v)]) rfl)) (ei (()) (ei [] (ai (a4 (ai (fun _=>Or.inl rfl) (ai nof (Or.inl rfl)))) (ai (by exact (ai (ai rfl (ai (ai rfl (fun _ _=>rfl)) (ai (ai rfl (fun _ _=>rfl)) (ai rfl (fun _ _=>rfl))))) (ai (ai rfl (fun _ _=>rfl)) (ai rfl (fun _ _=>rfl))))) (ai trivial (ai (trivial) ?_)))))))
 refine aZ (p:=fT c a v=0) (bI (by omega)) (fun h1=>?_) (fun h1=>?_)
 ·refine ai (ai (fun h=>absurd (show false=true from h) (by decide)) ?_) trivial
  show ak _ (vI c a v)
  rw[vI,if_neg h1]
  exact (ai rfl (ai rfl rfl))
 have hA:vI c a v=.tup [jU ((eH c (pK c a v).1 (pK c a v).2).take c.sts.length),iV (pK c a v).2,iP 0]:=by unfold vI;rw[if_pos h1]
 obtain ⟨g1,g2⟩:=qQ h1
 have hc:=(iQ g1).1
 have ha24:=(iQ g1).2.2
 have e1:jH c a=bN a:=if_pos g1
 refine ei _ (ai ((fF enabled_ok (c,jH c a,v) ⟨hc,ho,g2⟩ (r:=.tup [iV (dw (pE c a v) c.trs.length),iP 0]) (by show PV.tup [iV (dw (pE c (jH c a) v) c.trs.length),iP 0]=_;rw[e1,amn]))) (ei (()) (ei [] (ai (a4 (ai (fun _=>Or.inl rfl) (ai nof (Or.inl rfl)))) (ai (by exact (ai (ai rfl (ai (ai rfl (fun _ _=>rfl)) (ai (ai rfl (fun _ _=>rfl)) (ai rfl (fun _ _=>rfl))))) (ai (ai rfl (fun _ _=>rfl)) (ai rfl (fun _ _=>rfl))))) (ai trivial (ai (trivial) ?_)))))))
 have h32:=(dW hc).2.2.2.1
 have h24:=(dW hc).2.2.1.2
 have hlm:∀x∈dw (pE c a v) c.trs.length,0≤x∧x<(c.trs.length:Int):=fun x hx=>by
  obtain ⟨i,h1,h2,_⟩:=vo hx;omega
 have hll:=mW (pE c a v) c.trs.length
 have hS:pK c a v=gY c (jH c a) (dw (pE c a v) c.trs.length):=by rw[e1];rfl
 rw[hS] at hA
 have hm:(jH c a).length=24:=by rw[e1];exact ni ha24
 clear hS e1
 generalize dw (pE c a v) c.trs.length=l at hA hlm hll ⊢
 generalize jH c a=m at hA hm ⊢
 have hsl:∀k,(gY c m (l.take k)).1.length=24∧(gY c m (l.take k)).2.length≤32:=fun k=>by
  have h:=ahg c (l.take k) (m,[])
  refine ⟨h.1.trans hm,?_⟩
  have h2:(gY c m (l.take k)).2.length≤0+(l.take k).length:=h.2
  rw[aja] at h2;omega
 refine ei (bg.inv { X:=Nat,up:=fun k=>[(46,.s (iA k)),(13,isR (gY c m (l.take k)).2)],uo:=fun k=>[⟨2,117,[.ob (mkO (gY c m (l.take k)).1)]⟩],inv:=fun k=>k≤l.length∧(True),meas:=fun k=>l.length-k,x0:=0 }) ?_
 refine ai (ai (ai (by exact (a4 (ai rfl rfl))) (ai ?_ ?_)) rfl) (ai (ai (aeT _) ?_) ?_)
 ·exact (ai (ai (ai (fun _=>rfl) (iE (by simp only[zz,reduceCtorEq];rfl))) rfl) rfl)
 ·exact (ai (ai rfl (ai rfl (fun _ _=>rfl))) trivial)
 ·trivial
 intro (k:Nat) ⟨hk,_⟩
 obtain ⟨s1,s2⟩:=hsl k
 refine ah (p:=k<l.length) (au (by omega)) (fun h2=>?_) (fun h2=>?_)
 ·refine ai (ai (abw _) (iN (n:=l.length) (by omega))) (ai rfl ?_)
  have hx0:=hlm _ (aeJ (bJ 0 h2))
  have hi:(l.getD k 0).toNat<c.trs.length:=by omega
  obtain ⟨q1,q2,q3⟩:=jJ hc hi
  have hto:=lJ ho hi
  have hst:gY c m (l.take (k+1))=kH c (gY c m (l.take k)) (l.getD k 0):=by rw[aM 0 h2,ajS]
  refine ai hx0 ?_
  refine ai rfl ?_
  refine ei _ (ai (ahR) (ei (((gY c m (l.take k)).1,(c.trs.getD (l.getD k 0).toNat aD).fr)) (ei [] (ai (a4 (ai (fun _=>Or.inl rfl) (ai nof (Or.inl rfl)))) (ai (by exact (ai (ai rfl (fun _ _=>rfl)) (ai rfl (fun _ _=>rfl)))) (ai trivial (ai (⟨q1.1,hto.1⟩) ?_)))))))
  have hf:(c.trs.getD (l.getD k 0).toNat aD).fr.length≤1000000:=hto.1
  refine aR (b:=allM (gY c m (l.take k)).1 (c.trs.getD (l.getD k 0).toNat aD).fr) rfl (fun h4=>?_) (fun h4=>?_)
  ·have e:gY c m (l.take (k+1))=(bG (gY c m (l.take k)).1 (c.trs.getD (l.getD k 0).toNat aD).fr false,(gY c m (l.take k)).2++[l.getD k 0]):=by rw[hst];unfold kH;rw[h4];rfl
   refine ai (mxL (n:=(gY c m (l.take k)).2.length+1) (by omega) (by decide)) (ai (aK 1 rfl) ?_)
   refine ei (bg.inv { X:=Nat,up:=fun j=>[(66,.s (iA j))],uo:=fun j=>[⟨2,117,[.ob (mkO (bG (gY c m (l.take k)).1 ((c.trs.getD (l.getD k 0).toNat aD).fr.take j) false))]⟩],inv:=fun j=>j≤(c.trs.getD (l.getD k 0).toNat aD).fr.length∧(True),meas:=fun j=>(c.trs.getD (l.getD k 0).toNat aD).fr.length-j,x0:=0 }) ?_
   refine ai (ai (ai (by exact (a4 (ai rfl rfl))) (ai ?_ ?_)) rfl) (ai (ai (aeT _) ?_) ?_)
   ·exact (ai (ai (fun _=>rfl) (iE (by simp only[zz,reduceCtorEq];rfl))) rfl)
   ·exact (ai (ai rfl (ai rfl (fun _ _=>rfl))) trivial)
    skip
   ·trivial
   intro (j:Nat) ⟨hk1,_⟩
   refine ah (p:=j<(c.trs.getD (l.getD k 0).toNat aD).fr.length) (by simp only[zz,reduceCtorEq];omega) (fun h3=>?_) (fun h3=>?_)
   ·refine ai (ai (abw _) (iN (n:=(c.trs.getD (l.getD k 0).toNat aD).fr.length) (by omega))) (ai rfl ?_)
    have hx:=jw q1.1 h3
    have hx24:((c.trs.getD (l.getD k 0).toNat aD).fr.getD j 0).toNat<24:=by omega
    refine ai hx ?_
    refine ai (by show 0+((c.trs.getD (l.getD k 0).toNat aD).fr.getD j 0).toNat*1<24;omega) ?_
    refine ei (j+1) (ai (ai rfl rfl) (ai (ai (ai rfl (ai (ai rfl rfl) (ai (ai rfl rfl) (ai (ai (ai (fun _=>rfl) (aH (by omega))) rfl) (ai (ai rfl (ai rfl ?_)) trivial))))) rfl) (ai (ai (iL (by omega)) trivial) (iM (by omega)))))
    intro q hq
    show oU (fA (bG (gY c m (l.take k)).1 ((c.trs.getD (l.getD k 0).toNat aD).fr.take j) false)) (0+((c.trs.getD (l.getD k 0).toNat aD).fr.getD j 0).toNat*1) (bP false) q=fA (bG (gY c m (l.take k)).1 ((c.trs.getD (l.getD k 0).toNat aD).fr.take (j+1)) false) q
    rw[ahH,aoD,aa7 (by rw[bZ];exact s1) hx24,aM 0 h3,lX]
   ·obtain rfl:j=(c.trs.getD (l.getD k 0).toNat aD).fr.length:=by omega
    rw[af0]
    refine ei (k+1) (ai (ai rfl rfl) (ai (ai (ai rfl (ai (ai rfl rfl) (ai (ai rfl rfl) (ai (ai (ai (ai (fun _=>rfl) (aH (by omega))) rfl) (ai rfl (ai rfl (ai ?_ ?_)))) (ai (ai rfl (ai rfl ?_)) trivial))))) rfl) (ai (ai (iL (by omega)) trivial) (iM (by omega)))))
    ·rw[e,abg];rfl
    ·rw[e];exact aaR _ _
    ·rw[e];exact fun _ _=>rfl
  ·have e:gY c m (l.take (k+1))=gY c m (l.take k):=by rw[hst];unfold kH;rw[h4];rfl
   refine ei (k+1) (ai (ai rfl rfl) (ai (ai (ai rfl (ai (ai rfl rfl) (ai (ai rfl rfl) (ai (ai (ai (ai (fun _=>rfl) (aH (by omega))) rfl) (ai rfl (ai rfl (ai ?_ ?_)))) (ai (ai rfl (ai rfl ?_)) trivial))))) rfl) (ai (ai (iL (by omega)) trivial) (iM (by omega)))))
   ·rw[e]
   ·rw[e];exact fun _ _=>rfl
   ·rw[e];exact fun _ _=>rfl
 ·obtain rfl:k=l.length:=by omega
  rw[af0] at s1 s2
  rw[af0]
  have hfm:∀x∈(gY c m l).2,0≤x∧x<(c.trs.length:Int):=fun x hx=>by
   rcases ahh c l (m,[]) x hx with h | h
   ·simp at h
   ·exact hlm x h
  generalize gY c m l=s at *
  refine ei (bg.inv { X:=Nat,up:=fun j=>[(76,.s (iA j))],uo:=fun j=>[⟨2,117,[.ob (mkO (eH c s.1 (s.2.take j)))]⟩],inv:=fun j=>j≤s.2.length∧(True),meas:=fun j=>s.2.length-j,x0:=0 }) ?_
  refine ai (ai (ai (by exact (a4 (ai rfl rfl))) (ai ?_ ?_)) rfl) (ai (ai (aeT _) ?_) ?_)
  ·exact (ai (ai (fun _=>rfl) (iE (by simp only[zz,reduceCtorEq];rfl))) rfl)
  ·exact (ai (ai rfl (ai rfl (fun _ _=>rfl))) trivial)
  ·trivial
  intro (j:Nat) ⟨hj,_⟩
  have s3:(eH c s.1 (s.2.take j)).length=24:=(rY _ _ _).trans s1
  refine ah (p:=j<s.2.length) (au (by omega)) (fun h2=>?_) (fun h2=>?_)
  ·refine ai (ai (abw _) (by show (j:Int)<(s.2.length:Int);omega)) ?_
   refine ai (by show j<s.2.length;exact h2) ?_
   have hx0:=hfm _ (aeJ (bJ 0 h2))
   have hi:(s.2.getD j 0).toNat<c.trs.length:=by omega
   obtain ⟨q1,q2,q3⟩:=jJ hc hi
   have hto:=lJ ho hi
   have hst:eH c s.1 (s.2.take (j+1))=bG (eH c s.1 (s.2.take j)) (c.trs.getD (s.2.getD j 0).toNat aD).to true:=by rw[aM 0 h2,acs]
   refine ai hx0 ?_
   refine ai rfl ?_
   have hf:(c.trs.getD (s.2.getD j 0).toNat aD).to.length≤1000000:=hto.2.1
   refine ei (bg.inv { X:=Nat,up:=fun i=>[(87,.s (iA i))],uo:=fun i=>[⟨2,117,[.ob (mkO (bG (eH c s.1 (s.2.take j)) ((c.trs.getD (s.2.getD j 0).toNat aD).to.take i) true))]⟩],inv:=fun i=>i≤(c.trs.getD (s.2.getD j 0).toNat aD).to.length∧(True),meas:=fun i=>(c.trs.getD (s.2.getD j 0).toNat aD).to.length-i,x0:=0 }) ?_
   refine ai (ai (ai (by exact (a4 (ai rfl rfl))) (ai ?_ ?_)) rfl) (ai (ai (aeT _) ?_) ?_)
   ·exact (ai (ai (fun _=>rfl) (iE (by simp only[zz,reduceCtorEq];rfl))) rfl)
   ·exact (ai (ai rfl (ai rfl (fun _ _=>rfl))) trivial)
    skip
   ·trivial
   intro (i:Nat) ⟨hk1,_⟩
   refine ah (p:=i<(c.trs.getD (s.2.getD j 0).toNat aD).to.length) (by simp only[zz,reduceCtorEq];omega) (fun h3=>?_) (fun h3=>?_)
   ·refine ai (ai (abw _) (iN (n:=(c.trs.getD (s.2.getD j 0).toNat aD).to.length) (by omega))) (ai rfl ?_)
    have hx:=jw q2.1 h3
    have hx24:((c.trs.getD (s.2.getD j 0).toNat aD).to.getD i 0).toNat<24:=by omega
    refine ai hx ?_
    refine ai (by show 0+((c.trs.getD (s.2.getD j 0).toNat aD).to.getD i 0).toNat*1<24;omega) ?_
    refine ei (i+1) (ai (ai rfl rfl) (ai (ai (ai rfl (ai (ai rfl rfl) (ai (ai rfl rfl) (ai (ai (ai (fun _=>rfl) (aH (by omega))) rfl) (ai (ai rfl (ai rfl ?_)) trivial))))) rfl) (ai (ai (iL (by omega)) trivial) (iM (by omega)))))
    intro q hq
    show oU (fA (bG (eH c s.1 (s.2.take j)) ((c.trs.getD (s.2.getD j 0).toNat aD).to.take i) true)) (0+((c.trs.getD (s.2.getD j 0).toNat aD).to.getD i 0).toNat*1) (bP true) q=fA (bG (eH c s.1 (s.2.take j)) ((c.trs.getD (s.2.getD j 0).toNat aD).to.take (i+1)) true) q
    rw[ahH,aoD,aa7 (by rw[bZ];exact s3) hx24,aM 0 h3,lX]
   ·obtain rfl:i=(c.trs.getD (s.2.getD j 0).toNat aD).to.length:=by omega
    rw[af0]
    refine ei (j+1) (ai (ai rfl rfl) (ai (ai (ai rfl (ai (ai rfl rfl) (ai (ai rfl rfl) (ai (ai (ai (fun _=>rfl) (aH (by omega))) rfl) (ai (ai rfl (ai rfl ?_)) trivial))))) rfl) (ai (ai (iL (by omega)) trivial) (iM (by omega)))))
    rw[hst];exact fun _ _=>rfl
  ·obtain rfl:j=s.2.length:=by omega
   rw[af0] at s3
   rw[af0]
   refine ei _ (ai (adU) (ei ((c,eH c s.1 s.2)) (ei [] (ai (a4 (ai (fun _=>Or.inl rfl) (ai nof (Or.inl rfl)))) (ai (by exact (ai (ai rfl (ai (ai rfl (fun _ _=>rfl)) (ai (ai rfl (fun _ _=>rfl)) (ai rfl (fun _ _=>rfl))))) (ai rfl (fun _ _=>rfl)))) (ai trivial (ai (⟨h24,s3⟩) ?_)))))))
   refine ai (ai (fun h=>absurd (show false=true from h) (by decide)) ?_) trivial
   show ak _ (vI c a v)
   rw[hA]
   exact (ai (ai rfl (fun _ _=>rfl)) (ai (ai rfl (fun _ _=>rfl)) rfl))
theorem xD {α:Type} {l m:List α} {k:Nat} (d:α) (h1:k<l.length) (h2:k<m.length) (h:l.take k=m.take k) (e:l.getD k d=m.getD k d):l.take (k+1)=m.take (k+1):=by
 rw[aM d h1,aM d h2,h,e]
theorem asJ (x y:Sk):(!((x.1==y.1)&&((x.2==y.2)&&true)))=true↔¬x=y:=by
 rw[at1,aoF,←Bool.not_eq_true,agD,beq_iff_eq,beq_iff_eq]
 exact not_congr ⟨fun h=>Prod.ext h.1 h.2,fun h=>⟨congrArg Prod.fst h,congrArg Prod.snd h⟩⟩
def aq1:Spec:=bM (fun a:List (Int)×List (Int)=>[isA a.1,isA a.2]) (fun a=>a.1.length≤1000000) (fun a=>bP (decide (a.1=a.2)))
theorem ahn:aG Tryz.prog 16 aq1:=by
 refine aU (Tb:=tab) mixed ay Tryz.func16 rfl rfl ?_
 rintro (a:List (Int)×List (Int)) hpre
 refine ai (ai rfl (ai rfl rfl)) ?_
 have hl:a.1.length≤1000000:=hpre
 refine aZ (p:=a.1.length=a.2.length) (bI (by omega)) (fun h1=>?_) (fun h1=>?_)
 ·refine ai (ai (fun _=>trivial) ?_) trivial
  show ak _ (bP (decide (a.1=a.2)))
  rw[decide_eq_false (fun h=>h1 (congrArg List.length h))]
  exact rfl
 refine ei (bg.inv { X:=Nat,up:=fun k=>[(5,.s (iA k))],uo:=fun k=>[],inv:=fun k=>k≤a.1.length∧(a.1.take k=a.2.take k),meas:=fun k=>a.1.length-k,x0:=0 }) ?_
 refine ai (ai (ai (by exact (a4 (ai rfl rfl))) (ai (by exact (ai (ai (fun _=>rfl) (iE (by simp only[zz,reduceCtorEq];rfl))) rfl)) (by exact trivial))) rfl) (ai (ai (aeT _) ?_) ?_)
 ·rfl
 intro (k:Nat) ⟨hk,hall⟩
 refine ah (p:=k<a.1.length) (au (by omega)) (fun h4=>?_) (fun h4=>?_)
 ·refine ei (.seq [0,1,2,3,4,5,6,7,8]) (ai (by kernel_rfl) ?_)
  refine ai (ai (abw _) (iN (n:=a.1.length) (by omega))) (ai rfl ?_)
  refine ai (ai (abw _) (iN (n:=a.2.length) (by omega))) (ai rfl ?_)
  refine aZ (p:=a.1.getD k 0=a.2.getD k 0) (by exact bne_iff_ne) (fun h5=>?_) (fun h5=>?_)
  ·refine ai (ai (fun _=>trivial) ?_) trivial
   show ak _ (bP (decide (a.1=a.2)))
   rw[decide_eq_false (fun h=>h5 (by rw[h]))]
   exact rfl
  refine ei (k+1) (ai (ai rfl rfl) (ai (ai (ai rfl (ai (ai rfl rfl) (ai (ai rfl rfl) (ai (ai (ai (fun _=>rfl) (aH (by omega))) rfl) trivial)))) rfl) (ai (ai (iL (by omega)) ?_) (iM (by omega)))))
  exact xD 0 h4 (by omega) hall h5
 ·obtain rfl:k=a.1.length:=by omega
  rw[af0,h1,af0] at hall
  refine ai (ai (fun _=>trivial) ?_) trivial
  show ak _ (bP (decide (a.1=a.2)))
  rw[decide_eq_true hall]
  exact rfl
def alV:Spec:=bM (fun a:List (Bool)×List (Bool)=>[kI a.1,kI a.2]) (fun a=>a.1.length≤1000000) (fun a=>bP (decide (a.1=a.2)))
theorem amJ:aG Tryz.prog 120 alV:=by
 refine aU (Tb:=tab) mixed ay Tryz.func120 rfl rfl ?_
 rintro (a:List (Bool)×List (Bool)) hpre
 refine ai (ai rfl (ai rfl rfl)) ?_
 have hl:a.1.length≤1000000:=hpre
 refine aZ (p:=a.1.length=a.2.length) (bI (by omega)) (fun h1=>?_) (fun h1=>?_)
 ·refine ai (ai (fun _=>trivial) ?_) trivial
  show ak _ (bP (decide (a.1=a.2)))
  rw[decide_eq_false (fun h=>h1 (congrArg List.length h))]
  exact rfl
 refine ei (bg.inv { X:=Nat,up:=fun k=>[(5,.s (iA k))],uo:=fun k=>[],inv:=fun k=>k≤a.1.length∧(a.1.take k=a.2.take k),meas:=fun k=>a.1.length-k,x0:=0 }) ?_
 refine ai (ai (ai (by exact (a4 (ai rfl rfl))) (ai (by exact (ai (ai (fun _=>rfl) (iE (by simp only[zz,reduceCtorEq];rfl))) rfl)) (by exact trivial))) rfl) (ai (ai (aeT _) ?_) ?_)
 ·rfl
 intro (k:Nat) ⟨hk,hall⟩
 refine ah (p:=k<a.1.length) (au (by omega)) (fun h4=>?_) (fun h4=>?_)
 ·refine ei (.seq [0,1,2,3,4,5,6,7,8]) (ai (by kernel_rfl) ?_)
  refine ai (ai (abw _) (iN (n:=a.1.length) (by omega))) (ai rfl ?_)
  refine ai (ai (abw _) (iN (n:=a.2.length) (by omega))) (ai rfl ?_)
  refine aZ (p:=a.1.getD k false=a.2.getD k false) (by exact bne_iff_ne) (fun h5=>?_) (fun h5=>?_)
  ·refine ai (ai (fun _=>trivial) ?_) trivial
   show ak _ (bP (decide (a.1=a.2)))
   rw[decide_eq_false (fun h=>h5 (by rw[h]))]
   exact rfl
  refine ei (k+1) (ai (ai rfl rfl) (ai (ai (ai rfl (ai (ai rfl rfl) (ai (ai rfl rfl) (ai (ai (ai (fun _=>rfl) (aH (by omega))) rfl) trivial)))) rfl) (ai (ai (iL (by omega)) ?_) (iM (by omega)))))
  exact xD false h4 (by omega) hall h5
 ·obtain rfl:k=a.1.length:=by omega
  rw[af0,h1,af0] at hall
  refine ai (ai (fun _=>trivial) ?_) trivial
  show ak _ (bP (decide (a.1=a.2)))
  rw[decide_eq_true hall]
  exact rfl
def arQ:Spec:=bM (fun a:List (Sk)×List (Sk)=>[aes a.1,aes a.2]) (fun a=>a.1.length≤1000000) (fun a=>bP (decide (a.1=a.2)))
theorem amF:aG Tryz.prog 55 arQ:=by
 refine aU (Tb:=tab) mixed ay Tryz.func55 rfl rfl ?_
 rintro (a:List (Sk)×List (Sk)) hpre
 refine ai (ai rfl (ai rfl rfl)) ?_
 have hl:a.1.length≤1000000:=hpre
 refine aZ (p:=a.1.length=a.2.length) (bI (by omega)) (fun h1=>?_) (fun h1=>?_)
 ·refine ai (ai (fun _=>trivial) ?_) trivial
  show ak _ (bP (decide (a.1=a.2)))
  rw[decide_eq_false (fun h=>h1 (congrArg List.length h))]
  exact rfl
 refine ei (bg.inv { X:=Nat,up:=fun k=>[(5,.s (iA k))],uo:=fun k=>[],inv:=fun k=>k≤a.1.length∧(a.1.take k=a.2.take k),meas:=fun k=>a.1.length-k,x0:=0 }) ?_
 refine ai (ai (ai (by exact (a4 (ai rfl rfl))) (ai (by exact (ai (ai (fun _=>rfl) (iE (by simp only[zz,reduceCtorEq];rfl))) rfl)) (by exact trivial))) rfl) (ai (ai (aeT _) ?_) ?_)
 ·rfl
 intro (k:Nat) ⟨hk,hall⟩
 refine ah (p:=k<a.1.length) (au (by omega)) (fun h4=>?_) (fun h4=>?_)
 ·refine ei (.seq [0,1,2,3,4,5,6,7,8]) (ai (by kernel_rfl) ?_)
  refine ai (ai (abw _) (iN (n:=a.1.length) (by omega))) (ai rfl ?_)
  refine ai (ai (abw _) (iN (n:=a.2.length) (by omega))) (ai rfl ?_)
  refine aZ (p:=a.1.getD k bB=a.2.getD k bB) (by exact asJ _ _) (fun h5=>?_) (fun h5=>?_)
  ·refine ai (ai (fun _=>trivial) ?_) trivial
   show ak _ (bP (decide (a.1=a.2)))
   rw[decide_eq_false (fun h=>h5 (by rw[h]))]
   exact rfl
  refine ei (k+1) (ai (ai rfl rfl) (ai (ai (ai rfl (ai (ai rfl rfl) (ai (ai rfl rfl) (ai (ai (ai (fun _=>rfl) (aH (by omega))) rfl) trivial)))) rfl) (ai (ai (iL (by omega)) ?_) (iM (by omega)))))
  exact xD bB h4 (by omega) hall h5
 ·obtain rfl:k=a.1.length:=by omega
  rw[af0,h1,af0] at hall
  refine ai (ai (fun _=>trivial) ?_) trivial
  show ak _ (bP (decide (a.1=a.2)))
  rw[decide_eq_true hall]
  exact rfl
theorem ahE:aG Tryz.prog 54 alV:=by
 refine aU (Tb:=tab) mixed ay Tryz.func54 rfl rfl ?_
 rintro (a:List Bool×List Bool) hpre
 refine ai (ai rfl (ai rfl rfl)) ?_
 refine ei _ (ai (amJ) (ei (a) (ei [] (ai (a4 (ai (fun _=>Or.inl rfl) (ai nof (Or.inl rfl)))) (ai (by exact (ai (ai rfl (fun _ _=>rfl)) (ai rfl (fun _ _=>rfl)))) (ai trivial (ai (hpre) ?_)))))))
 refine ai (ai (fun _=>trivial) ?_) trivial
 exact rfl
theorem anI:aG Tryz.prog 129 (bM (fun a:List Int×Int=>[isA a.1,iA a.2]) (fun a=>a.1.length≤1000000) (fun a=>bP (qb a.1 a.2))):=by
 refine aU (Tb:=tab) mixed ay Tryz.func129 rfl rfl ?_
 rintro (a:List Int×Int) hpre
 refine ai (ai rfl (ai rfl rfl)) ?_
 have hl:a.1.length≤1000000:=hpre
 refine ei (bg.inv { X:=Nat,up:=fun k=>[(5,.s (iA k))],uo:=fun k=>[],inv:=fun k=>k≤a.1.length∧(∀y∈a.1.take k,(a.2==y)=false),meas:=fun k=>a.1.length-k,x0:=0 }) ?_
 refine ai (ai (ai (by exact (a4 (ai rfl rfl))) (ai (by exact (ai (ai (fun _=>rfl) (iE (by simp only[zz,reduceCtorEq];rfl))) rfl)) (by exact trivial))) rfl) (ai (ai (aeT _) ?_) ?_)
 ·exact fun y hy=>absurd hy (by simp)
 intro (k:Nat) ⟨hk,hall⟩
 refine ah (p:=k<a.1.length) (au (by omega)) (fun h1=>?_) (fun h1=>?_)
 ·refine ai (ai (abw _) (iN (n:=a.1.length) (by omega))) (ai rfl ?_)
  refine ah (p:=a.1.getD k 0=a.2) (by simp only[zz,reduceCtorEq]) (fun h2=>?_) (fun h2=>?_)
  ·refine ai (ai (fun _=>trivial) ?_) trivial
   show ak _ (bP (qb a.1 a.2))
   rw[show qb a.1 a.2=true from zk (d:=0) h1 (by rw[h2];exact beq_self_eq_true _)]
   exact rfl
  refine ei (k+1) (ai (ai rfl rfl) (ai (ai (ai rfl (ai (ai rfl rfl) (ai (ai rfl rfl) (ai (ai (ai (fun _=>rfl) (aH (by omega))) rfl) trivial)))) rfl) (ai (ai (iL (by omega)) ?_) (iM (by omega)))))
  intro y hy
  rw[aM 0 h1] at hy
  rcases ahv.1 hy with hy | hy
  ·exact hall y hy
  ·simp only[aiz] at hy;subst hy;exact beq_eq_false_iff_ne.2 fun e=>h2 e.symm
 ·obtain rfl:k=a.1.length:=by omega
  rw[af0] at hall
  refine ai (ai (fun _=>trivial) ?_) trivial
  show ak _ (bP (qb a.1 a.2))
  rw[show qb a.1 a.2=false from atg.2 (fun y hy=>by rw[hall y hy];decide)]
  exact rfl
theorem anR:aG Tryz.prog 104 (bM (fun a:jK×List Bool=>[trA a.1,kI a.2]) (fun a=>eP a.2.length a.1.fr∧a.1.fr.length≤1000000) (fun a=>bP (allM a.2 a.1.fr))):=by
 refine aU (Tb:=tab) mixed ay Tryz.func104 rfl rfl ?_
 rintro (a:jK×List Bool) hpre
 refine ai (ai rfl (ai rfl rfl)) ?_
 obtain ⟨hx,hl⟩:=hpre
 have hl:a.1.fr.length≤1000000:=hl
 refine ei (bg.inv { X:=Nat,up:=fun k=>[(5,.s (iA k))],uo:=fun k=>[],inv:=fun k=>k≤a.1.fr.length∧(∀y∈a.1.fr.take k,gM a.2 y=true),meas:=fun k=>a.1.fr.length-k,x0:=0 }) ?_
 refine ai (ai (ai (by exact (a4 (ai rfl rfl))) (ai (by exact (ai (ai (fun _=>rfl) (iE (by simp only[zz,reduceCtorEq];rfl))) rfl)) (by exact trivial))) rfl) (ai (ai (aeT _) ?_) ?_)
 ·exact fun y hy=>absurd hy (by simp)
 intro (k:Nat) ⟨hk,hall⟩
 refine ah (p:=k<a.1.fr.length) (au (by omega)) (fun h1=>?_) (fun h1=>?_)
 ·refine ai (ai (abw _) (iN (n:=a.1.fr.length) (by omega))) (ai rfl ?_)
  refine ai (jw hx h1) ?_
  refine ai rfl ?_
  refine aR (b:=!gM a.2 (a.1.fr.getD k 0)) rfl (fun h2=>?_) (fun h2=>?_)
  ·have h2:gM a.2 (a.1.fr.getD k 0)=false:=by simpa using h2
   refine ai (ai (fun _=>trivial) ?_) trivial
   show ak _ (bP (allM a.2 a.1.fr))
   rw[show allM a.2 a.1.fr=false by unfold allM;rw[arP];exact ⟨_,aeJ (bJ 0 h1),by rw[h2];decide⟩]
   exact rfl
  refine ei (k+1) (ai (ai rfl rfl) (ai (ai (ai rfl (ai (ai rfl rfl) (ai (ai rfl rfl) (ai (ai (ai (fun _=>rfl) (aH (by omega))) rfl) trivial)))) rfl) (ai (ai (iL (by omega)) ?_) (iM (by omega)))))
  intro y hy
  rw[aM 0 h1] at hy
  rcases ahv.1 hy with hy | hy
  ·exact hall y hy
  ·simp only[aiz] at hy;subst hy;simpa using h2
 ·obtain rfl:k=a.1.fr.length:=by omega
  rw[af0] at hall
  refine ai (ai (fun _=>trivial) ?_) trivial
  show ak _ (bP (allM a.2 a.1.fr))
  rw[show allM a.2 a.1.fr=true from ajw.2 hall]
  exact rfl
def nS (a b:List Int):Bool:=a.any fun k=>qb b k
theorem ale:aG Tryz.prog 162 (bM (fun a:List Int×List Int=>[isA a.1,isA a.2]) (fun a=>a.1.length≤1000000∧a.2.length≤1000000) (fun a=>bP (nS a.1 a.2))):=by
 refine aU (Tb:=tab) mixed ay Tryz.func162 rfl rfl ?_
 rintro (a:List Int×List Int) hpre
 refine ai (ai rfl (ai rfl rfl)) ?_
 obtain ⟨hl,hl2⟩:=hpre
 have hl:a.1.length≤1000000:=hl
 refine ei (bg.inv { X:=Nat,up:=fun k=>[(5,.s (iA k))],uo:=fun k=>[],inv:=fun k=>k≤a.1.length∧(∀y∈a.1.take k,qb a.2 y=false),meas:=fun k=>a.1.length-k,x0:=0 }) ?_
 refine ai (ai (ai (by exact (a4 (ai rfl rfl))) (ai (by exact (ai (ai (fun _=>rfl) (iE (by simp only[zz,reduceCtorEq];rfl))) rfl)) (by exact trivial))) rfl) (ai (ai (aeT _) ?_) ?_)
 ·exact fun y hy=>absurd hy (by simp)
 intro (k:Nat) ⟨hk,hall⟩
 refine ah (p:=k<a.1.length) (au (by omega)) (fun h1=>?_) (fun h1=>?_)
 ·refine ai (ai (abw _) (iN (n:=a.1.length) (by omega))) (ai rfl ?_)
  refine ei _ (ai (anI) (ei ((a.2,a.1.getD k 0)) (ei [] (ai (a4 (ai (fun _=>Or.inl rfl) (ai nof (Or.inl rfl)))) (ai (by exact (ai (ai rfl (fun _ _=>rfl)) (iE (by simp only[zz,reduceCtorEq])))) (ai trivial (ai (hl2) ?_)))))))
  refine aR (b:=qb a.2 (a.1.getD k 0)) rfl (fun h2=>?_) (fun h2=>?_)
  ·refine ai (ai (fun _=>trivial) ?_) trivial
   show ak _ (bP (nS a.1 a.2))
   rw[show nS a.1 a.2=true from zk (d:=0) h1 h2]
   exact rfl
  refine ei (k+1) (ai (ai rfl rfl) (ai (ai (ai rfl (ai (ai rfl rfl) (ai (ai rfl rfl) (ai (ai (ai (fun _=>rfl) (aH (by omega))) rfl) trivial)))) rfl) (ai (ai (iL (by omega)) ?_) (iM (by omega)))))
  intro y hy
  rw[aM 0 h1] at hy
  rcases ahv.1 hy with hy | hy
  ·exact hall y hy
  ·simp only[aiz] at hy;subst hy;exact h2
 ·obtain rfl:k=a.1.length:=by omega
  rw[af0] at hall
  refine ai (ai (fun _=>trivial) ?_) trivial
  show ak _ (bP (nS a.1 a.2))
  rw[show nS a.1 a.2=false from atg.2 (fun y hy=>by rw[hall y hy];decide)]
  exact rfl
theorem afc:aG Tryz.prog 119 (bM (fun a:aN×List Bool=>[iJ a.1,kI a.2]) (fun a=>fC a.1) (fun a=>iP (gT a.1 a.2))):=by
 refine aU (Tb:=tab) mixed ay Tryz.func119 rfl rfl ?_
 rintro (a:aN×List Bool) hpre
 refine ai (ai rfl (ai rfl rfl)) ?_
 refine ei _ (ai (ael) (ei (a.1) (ei [] (ai (a4 (ai (fun _=>Or.inl rfl) (ai nof (Or.inl rfl)))) (ai (by exact (ai rfl (ai (ai rfl (fun _ _=>rfl)) (ai (ai rfl (fun _ _=>rfl)) (ai rfl (fun _ _=>rfl)))))) (ai trivial (ai (hpre) ?_)))))))
 refine aZ (p:=bE a.1=0) (bI (by omega)) (fun h1=>?_) (fun h1=>?_)
 ·refine ai (ai (fun _=>trivial) ?_) trivial
  show ak _ (iP (gT a.1 a.2))
  rw[gT,if_pos h1]
  exact rfl
 refine aZ (p:=a.2.length=a.1.sts.length) (bI (by omega)) (fun h2=>?_) (fun h2=>?_)
 ·refine ai (ai (fun _=>trivial) ?_) trivial
  show ak _ (iP (gT a.1 a.2))
  rw[gT,if_neg (fun h=>h h1),if_pos h2]
  exact rfl
 ·refine ai (ai (fun _=>trivial) ?_) trivial
  show ak _ (iP (gT a.1 a.2))
  rw[gT,if_neg (fun h=>h h1),if_neg (fun h=>h h2)]
  exact rfl
theorem ae2:aG Tryz.prog 115 (bM (fun a:aN×List Bool×List Bool=>[iJ a.1,kI a.2.1,kI a.2.2]) (fun a=>fC a.1) (fun a=>iP (fT a.1 a.2.1 a.2.2))):=by
 refine aU (Tb:=tab) mixed ay Tryz.func115 rfl rfl ?_
 rintro (a:aN×List Bool×List Bool) hpre
 refine ai (ai rfl (ai rfl rfl)) ?_
 refine ei _ (ai (afc) (ei ((a.1,a.2.1)) (ei [] (ai (a4 (ai (fun _=>Or.inl rfl) (ai nof (Or.inl rfl)))) (ai (by exact (ai (ai rfl (ai (ai rfl (fun _ _=>rfl)) (ai (ai rfl (fun _ _=>rfl)) (ai rfl (fun _ _=>rfl))))) (ai rfl (fun _ _=>rfl)))) (ai trivial (ai (hpre) ?_)))))))
 refine aZ (p:=gT a.1 a.2.1=0) (bI (by dsimp only;omega)) (fun h1=>?_) (fun h1=>?_)
 ·refine ai (ai (fun _=>trivial) ?_) trivial
  show ak _ (iP (fT a.1 a.2.1 a.2.2))
  rw[fT,if_pos h1]
  exact rfl
 refine ei _ (ai (ahw) (ei (a.1) (ei [] (ai (a4 (ai (fun _=>Or.inl rfl) (ai nof (Or.inl rfl)))) (ai (by exact (ai rfl (ai (ai rfl (fun _ _=>rfl)) (ai (ai rfl (fun _ _=>rfl)) (ai rfl (fun _ _=>rfl)))))) (ai trivial (ai (acz (iQ h1).1) ?_)))))))
 refine aZ (p:=(a.2.2.length:Int)=jX a.1) (bI (by omega)) (fun h2=>?_) (fun h2=>?_)
 ·refine ai (ai (fun _=>trivial) ?_) trivial
  show ak _ (iP (fT a.1 a.2.1 a.2.2))
  rw[fT,if_neg (fun h=>h h1),if_pos h2]
  exact rfl
 ·refine ai (ai (fun _=>trivial) ?_) trivial
  show ak _ (iP (fT a.1 a.2.1 a.2.2))
  rw[fT,if_neg (fun h=>h h1),if_neg (fun h=>h h2)]
  exact rfl
theorem abm:aG Tryz.prog 51 arp:=by
 refine aU (Tb:=tab) mixed ay Tryz.func51 rfl rfl ?_
 rintro ⟨c,a,v⟩ hpre
 refine ai (ai rfl (ai rfl rfl)) ?_
 have ho:fC c:=hpre
 refine ei _ (ai ((rW ae2 (c,a,v) ho (r:=iP (fT c a v)) rfl)) (ei (()) (ei [] (ai (a4 (ai (fun _=>Or.inl rfl) (ai nof (Or.inl rfl)))) (ai (by exact (ai (ai rfl (ai (ai rfl (fun _ _=>rfl)) (ai (ai rfl (fun _ _=>rfl)) (ai rfl (fun _ _=>rfl))))) (ai (ai rfl (fun _ _=>rfl)) (ai rfl (fun _ _=>rfl))))) (ai trivial (ai (trivial) ?_)))))))
 refine aZ (p:=fT c a v=0) (bI (by omega)) (fun h0=>?_) (fun h0=>?_)
 ·refine ai (ai (fun h=>absurd (show false=true from h) (by decide)) ?_) trivial
  show ak _ (qU c a v)
  rw[qU,abW,if_neg h0]
  exact (ai rfl rfl)
 have hA:qU c a v=.tup [iV (dw (pE c a v) c.trs.length),iP 0]:=by unfold qU abW;rw[if_pos h0,h0]
 obtain ⟨g1,hv⟩:=qQ h0
 obtain ⟨hc,hal,-⟩:=iQ g1
 have h32:=(dW hc).2.2.2.1
 refine ei (bg.inv { X:=Nat,up:=fun k=>[(10,.s (iA k)),(9,isR (dw (pE c a v) k))],uo:=fun k=>[],inv:=fun k=>k≤c.trs.length∧(True),meas:=fun k=>c.trs.length-k,x0:=0 }) ?_
 refine ai (ai (ai (by exact (a4 (ai rfl rfl))) (ai (by exact (ai (ai (ai (fun _=>rfl) (iE (by simp only[zz,reduceCtorEq];rfl))) rfl) rfl)) (by exact trivial))) rfl) (ai (ai (aeT _) ?_) ?_)
 ·trivial
 intro (k:Nat) ⟨hk,_⟩
 have hfl:=mW (pE c a v) k
 refine ah (p:=k<c.trs.length) (au (by dsimp only;omega)) (fun h1=>?_) (fun h1=>?_)
 ·refine ai (ai (abw _) (iN (n:=c.trs.length) (by omega))) (ai rfl ?_)
  obtain ⟨g1,g2,g3⟩:=jJ hc h1
  have hto:=lJ ho h1
  have hP:pE c a v k=(allM a (c.trs.getD k aD).fr&&bL v (c.trs.getD k aD).wh):=rfl
  refine ei _ (ai (anR) (ei ((c.trs.getD k aD,a)) (ei [] (ai (a4 (ai (fun _=>Or.inl rfl) (ai nof (Or.inl rfl)))) (ai (by exact (ai (ai (ai rfl (fun _ _=>rfl)) (ai (ai rfl (fun _ _=>rfl)) (ai (iE (by simp only[zz,reduceCtorEq])) (ai (iE (by simp only[zz,reduceCtorEq])) (ai rfl (fun _ _=>rfl)))))) (ai rfl (fun _ _=>rfl)))) (ai trivial (ai (⟨by show eP a.length _;rw[hal];exact g1.2,hto.1⟩) ?_)))))))
  refine aR (b:=allM a (c.trs.getD k aD).fr) rfl (fun h2=>?_) (fun h2=>?_)
  ·have hz:=qV.1 g3
   rw[←hv] at hz
   refine ei _ (ai (aoa) (ei (((c.trs.getD k aD).wh,v)) (ei [] (ai (a4 (ai (fun _=>Or.inl rfl) (ai nof (Or.inl rfl)))) (ai (by exact (ai (ai (iE (by simp only[zz,reduceCtorEq])) (ai (iE (by simp only[zz,reduceCtorEq])) (ai rfl (fun _ _=>rfl)))) (ai rfl (fun _ _=>rfl)))) (ai trivial (ai (⟨hz.2.2,hz.2.1.1,by show v.length≤256;omega⟩) ?_)))))))
   refine aR (b:=bL v (c.trs.getD k aD).wh) rfl (fun h3=>?_) (fun h3=>?_)
   ·have e:dw (pE c a v) (k+1)=dw (pE c a v) k++[(k:Int)]:=by rw[dw,if_pos (by rw[hP,h2,h3];rfl)]
    refine ai (mxL (n:=(dw (pE c a v) k).length+1) (by omega) (by decide)) (ai (aK 1 rfl) ?_)
    refine ei (k+1) (ai (ai rfl rfl) (ai (ai (ai rfl (ai (ai rfl rfl) (ai (ai rfl rfl) (ai (ai (ai (ai (fun _=>rfl) (aH (by omega))) rfl) (ai rfl (ai rfl (ai ?_ ?_)))) trivial)))) rfl) (ai (ai (iL (by omega)) trivial) (iM (by omega)))))
    ·rw[e,abg];rfl
    ·rw[e];exact aaR _ _
   ·have e:dw (pE c a v) (k+1)=dw (pE c a v) k:=by rw[dw,if_neg (by rw[hP,h3];simp)]
    refine ei (k+1) (ai (ai rfl rfl) (ai (ai (ai rfl (ai (ai rfl rfl) (ai (ai rfl rfl) (ai (ai (ai (ai (fun _=>rfl) (aH (by omega))) rfl) (ai rfl (ai rfl (ai ?_ ?_)))) trivial)))) rfl) (ai (ai (iL (by omega)) trivial) (iM (by omega)))))
    ·rw[e]
    ·rw[e];exact fun _ _=>rfl
  ·have e:dw (pE c a v) (k+1)=dw (pE c a v) k:=by rw[dw,if_neg (by rw[hP,h2];simp)]
   refine ei (k+1) (ai (ai rfl rfl) (ai (ai (ai rfl (ai (ai rfl rfl) (ai (ai rfl rfl) (ai (ai (ai (ai (fun _=>rfl) (aH (by omega))) rfl) (ai rfl (ai rfl (ai ?_ ?_)))) trivial)))) rfl) (ai (ai (iL (by omega)) trivial) (iM (by omega)))))
   ·rw[e]
   ·rw[e];exact fun _ _=>rfl
 ·obtain rfl:k=c.trs.length:=by omega
  refine ai (ai (fun h=>absurd (show false=true from h) (by decide)) ?_) trivial
  show ak _ (qU c a v)
  rw[hA]
  exact (ai (ai rfl (fun _ _=>rfl)) rfl)
def dF (c:aN) (m:List Bool) (l:List Int):List Bool:=l.foldl (fun m i=>bG m (c.trs.getD i.toNat aD).fr false) m
theorem abu (c:aN) (m:List Bool) (l:List Int) (i:Int):dF c m (l++[i])=bG (dF c m l) (c.trs.getD i.toNat aD).fr false:=by unfold dF;rw[asB];rfl
theorem p8 (c:aN):∀(l:List Int) (m:List Bool),(dF c m l).length=m.length
 | [],_=>rfl
 | i :: l,m=>by
  show (dF c (bG m (c.trs.getD i.toNat aD).fr false) l).length=_
  rw[p8 c l,bZ]
def zo (c:aN) (a:List Bool) (l:List Int):List Bool:=eH c (dF c a l) l
def bsR (l:List Bool):LV:=.rw 4 1 l.length (fun k=>[bP (l.getD k false)])
theorem aiY {m:List Bool} {j:Nat} (hj:j<m.length) (b:Bool):∀k,lY (fun k=>[bP (m.getD k false)]) j 0 [bP b] k=[bP ((m.set j b).getD k false)]:=by
 intro k
 unfold lY
 rw[abl (l:=m.set j b),atM]
 by_cases h:k=j
 ·rw[if_pos h,if_pos h.symm,if_pos hj];rfl
 ·rw[if_neg h,if_neg (fun e=>h e.symm),←abl]
def aqh (a:aN×List Bool×List Int):Prop:=bE a.1=0∧fC a.1∧a.2.1.length=a.1.sts.length∧eP a.1.trs.length a.2.2∧a.2.2.length≤1000000
def as3:Spec:=bM (fun a:aN×List Bool×List Int=>[iJ a.1,kI a.2.1,isA a.2.2]) aqh (fun a=>jU (zo a.1 a.2.1 a.2.2))
theorem anO:aG Tryz.prog 118 as3:=by
 refine aU (Tb:=tab) mixed ay Tryz.func118 rfl rfl ?_
 rintro ⟨c,a,l⟩ hpre
 refine ai (ai rfl (ai rfl rfl)) ?_
 obtain ⟨hc,ho,ha,hx,hl⟩:=hpre
 have hc:bE c=0:=hc
 have ho:fC c:=ho
 have ha:a.length=c.sts.length:=ha
 have hx:eP c.trs.length l:=hx
 have hl:l.length≤1000000:=hl
 have h24:=(dW hc).2.2.1.2
 refine ai (mxL (n:=0+a.length) (by omega) (by decide)) (ai (fun _ _=>rfl) ?_)
 refine ei (bg.inv { X:=Nat,up:=fun k=>[(21,.s (iA k)),(7,bsR (dF c a (l.take k)))],uo:=fun k=>[],inv:=fun k=>k≤l.length∧(True),meas:=fun k=>l.length-k,x0:=0 }) ?_
 refine ai (ai (ai (by exact (a4 (ai rfl rfl))) (ai ?_ ?_)) rfl) (ai (ai (aeT _) ?_) ?_)
 ·refine (ai (ai (ai (fun _=>rfl) (iE (by simp only[zz,reduceCtorEq];rfl))) rfl) (ai rfl (ai rfl (ai ?_ (fun _ _=>rfl)))))
  exact ahH _
 ·exact trivial
 ·trivial
 intro (k:Nat) ⟨hk,_⟩
 have s1:(dF c a (l.take k)).length=c.sts.length:=(p8 _ _ _).trans ha
 refine ah (p:=k<l.length) (au (by dsimp only;omega)) (fun h2=>?_) (fun h2=>?_)
 ·refine ai (ai (abw _) (iN (n:=l.length) (by omega))) (ai rfl ?_)
  have hx0:=jw hx h2
  have hi:(l.getD k 0).toNat<c.trs.length:=by omega
  obtain ⟨q1,q2,q3⟩:=jJ hc hi
  have hto:=lJ ho hi
  have hst:dF c a (l.take (k+1))=bG (dF c a (l.take k)) (c.trs.getD (l.getD k 0).toNat aD).fr false:=by rw[aM 0 h2,abu]
  refine ai hx0 ?_
  refine ai rfl ?_
  have hf:(c.trs.getD (l.getD k 0).toNat aD).fr.length≤1000000:=hto.1
  refine ei (bg.inv { X:=Nat,up:=fun j=>[(32,.s (iA j)),(7,bsR (bG (dF c a (l.take k)) ((c.trs.getD (l.getD k 0).toNat aD).fr.take j) false))],uo:=fun j=>[],inv:=fun j=>j≤(c.trs.getD (l.getD k 0).toNat aD).fr.length∧(True),meas:=fun j=>(c.trs.getD (l.getD k 0).toNat aD).fr.length-j,x0:=0 }) ?_
  refine ai (ai (ai (by exact (a4 (ai rfl rfl))) (ai ?_ ?_)) rfl) (ai (ai (aeT _) ?_) ?_)
  ·exact (ai (ai (ai (fun _=>rfl) (iE (by simp only[zz,reduceCtorEq];rfl))) rfl) (ai rfl (ai rfl (ai rfl (fun _ _=>rfl)))))
   skip
  ·exact trivial
  ·trivial
  intro (j:Nat) ⟨hk1,_⟩
  have hsl:(bG (dF c a (l.take k)) ((c.trs.getD (l.getD k 0).toNat aD).fr.take j) false).length=c.sts.length:=(bZ _ _ _).trans s1
  refine ah (p:=j<(c.trs.getD (l.getD k 0).toNat aD).fr.length) (by simp only[zz,reduceCtorEq];omega) (fun h3=>?_) (fun h3=>?_)
  ·refine ai (ai (abw _) (iN (n:=(c.trs.getD (l.getD k 0).toNat aD).fr.length) (by omega))) (ai rfl ?_)
   have hxx:=jw q1.2 h3
   have hxn:((c.trs.getD (l.getD k 0).toNat aD).fr.getD j 0).toNat<(bG (dF c a (l.take k)) ((c.trs.getD (l.getD k 0).toNat aD).fr.take j) false).length:=by omega
   refine ai (by show 0≤(c.trs.getD (l.getD k 0).toNat aD).fr.getD j 0∧(c.trs.getD (l.getD k 0).toNat aD).fr.getD j 0<((bG (dF c a (l.take k)) ((c.trs.getD (l.getD k 0).toNat aD).fr.take j) false).length:Int);rw[hsl];exact hxx) ?_
   refine ai (ai hxn (by decide)) ?_
   refine ei (j+1) (ai (ai rfl rfl) (ai (ai (ai rfl (ai (ai rfl rfl) (ai (ai rfl rfl) (ai (ai (ai (ai (fun _=>rfl) (aH (by omega))) rfl) (ai rfl (ai rfl (ai ?_ ?_)))) trivial)))) rfl) (ai (ai (iL (by omega)) trivial) (iM (by omega)))))
   ·rw[bZ,bZ]
   ·intro q hq
    show lY (fun w'=>[bP ((bG (dF c a (l.take k)) ((c.trs.getD (l.getD k 0).toNat aD).fr.take j) false).getD w' false)]) ((c.trs.getD (l.getD k 0).toNat aD).fr.getD j 0).toNat 0 [bP false] q=[bP ((bG (dF c a (l.take k)) ((c.trs.getD (l.getD k 0).toNat aD).fr.take (j+1)) false).getD q false)]
    rw[aiY hxn,aM 0 h3,lX]
  ·obtain rfl:j=(c.trs.getD (l.getD k 0).toNat aD).fr.length:=by omega
   rw[af0]
   refine ei (k+1) (ai (ai rfl rfl) (ai (ai (ai rfl (ai (ai rfl rfl) (ai (ai rfl rfl) (ai (ai (ai (ai (fun _=>rfl) (aH (by omega))) rfl) (ai rfl (ai rfl (ai ?_ ?_)))) trivial)))) rfl) (ai (ai (iL (by omega)) trivial) (iM (by omega)))))
   ·rw[hst]
   ·rw[hst];exact fun _ _=>rfl
 ·obtain rfl:k=l.length:=by omega
  rw[af0] at s1
  rw[af0]
  have hE:zo c a l=eH c (dF c a l) l:=rfl
  generalize dF c a l=m at *
  refine ei (bg.inv { X:=Nat,up:=fun k=>[(43,.s (iA k)),(7,bsR (eH c m (l.take k)))],uo:=fun k=>[],inv:=fun k=>k≤l.length∧(True),meas:=fun k=>l.length-k,x0:=0 }) ?_
  refine ai (ai (ai (by exact (a4 (ai rfl rfl))) (ai ?_ ?_)) rfl) (ai (ai (aeT _) ?_) ?_)
  ·exact (ai (ai (ai (fun _=>rfl) (iE (by simp only[zz,reduceCtorEq];rfl))) rfl) (ai rfl (ai rfl (ai rfl (fun _ _=>rfl)))))
  ·exact trivial
  ·trivial
  intro (k:Nat) ⟨hk,_⟩
  have s2:(eH c m (l.take k)).length=c.sts.length:=(rY _ _ _).trans s1
  refine ah (p:=k<l.length) (au (by dsimp only;omega)) (fun h2=>?_) (fun h2=>?_)
  ·refine ai (ai (abw _) (iN (n:=l.length) (by omega))) (ai rfl ?_)
   have hx0:=jw hx h2
   have hi:(l.getD k 0).toNat<c.trs.length:=by omega
   obtain ⟨q1,q2,q3⟩:=jJ hc hi
   have hto:=lJ ho hi
   have hst:eH c m (l.take (k+1))=bG (eH c m (l.take k)) (c.trs.getD (l.getD k 0).toNat aD).to true:=by rw[aM 0 h2,acs]
   refine ai hx0 ?_
   refine ai rfl ?_
   have hf:(c.trs.getD (l.getD k 0).toNat aD).to.length≤1000000:=hto.2.1
   refine ei (bg.inv { X:=Nat,up:=fun j=>[(54,.s (iA j)),(7,bsR (bG (eH c m (l.take k)) ((c.trs.getD (l.getD k 0).toNat aD).to.take j) true))],uo:=fun j=>[],inv:=fun j=>j≤(c.trs.getD (l.getD k 0).toNat aD).to.length∧(True),meas:=fun j=>(c.trs.getD (l.getD k 0).toNat aD).to.length-j,x0:=0 }) ?_
   refine ai (ai (ai (by exact (a4 (ai rfl rfl))) (ai ?_ ?_)) rfl) (ai (ai (aeT _) ?_) ?_)
   ·exact (ai (ai (ai (fun _=>rfl) (iE (by simp only[zz,reduceCtorEq];rfl))) rfl) (ai rfl (ai rfl (ai rfl (fun _ _=>rfl)))))
    skip
   ·exact trivial
   ·trivial
   intro (j:Nat) ⟨hk1,_⟩
   have hsl:(bG (eH c m (l.take k)) ((c.trs.getD (l.getD k 0).toNat aD).to.take j) true).length=c.sts.length:=(bZ _ _ _).trans s2
   refine ah (p:=j<(c.trs.getD (l.getD k 0).toNat aD).to.length) (by simp only[zz,reduceCtorEq];omega) (fun h3=>?_) (fun h3=>?_)
   ·refine ai (ai (abw _) (iN (n:=(c.trs.getD (l.getD k 0).toNat aD).to.length) (by omega))) (ai rfl ?_)
    have hxx:=jw q2.2 h3
    have hxn:((c.trs.getD (l.getD k 0).toNat aD).to.getD j 0).toNat<(bG (eH c m (l.take k)) ((c.trs.getD (l.getD k 0).toNat aD).to.take j) true).length:=by omega
    refine ai (by show 0≤(c.trs.getD (l.getD k 0).toNat aD).to.getD j 0∧(c.trs.getD (l.getD k 0).toNat aD).to.getD j 0<((bG (eH c m (l.take k)) ((c.trs.getD (l.getD k 0).toNat aD).to.take j) true).length:Int);rw[hsl];exact hxx) ?_
    refine ai (ai hxn (by decide)) ?_
    refine ei (j+1) (ai (ai rfl rfl) (ai (ai (ai rfl (ai (ai rfl rfl) (ai (ai rfl rfl) (ai (ai (ai (ai (fun _=>rfl) (aH (by omega))) rfl) (ai rfl (ai rfl (ai ?_ ?_)))) trivial)))) rfl) (ai (ai (iL (by omega)) trivial) (iM (by omega)))))
    ·rw[bZ,bZ]
    ·intro q hq
     show lY (fun w'=>[bP ((bG (eH c m (l.take k)) ((c.trs.getD (l.getD k 0).toNat aD).to.take j) true).getD w' false)]) ((c.trs.getD (l.getD k 0).toNat aD).to.getD j 0).toNat 0 [bP true] q=[bP ((bG (eH c m (l.take k)) ((c.trs.getD (l.getD k 0).toNat aD).to.take (j+1)) true).getD q false)]
     rw[aiY hxn,aM 0 h3,lX]
   ·obtain rfl:j=(c.trs.getD (l.getD k 0).toNat aD).to.length:=by omega
    rw[af0]
    refine ei (k+1) (ai (ai rfl rfl) (ai (ai (ai rfl (ai (ai rfl rfl) (ai (ai rfl rfl) (ai (ai (ai (ai (fun _=>rfl) (aH (by omega))) rfl) (ai rfl (ai rfl (ai ?_ ?_)))) trivial)))) rfl) (ai (ai (iL (by omega)) trivial) (iM (by omega)))))
    ·rw[hst]
    ·rw[hst];exact fun _ _=>rfl
  ·obtain rfl:k=l.length:=by omega
   rw[af0]
   refine ai (ai (fun _=>(by exact (fun _ _=>rfl))) ?_) trivial
   show ak _ (jU (zo c a l))
   rw[hE]
   exact (ai rfl (fun _ _=>rfl))
def lQ (c:aN) (i:Int):List Int:=(c.trs.getD i.toNat aD).fr
def rZ (c:aN) (out:List Int) (i:Int):List Int:=if out.all (fun k=>!nS (lQ c i) (lQ c k)) then out++[i] else out
def jI (c:aN) (l:List Int):List Int:=l.foldl (rZ c) []
theorem aia (c:aN) (l:List Int) (i:Int):jI c (l++[i])=rZ c (jI c l) i:=by unfold jI;rw[asB];rfl
theorem qR (c:aN):∀(l out:List Int),(l.foldl (rZ c) out).length≤out.length+l.length∧∀x∈l.foldl (rZ c) out,x∈out∨x∈l
 | [],out=>⟨by simp,fun x h=>.inl h⟩
 | i :: l,out=>by
  obtain ⟨h1,h2⟩:=qR c l (rZ c out i)
  have h3:(rZ c out i).length≤out.length+1:=by unfold rZ;split<;>simp
  refine ⟨by rw[ati,ai6];omega,fun x hx=>?_⟩
  rcases h2 x hx with h | h
  ·unfold rZ at h
   split at h
   ·rcases ahv.1 h with h | h
    ·exact .inl h
    ·exact .inr (by simp at h;simp[h])
   ·exact .inl h
  ·exact .inr (aoB _ h)
theorem aeA {c:aN} {l:List Int} {n:Nat} (h:eP n l):eP n (jI c l):=fun x hx=>by
 rcases (qR c l []).2 x hx with h1 | h1
 ·simp at h1
 ·exact h x h1
theorem alO {n:Nat} {l:List Int} (h:eP n l) (k:Nat):eP n (l.take k):=fun x hx=>h x (List.mem_of_mem_take hx)
def arM (a:aN×List Bool×List Bool):Prop:=fC a.1∧fT a.1 a.2.1 a.2.2=0
def mG (c:aN) (a v:List Bool):List Int:=jI c (dw (pE c a v) c.trs.length)
theorem aiV (p:Nat→Bool) (n:Nat):eP n (dw p n):=fun x hx=>by
 obtain ⟨i,h1,h2,_⟩:=vo hx;omega
theorem amP:aG Tryz.prog 117 (gX (fun a:aN×List Bool×List Bool=>[iJ a.1,kI a.2.1,kI a.2.2]) arM (fun a=>iV (mG a.1 a.2.1 a.2.2))):=by
 refine aU (Tb:=tab) mixed ay Tryz.func117 rfl rfl ?_
 rintro ⟨c,a,v⟩ hpre
 refine ai (ai rfl (ai rfl rfl)) ?_
 obtain ⟨ho,hv⟩:=hpre
 have ho:fC c:=ho
 have hv:fT c a v=0:=hv
 obtain ⟨g1,-⟩:=qQ hv
 have hc:=(iQ g1).1
 have h32:=(dW hc).2.2.2.1
 refine ei _ (ai ((fF abm (c,a,v) ho (r:=.tup [iV (dw (pE c a v) c.trs.length),iP 0]) (by show qU c a v=_;unfold qU abW;rw[if_pos hv,hv]))) (ei (()) (ei [] (ai (a4 (ai (fun _=>Or.inl rfl) (ai nof (Or.inl rfl)))) (ai (by exact (ai (ai rfl (ai (ai rfl (fun _ _=>rfl)) (ai (ai rfl (fun _ _=>rfl)) (ai rfl (fun _ _=>rfl))))) (ai (ai rfl (fun _ _=>rfl)) (ai rfl (fun _ _=>rfl))))) (ai trivial (ai (trivial) ?_)))))))
 have hx:=aiV (pE c a v) c.trs.length
 have hll:=mW (pE c a v) c.trs.length
 have hE:mG c a v=jI c (dw (pE c a v) c.trs.length):=rfl
 generalize dw (pE c a v) c.trs.length=l at hx hll hE ⊢
 refine ei (bg.inv { X:=Nat,up:=fun k=>[(24,.s (iA k)),(9,isR (jI c (l.take k)))],uo:=fun k=>[],inv:=fun k=>k≤l.length∧(True),meas:=fun k=>l.length-k,x0:=0 }) ?_
 refine ai (ai (ai (by exact (a4 (ai rfl rfl))) (ai ?_ ?_)) rfl) (ai (ai (aeT _) ?_) ?_)
 ·exact (ai (ai (ai (fun _=>rfl) (iE (by simp only[zz,reduceCtorEq];rfl))) rfl) rfl)
 ·exact trivial
 ·trivial
 intro (k:Nat) ⟨hk,_⟩
 have s1:(jI c (l.take k)).length≤32:=by
  have h:(jI c (l.take k)).length≤0+(l.take k).length:=(qR c (l.take k) []).1
  rw[aja] at h;omega
 have s2:eP c.trs.length (jI c (l.take k)):=aeA (alO hx k)
 refine ah (p:=k<l.length) (au (by omega)) (fun h2=>?_) (fun h2=>?_)
 ·refine ai (ai (abw _) (iN (n:=l.length) (by omega))) (ai rfl ?_)
  have hx0:=jw hx h2
  have hi:(l.getD k 0).toNat<c.trs.length:=by omega
  have hto:=lJ ho hi
  have hst:jI c (l.take (k+1))=rZ c (jI c (l.take k)) (l.getD k 0):=by rw[aM 0 h2,aia]
  have hf:lQ c (l.getD k 0)=(c.trs.getD (l.getD k 0).toNat aD).fr:=rfl
  generalize jI c (l.take k)=out at *
  refine ei (bg.inv { X:=Nat,up:=fun j=>[(30,.s (iA j)),(12,.s (bA ((out.take j).all (fun q=>!nS (lQ c (l.getD k 0)) (lQ c q)))))],uo:=fun j=>[],inv:=fun j=>j≤out.length∧(True),meas:=fun j=>out.length-j,x0:=0 }) ?_
  refine ai (ai (ai (by exact (a4 (ai rfl rfl))) (ai ?_ ?_)) rfl) (ai (ai (aeT _) ?_) ?_)
  ·exact (ai (ai (ai (fun _=>rfl) (iE (by simp only[zz,reduceCtorEq];rfl))) rfl) (ai (ai (fun _=>rfl) rfl) rfl))
  ·exact trivial
  ·trivial
  intro (j:Nat) ⟨hj,_⟩
  refine ah (p:=j<out.length) (au (by omega)) (fun h3=>?_) (fun h3=>?_)
  ·refine ai (ai (abw _) (by show (j:Int)<(out.length:Int);omega)) ?_
   refine ai (by show j<out.length;exact h3) ?_
   have hy0:=jw s2 h3
   have hyi:(out.getD j 0).toNat<c.trs.length:=by omega
   have hty:=lJ ho hyi
   have eA:(out.take (j+1)).all (fun q=>!nS (lQ c (l.getD k 0)) (lQ c q))=((out.take j).all (fun q=>!nS (lQ c (l.getD k 0)) (lQ c q))&&!nS (lQ c (l.getD k 0)) (lQ c (out.getD j 0))):=by
    rw[aM 0 h3,List.all_append];simp
   refine ei (.seq [0,1,2,3,4,5,6,7,8,9,10,11,12,13,14,15,16,17]) (ai (by kernel_rfl) ?_)
   refine aR (b:=(out.take j).all (fun q=>!nS (lQ c (l.getD k 0)) (lQ c q))) rfl (fun h4=>?_) (fun h4=>?_)
   ·refine ai hx0 (ai rfl ?_)
    refine ai hy0 (ai rfl ?_)
    refine ei _ (ai (ale) (ei (((c.trs.getD (l.getD k 0).toNat aD).fr,(c.trs.getD (out.getD j 0).toNat aD).fr)) (ei [] (ai (a4 (ai (fun _=>Or.inl rfl) (ai nof (Or.inl rfl)))) (ai (by exact (ai (ai rfl (fun _ _=>rfl)) (ai rfl (fun _ _=>rfl)))) (ai trivial (ai (⟨hto.1,hty.1⟩) ?_)))))))
    refine ei (j+1) (ai (ai rfl rfl) (ai (ai (ai rfl (ai (ai rfl rfl) (ai (ai rfl rfl) (ai (ai (ai (ai (fun _=>rfl) (aH (by omega))) rfl) (ai (ai (fun _=>rfl) ?_) rfl)) trivial)))) rfl) (ai (ai (iL (by omega)) trivial) (iM (by omega)))))
    show (_:Bool)=_
    rw[eA,h4];rfl
   ·refine ei (j+1) (ai (ai rfl rfl) (ai (ai (ai rfl (ai (ai rfl rfl) (ai (ai rfl rfl) (ai (ai (ai (ai (fun _=>rfl) (aH (by omega))) rfl) (ai (ai (fun _=>rfl) ?_) rfl)) trivial)))) rfl) (ai (ai (iL (by omega)) trivial) (iM (by omega)))))
    show (_:Bool)=_
    rw[eA,h4];rfl
  ·obtain rfl:j=out.length:=by omega
   rw[af0]
   refine aR (b:=out.all (fun q=>!nS (lQ c (l.getD k 0)) (lQ c q))) rfl (fun h4=>?_) (fun h4=>?_)
   ·have e:jI c (l.take (k+1))=out++[l.getD k 0]:=by rw[hst];unfold rZ;rw[if_pos h4]
    refine ai (mxL (n:=out.length+1) (by omega) (by decide)) (ai (aK 1 rfl) ?_)
    refine ei (k+1) (ai (ai rfl rfl) (ai (ai (ai rfl (ai (ai rfl rfl) (ai (ai rfl rfl) (ai (ai (ai (ai (fun _=>rfl) (aH (by omega))) rfl) (ai rfl (ai rfl (ai ?_ ?_)))) trivial)))) rfl) (ai (ai (iL (by omega)) trivial) (iM (by omega)))))
    ·rw[e,abg];rfl
    ·rw[e];exact aaR _ _
   ·have e:jI c (l.take (k+1))=out:=by rw[hst];unfold rZ;rw[if_neg (by rw[h4];decide)]
    refine ei (k+1) (ai (ai rfl rfl) (ai (ai (ai rfl (ai (ai rfl rfl) (ai (ai rfl rfl) (ai (ai (ai (ai (fun _=>rfl) (aH (by omega))) rfl) (ai rfl (ai rfl (ai ?_ ?_)))) trivial)))) rfl) (ai (ai (iL (by omega)) trivial) (iM (by omega)))))
    ·rw[e]
    ·rw[e];exact fun _ _=>rfl
 ·obtain rfl:k=l.length:=by omega
  rw[af0]
  refine ai (ai (fun h=>absurd (show false=true from h) (by decide)) ?_) trivial
  show ak _ (iV (mG c a v))
  rw[hE]
  exact (ai rfl (fun _ _=>rfl))
def pG (c:aN) (a v:List Bool):PV:=if fT c a v=0 then .tup [jU (zo c a (mG c a v)),iV (mG c a v),iP 0] else .tup [jU [],iV [],iP (fT c a v)]
theorem ang:aG Tryz.prog 52 (gX (fun a:aN×List Bool×List Bool=>[iJ a.1,kI a.2.1,kI a.2.2]) (fun a=>fC a.1) (fun a=>pG a.1 a.2.1 a.2.2)):=by
 refine aU (Tb:=tab) mixed ay Tryz.func52 rfl rfl ?_
 rintro ⟨c,a,v⟩ hpre
 refine ai (ai rfl (ai rfl rfl)) ?_
 have ho:fC c:=hpre
 refine ei _ (ai ((rW ae2 (c,a,v) ho (r:=iP (fT c a v)) rfl)) (ei (()) (ei [] (ai (a4 (ai (fun _=>Or.inl rfl) (ai nof (Or.inl rfl)))) (ai (by exact (ai (ai rfl (ai (ai rfl (fun _ _=>rfl)) (ai (ai rfl (fun _ _=>rfl)) (ai rfl (fun _ _=>rfl))))) (ai (ai rfl (fun _ _=>rfl)) (ai rfl (fun _ _=>rfl))))) (ai trivial (ai (trivial) ?_)))))))
 refine aZ (p:=fT c a v=0) (bI (by omega)) (fun h0=>?_) (fun h0=>?_)
 ·refine ai (ai (fun h=>absurd (show false=true from h) (by decide)) ?_) trivial
  show ak _ (pG c a v)
  rw[pG,if_neg h0]
  exact (ai rfl (ai rfl rfl))
 obtain ⟨g1,hv⟩:=qQ h0
 obtain ⟨hc,hal,-⟩:=iQ g1
 refine ei _ (ai ((fF amP (c,a,v) ⟨ho,h0⟩ (r:=iV (mG c a v)) rfl)) (ei (()) (ei [] (ai (a4 (ai (fun _=>Or.inl rfl) (ai nof (Or.inl rfl)))) (ai (by exact (ai (ai rfl (ai (ai rfl (fun _ _=>rfl)) (ai (ai rfl (fun _ _=>rfl)) (ai rfl (fun _ _=>rfl))))) (ai (ai rfl (fun _ _=>rfl)) (ai rfl (fun _ _=>rfl))))) (ai trivial (ai (trivial) ?_)))))))
 have h32:=(dW hc).2.2.2.1
 have hl:(mG c a v).length≤32:=by
  have h1:=(qR c (dw (pE c a v) c.trs.length) []).1
  have h2:=mW (pE c a v) c.trs.length
  have h3:(mG c a v).length≤0+(dw (pE c a v) c.trs.length).length:=h1
  omega
 refine ei _ (ai (anO) (ei ((c,a,mG c a v)) (ei [] (ai (a4 (ai (fun _=>Or.inl rfl) (ai nof (Or.inl rfl)))) (ai (by exact (ai (ai rfl (ai (ai rfl (fun _ _=>rfl)) (ai (ai rfl (fun _ _=>rfl)) (ai rfl (fun _ _=>rfl))))) (ai (ai rfl (fun _ _=>rfl)) (ai rfl (fun _ _=>rfl))))) (ai trivial (ai (⟨hc,ho,hal,aeA (aiV _ _),by show (mG c a v).length≤1000000;omega⟩) ?_)))))))
 refine ai (ai (fun h=>absurd (show false=true from h) (by decide)) ?_) trivial
 show ak _ (pG c a v)
 rw[pG,if_pos h0]
 exact (ai (ai rfl (fun _ _=>rfl)) (ai (ai rfl (fun _ _=>rfl)) rfl))
def sU (x y:Sk):Bool:=x.1==y.1&&x.2==y.2
def aaJ (l:List Sk) (x:Sk):Bool:=l.any fun y=>sU x y
def aou (a:List Sk×Sk):Prop:=a.1.length≤1000000
theorem apV:aG Tryz.prog 159 (bM (fun a:List Sk×Sk=>[aes a.1,skA a.2]) aou (fun a=>iP (jr (fun y=>sU a.2 y) a.1))):=by
 refine aU (Tb:=tab) mixed ay Tryz.func159 rfl rfl ?_
 rintro (a:List Sk×Sk) hpre
 refine ai (ai rfl (ai rfl rfl)) ?_
 have hl:a.1.length≤1000000:=hpre
 refine ei (bg.inv { X:=Nat,up:=fun k=>[(8,.s (iA k))],uo:=fun k=>[],inv:=fun k=>k≤a.1.length∧(∀y∈a.1.take k,sU a.2 y=false),meas:=fun k=>a.1.length-k,x0:=0 }) ?_
 refine ai (ai (ai (by exact (a4 (ai rfl rfl))) (ai (by exact (ai (ai (fun _=>rfl) (iE (by simp only[zz,reduceCtorEq];rfl))) rfl)) (by exact trivial))) rfl) (ai (ai (aeT _) ?_) ?_)
 ·exact fun y hy=>absurd hy (by simp)
 intro (k:Nat) ⟨hk,hall⟩
 refine ah (p:=k<a.1.length) (au (by omega)) (fun h1=>?_) (fun h1=>?_)
 ·refine ei (.seq [0,1,2,3,4,5]) (ai (by kernel_rfl) ?_)
  refine ai (ai (abw _) (iN (n:=a.1.length) (by omega))) (ai rfl ?_)
  refine ah (p:=sU a.2 (a.1.getD k bB)=true) (by (show ((a.2.1==(a.1.getD k bB).1)&&((a.2.2==(a.1.getD k bB).2)&&true))=true↔_;rw[at1];exact Iff.rfl)) (fun h2=>?_) (fun h2=>?_)
  ·refine ai (ai (fun _=>trivial) ?_) trivial
   show ak _ (iP (jr (fun y=>sU a.2 y) a.1))
   rw[qK (d:=bB) h1 h2 hall]
   exact rfl
  refine ei (k+1) (ai (ai rfl rfl) (ai (ai (ai rfl (ai (ai rfl rfl) (ai (ai rfl rfl) (ai (ai (ai (fun _=>rfl) (aH (by omega))) rfl) trivial)))) rfl) (ai (ai (iL (by omega)) ?_) (iM (by omega)))))
  intro y hy
  rw[aM bB h1] at hy
  rcases ahv.1 hy with hy | hy
  ·exact hall y hy
  ·simp only[aiz] at hy;subst hy;simpa using h2
 ·obtain rfl:k=a.1.length:=by omega
  rw[af0] at hall
  refine ai (ai (fun _=>trivial) ?_) trivial
  show ak _ (iP (jr (fun y=>sU a.2 y) a.1))
  rw[uh hall]
  exact rfl
theorem aiB:aG Tryz.prog 111 (bM (fun a:List Sk×Sk=>[aes a.1,skA a.2]) aou (fun a=>bP (aaJ a.1 a.2))):=by
 refine aU (Tb:=tab) mixed ay Tryz.func111 rfl rfl ?_
 rintro (a:List Sk×Sk) hpre
 refine ai (ai rfl (ai rfl rfl)) ?_
 refine ei _ (ai (apV) (ei (a) (ei [] (ai (a4 (ai (fun _=>Or.inl rfl) (ai nof (Or.inl rfl)))) (ai (by exact (ai (ai rfl (fun _ _=>rfl)) (ai rfl rfl))) (ai trivial (ai (hpre) ?_)))))))
 refine ai (ai (fun _=>trivial) ?_) trivial
 show ak _ (bP (aaJ a.1 a.2))
 rw[show aaJ a.1 a.2=decide (0≤jr (fun y=>sU a.2 y) a.1) from (qD (fun y=>sU a.2 y) a.1).symm]
 exact rfl
def qy (c:aN) (m:List Bool) (x:Sk) (k:Nat):Bool:=m.getD k false&&aaJ (c.sts.getD k st0).st x
def oL (p:Nat→Bool):Nat→Bool
 | 0=>false
 | n+1=>oL p n||p n
theorem adZ {p:Nat→Bool}:∀{n:Nat},(∀j,j<n→p j=false)→oL p n=false
 | 0,_=>rfl
 | n+1,h=>by rw[oL,adZ fun j hj=>h j (by omega),h n (by omega)];rfl
theorem abQ {p:Nat→Bool}:∀{n k:Nat},k<n→p k=true→oL p n=true
 | 0,_,h,_=>by omega
 | n+1,k,h,hp=>by
  rw[oL]
  by_cases e:k=n
  ·subst e;rw[hp,Bool.or_true]
  ·rw[abQ (n:=n) (by omega) hp,ajz]
def onE (c:aN) (m:List Bool) (x:Sk):Bool:=oL (qy c m x) c.sts.length
def nM (c:aN) (m:List Bool):Nat→List Sk
 | 0=>[]
 | n+1=>(nM c m n++if onE c m ((n:Int),false) then [((n:Int),false)] else [])++if onE c m ((n:Int),true) then [((n:Int),true)] else []
theorem vP (c:aN) (m:List Bool):∀n,(nM c m n).length≤2*n
 | 0=>by simp[nM]
 | n+1=>by
  have:=vP c m n
  rw[nM]
  split<;>split<;>simp<;>omega
def skR (l:List Sk):LV:=.rw 94 2 l.length (fun k=>skK (l.getD k bB))
theorem aaL (a:List Sk) (x:Sk):∀k,k<a.length+1→bQ a.length (fun k=>skK (a.getD k bB)) (bn 2 [iP x.1,bP x.2]) k=skK ((a++[x]).getD k bB):=by
 intro k hk
 unfold bQ
 by_cases h:k<a.length
 ·rw[if_pos h]
  show skK (a.getD k bB)=_
  rw[abl,abl,afs h]
 ·obtain rfl:k=a.length:=by omega
  rw[if_neg h,asA,abl,ag4 (ahl _),asA];rfl
theorem afP {x y:PV}:∀k,k<1→(bn 2 [x,y] k).length=2:=fun k hk=>by
 obtain rfl:k=0:=by omega
 rfl
def nD (c:aN) (a:List Bool):PV:=.tup [sK (if gT c a=0 then nM c a c.act.toNat else []),iP (gT c a)]
def aoL:Spec:=gX (fun a:aN×List Bool=>[iJ a.1,kI a.2]) (fun a=>fC a.1) (fun a=>nD a.1 a.2)
def dR (c:aN) (m:List Bool) (n:Nat):Nat→List Sk
 | 0=>nM c m n
 | 1=>nM c m n++if onE c m ((n:Int),false) then [((n:Int),false)] else []
 | _=>nM c m (n+1)
theorem rT (c:aN) (m:List Bool) (n:Nat):∀w,w<2→(dR c m n w).length≤2*n+1
 | 0,_=>by have:=vP c m n;show (nM c m n).length≤_;omega
 | 1,_=>by
  have:=vP c m n
  rw[dR];split<;>simp<;>omega
 | w+2,h=>by omega
theorem tu (c:aN) (m:List Bool) (n w:Nat) (h:w<2):dR c m n (w+1)=dR c m n w++if onE c m ((n:Int),w==1) then [((n:Int),w==1)] else []:=by
 match w,h with
 | 0,_=>rfl
 | 1,_=>rfl
def arZ:Spec:=bM (fun a:aN×List Bool=>[iJ a.1,kI a.2]) (fun a=>fC a.1) (fun a=>nD a.1 a.2)
theorem anV:aG Tryz.prog 43 arZ:=by
 refine aU (Tb:=tab) mixed ay Tryz.func43 rfl rfl ?_
 rintro ⟨c,a⟩ hpre
 refine ai (ai rfl (ai rfl rfl)) ?_
 have ho:fC c:=hpre
 refine ei _ (ai ((fF ae1 (c,a) ho (r:=.tup [mJ (jH c a),iP (gT c a)]) rfl)) (ei (()) (ei [] (ai (a4 (ai (fun _=>Or.inl rfl) (ai nof (Or.inl rfl)))) (ai (by exact (ai (ai rfl (ai (ai rfl (fun _ _=>rfl)) (ai (ai rfl (fun _ _=>rfl)) (ai rfl (fun _ _=>rfl))))) (ai rfl (fun _ _=>rfl)))) (ai trivial (ai (trivial) ?_)))))))
 refine aZ (p:=gT c a=0) (bI (by omega)) (fun h1=>?_) (fun h1=>?_)
 ·refine ai (ai (fun _=>(by exact (ai trivial trivial))) ?_) trivial
  show ak _ (nD c a)
  rw[nD,if_neg h1]
  exact (ai rfl rfl)
 have hA:nD c a=.tup [sK (nM c a c.act.toNat),iP 0]:=by unfold nD;rw[if_pos h1,h1]
 obtain ⟨hc,ha,ha24⟩:=iQ h1
 have e1:jH c a=bN a:=if_pos h1
 obtain ⟨⟨b1,b2⟩,_,⟨b3,b4⟩,_⟩:=dW hc
 refine ei (bg.inv { X:=Nat,up:=fun i=>[(26,.s (iA i)),(8,skR (nM c a i))],uo:=fun i=>[],inv:=fun i=>i≤c.act.toNat∧(True),meas:=fun i=>c.act.toNat-i,x0:=0 }) ?_
 refine ai (ai (ai (by exact (a4 (ai rfl rfl))) (ai (by exact (ai (ai (ai (fun _=>rfl) (iE (by simp only[zz,reduceCtorEq];rfl))) rfl) rfl)) (by exact trivial))) rfl) (ai (ai (aeT _) ?_) ?_)
 ·trivial
 intro (i:Nat) ⟨hi,_⟩
 refine ah (p:=i<c.act.toNat) (by exact au (show (i:Int)<c.act↔i<c.act.toNat by omega)) (fun h2=>?_) (fun h2=>?_)
 ·refine ei (bg.inv { X:=Nat,up:=fun w=>[(31,.s (iA w)),(8,skR (dR c a i w))],uo:=fun w=>[],inv:=fun w=>w≤2∧(True),meas:=fun w=>2-w,x0:=0 }) ?_
  refine ai (ai (ai (by exact (a4 (ai rfl rfl))) (ai ?_ ?_)) rfl) (ai (ai (aeT _) ?_) ?_)
  ·exact (ai (ai (ai (fun _=>rfl) (iE (by simp only[zz,reduceCtorEq];rfl))) rfl) (ai rfl (ai rfl (ai rfl (fun _ _=>rfl)))))
  ·exact trivial
  ·trivial
  intro (w:Nat) ⟨hw,_⟩
  refine ah (p:=w<2) (au (by omega)) (fun h6=>?_) (fun h6=>?_)
  ·have hal:=rT c a i w h6
   rcases (show w=0∨w=1 by omega) with rfl | rfl
   ·have hst:=tu c a i 0 (by decide)
    have hal:(dR c a i 0).length≤100:=by
     have:=rT c a i 0 (by decide)
     omega
    refine ai (ai (by decide) (by decide)) ?_
    refine ai (by decide) ?_
    refine ei (bg.inv { X:=Nat,up:=fun k=>[(41,.s (iA k)),(8,skR (dR c a i 0))],uo:=fun k=>[],inv:=fun k=>k≤c.sts.length∧(∀j,j<k→qy c a ((i:Int),false) j=false),meas:=fun k=>c.sts.length-k,x0:=0 }) ?_
    refine ai (ai (ai (by exact (a4 (ai rfl rfl))) (ai ?_ ?_)) rfl) (ai (ai (aeT _) ?_) ?_)
    ·exact (ai (ai (ai (fun _=>rfl) (iE (by simp only[zz,reduceCtorEq];rfl))) rfl) (ai rfl (ai rfl (ai rfl (fun _ _=>rfl)))))
    ·exact trivial
    ·exact fun j hj=>absurd hj (alb _)
    intro (k:Nat) ⟨hk,hall⟩
    refine ah (p:=k<c.sts.length) (au (by dsimp only;omega)) (fun h3=>?_) (fun h3=>?_)
    ·refine ai (ai (abw _) (iN (n:=c.sts.length) (by omega))) (ai rfl ?_)
     refine ai (ai (abw _) (by show (k:Int)<24;omega)) ?_
     refine ai (by show 0+((k:Nat):Int).toNat*1<24;rw[aq5];omega) ?_
     have hmk:(jH c a).getD (0+((k:Nat):Int).toNat*1) false=a.getD k false:=by rw[aq5,aoD,ahH,e1];exact l6 a k
     refine ah (p:=a.getD k false=true) (by rw[hmk]) (fun h4=>?_) (fun h4=>?_)
     ·refine ei _ (ai (aiB) (ei (((c.sts.getD k st0).st,((i:Int),false))) (ei [] (ai (a4 (ai (fun _=>Or.inl rfl) (ai nof (Or.inl rfl)))) (ai (by exact (ai (ai rfl (fun _ _=>rfl)) (ai rfl rfl))) (ai trivial (ai (ho.1 _ (aeJ (bJ st0 h3))) ?_)))))))
      refine aR (b:=aaJ (c.sts.getD k st0).st ((i:Int),false)) rfl (fun h5=>?_) (fun h5=>?_)
      ·have hon:onE c a ((i:Int),false)=true:=abQ h3 (by unfold qy;rw[h4,h5];rfl)
       have e:dR c a i (0+1)=dR c a i 0++[((i:Int),false)]:=by rw[hst,show ((0:Nat)==1)=false from rfl,if_pos hon]
       refine ai (mxL (n:=(dR c a i 0).length+1) (by omega) (by decide)) (ai afP ?_)
       refine ei (0+1) (ai (ai rfl rfl) (ai (ai (ai rfl (ai (ai rfl rfl) (ai (ai rfl rfl) (ai (ai (ai (ai (fun _=>rfl) (aH (by omega))) rfl) (ai rfl (ai rfl (ai ?_ ?_)))) trivial)))) rfl) (ai (ai (iL (by omega)) trivial) (iM (by omega)))))
       ·rw[e];simp
       ·rw[e];exact aaL (dR c a i 0) ((i:Int),false)
      ·refine ei (k+1) (ai (ai rfl rfl) (ai (ai (ai rfl (ai (ai rfl rfl) (ai (ai rfl rfl) (ai (ai (ai (ai (fun _=>rfl) (aH (by omega))) rfl) (ai rfl (ai rfl (ai rfl (fun _ _=>rfl))))) trivial)))) rfl) (ai (ai (iL (by omega)) ?_) (iM (by omega)))))
       intro j hj
       by_cases hjk:j=k
       ·subst hjk;unfold qy;rw[h5,apT]
       ·exact hall j (by omega)
     ·refine ei (k+1) (ai (ai rfl rfl) (ai (ai (ai rfl (ai (ai rfl rfl) (ai (ai rfl rfl) (ai (ai (ai (ai (fun _=>rfl) (aH (by omega))) rfl) (ai rfl (ai rfl (ai rfl (fun _ _=>rfl))))) trivial)))) rfl) (ai (ai (iL (by omega)) ?_) (iM (by omega)))))
      intro j hj
      by_cases hjk:j=k
      ·subst hjk;unfold qy;rw[asC.2 h4,aoH]
      ·exact hall j (by omega)
    ·obtain rfl:k=c.sts.length:=by omega
     have hon:onE c a ((i:Int),false)=false:=adZ hall
     have e:dR c a i (0+1)=dR c a i 0:=by rw[hst,show ((0:Nat)==1)=false from rfl,if_neg (by rw[hon];decide),aqH]
     refine ei (0+1) (ai (ai rfl rfl) (ai (ai (ai rfl (ai (ai rfl rfl) (ai (ai rfl rfl) (ai (ai (ai (ai (fun _=>rfl) (aH (by omega))) rfl) (ai rfl (ai rfl (ai ?_ ?_)))) trivial)))) rfl) (ai (ai (iL (by omega)) trivial) (iM (by omega)))))
     ·rw[e]
     ·rw[e];exact fun _ _=>rfl
   ·have hst:=tu c a i 1 (by decide)
    have hal:(dR c a i 1).length≤100:=by
     have:=rT c a i 1 (by decide)
     omega
    refine ai (ai (by decide) (by decide)) ?_
    refine ai (by decide) ?_
    refine ei (bg.inv { X:=Nat,up:=fun k=>[(41,.s (iA k)),(8,skR (dR c a i 1))],uo:=fun k=>[],inv:=fun k=>k≤c.sts.length∧(∀j,j<k→qy c a ((i:Int),true) j=false),meas:=fun k=>c.sts.length-k,x0:=0 }) ?_
    refine ai (ai (ai (by exact (a4 (ai rfl rfl))) (ai ?_ ?_)) rfl) (ai (ai (aeT _) ?_) ?_)
    ·exact (ai (ai (ai (fun _=>rfl) (iE (by simp only[zz,reduceCtorEq];rfl))) rfl) (ai rfl (ai rfl (ai rfl (fun _ _=>rfl)))))
    ·exact trivial
    ·exact fun j hj=>absurd hj (alb _)
    intro (k:Nat) ⟨hk,hall⟩
    refine ah (p:=k<c.sts.length) (au (by dsimp only;omega)) (fun h3=>?_) (fun h3=>?_)
    ·refine ai (ai (abw _) (iN (n:=c.sts.length) (by omega))) (ai rfl ?_)
     refine ai (ai (abw _) (by show (k:Int)<24;omega)) ?_
     refine ai (by show 0+((k:Nat):Int).toNat*1<24;rw[aq5];omega) ?_
     have hmk:(jH c a).getD (0+((k:Nat):Int).toNat*1) false=a.getD k false:=by rw[aq5,aoD,ahH,e1];exact l6 a k
     refine ah (p:=a.getD k false=true) (by rw[hmk]) (fun h4=>?_) (fun h4=>?_)
     ·refine ei _ (ai (aiB) (ei (((c.sts.getD k st0).st,((i:Int),true))) (ei [] (ai (a4 (ai (fun _=>Or.inl rfl) (ai nof (Or.inl rfl)))) (ai (by exact (ai (ai rfl (fun _ _=>rfl)) (ai rfl rfl))) (ai trivial (ai (ho.1 _ (aeJ (bJ st0 h3))) ?_)))))))
      refine aR (b:=aaJ (c.sts.getD k st0).st ((i:Int),true)) rfl (fun h5=>?_) (fun h5=>?_)
      ·have hon:onE c a ((i:Int),true)=true:=abQ h3 (by unfold qy;rw[h4,h5];rfl)
       have e:dR c a i (1+1)=dR c a i 1++[((i:Int),true)]:=by rw[hst,show ((1:Nat)==1)=true from rfl,if_pos hon]
       refine ai (mxL (n:=(dR c a i 1).length+1) (by omega) (by decide)) (ai afP ?_)
       refine ei (1+1) (ai (ai rfl rfl) (ai (ai (ai rfl (ai (ai rfl rfl) (ai (ai rfl rfl) (ai (ai (ai (ai (fun _=>rfl) (aH (by omega))) rfl) (ai rfl (ai rfl (ai ?_ ?_)))) trivial)))) rfl) (ai (ai (iL (by omega)) trivial) (iM (by omega)))))
       ·rw[e];simp
       ·rw[e];exact aaL (dR c a i 1) ((i:Int),true)
      ·refine ei (k+1) (ai (ai rfl rfl) (ai (ai (ai rfl (ai (ai rfl rfl) (ai (ai rfl rfl) (ai (ai (ai (ai (fun _=>rfl) (aH (by omega))) rfl) (ai rfl (ai rfl (ai rfl (fun _ _=>rfl))))) trivial)))) rfl) (ai (ai (iL (by omega)) ?_) (iM (by omega)))))
       intro j hj
       by_cases hjk:j=k
       ·subst hjk;unfold qy;rw[h5,apT]
       ·exact hall j (by omega)
     ·refine ei (k+1) (ai (ai rfl rfl) (ai (ai (ai rfl (ai (ai rfl rfl) (ai (ai rfl rfl) (ai (ai (ai (ai (fun _=>rfl) (aH (by omega))) rfl) (ai rfl (ai rfl (ai rfl (fun _ _=>rfl))))) trivial)))) rfl) (ai (ai (iL (by omega)) ?_) (iM (by omega)))))
      intro j hj
      by_cases hjk:j=k
      ·subst hjk;unfold qy;rw[asC.2 h4,aoH]
      ·exact hall j (by omega)
    ·obtain rfl:k=c.sts.length:=by omega
     have hon:onE c a ((i:Int),true)=false:=adZ hall
     have e:dR c a i (1+1)=dR c a i 1:=by rw[hst,show ((1:Nat)==1)=true from rfl,if_neg (by rw[hon];decide),aqH]
     refine ei (1+1) (ai (ai rfl rfl) (ai (ai (ai rfl (ai (ai rfl rfl) (ai (ai rfl rfl) (ai (ai (ai (ai (fun _=>rfl) (aH (by omega))) rfl) (ai rfl (ai rfl (ai ?_ ?_)))) trivial)))) rfl) (ai (ai (iL (by omega)) trivial) (iM (by omega)))))
     ·rw[e]
     ·rw[e];exact fun _ _=>rfl
  ·obtain rfl:w=2:=by omega
   refine ei (i+1) (ai (ai rfl rfl) (ai (ai (ai rfl (ai (ai rfl rfl) (ai (ai rfl rfl) (ai (ai (ai (ai (fun _=>rfl) (aH (by omega))) rfl) (ai rfl (ai rfl (ai rfl (fun _ _=>rfl))))) trivial)))) rfl) (ai (ai (iL (by omega)) trivial) (iM (by omega)))))
 ·obtain rfl:i=c.act.toNat:=by omega
  refine ai (ai (fun _=>ai (fun k _=>rfl) trivial) ?_) trivial
  show ak _ (nD c a)
  rw[hA]
  exact (ai (ai rfl (fun _ _=>rfl)) rfl)
theorem anF {P:Program} {f:Nat} {S:Spec} (h:aG P f S):aG P f { S with fresh:=false }:=
 ⟨h.1,fun a hp E vs w hg hh hA=>(h.2 a hp E vs w hg hh hA).mono fun e' w' ⟨v,E',h1,h2,h3⟩=>⟨v,E',h1,h2.mono (E'.dZ S.fresh),h3⟩⟩
theorem apq:aG Tryz.prog 43 aoL:=anF anV
theorem agI (x y:Sk):sU x y=sU y x:=by
 unfold sU
 rw[arH]
 simp only[agD,beq_iff_eq]
 exact ⟨fun h=>⟨h.1.symm,h.2.symm⟩,fun h=>⟨h.1.symm,h.2.symm⟩⟩
def mH (c:aN) (m:List Bool) (x:Sk) (k j:Nat):Bool:=oL (qy c m x) k||(m.getD k false&&((c.sts.getD k st0).st.take j).any fun y=>sU x y)
set_option maxHeartbeats 4000000 in
theorem am2:aG Tryz.prog 53 aoL:=by
 refine aU (Tb:=tab) mixed ay Tryz.func53 rfl rfl ?_
 rintro ⟨c,a⟩ hpre
 refine ai (ai rfl (ai rfl rfl)) ?_
 have ho:fC c:=hpre
 refine ei _ (ai ((rW afc (c,a) ho (r:=iP (gT c a)) rfl)) (ei (()) (ei [] (ai (a4 (ai (fun _=>Or.inl rfl) (ai nof (Or.inl rfl)))) (ai (by exact (ai (ai rfl (ai (ai rfl (fun _ _=>rfl)) (ai (ai rfl (fun _ _=>rfl)) (ai rfl (fun _ _=>rfl))))) (ai rfl (fun _ _=>rfl)))) (ai trivial (ai (trivial) ?_)))))))
 refine aZ (p:=gT c a=0) (bI (by omega)) (fun h1=>?_) (fun h1=>?_)
 ·refine ai (ai (fun h=>absurd (show false=true from h) (by decide)) ?_) trivial
  show ak _ (nD c a)
  rw[nD,if_neg h1]
  exact (ai rfl rfl)
 have hA:nD c a=.tup [sK (nM c a c.act.toNat),iP 0]:=by unfold nD;rw[if_pos h1,h1]
 obtain ⟨hc,ha,ha24⟩:=iQ h1
 obtain ⟨⟨b1,b2⟩,_,⟨b3,b4⟩,_⟩:=dW hc
 refine ei (bg.inv { X:=Nat,up:=fun i=>[(8,.s (iA i)),(7,skR (nM c a i))],uo:=fun i=>[],inv:=fun i=>i≤c.act.toNat∧(True),meas:=fun i=>c.act.toNat-i,x0:=0 }) ?_
 refine ai (ai (ai (by exact (a4 (ai rfl rfl))) (ai (by exact (ai (ai (ai (fun _=>rfl) (iE (by simp only[zz,reduceCtorEq];rfl))) rfl) rfl)) (by exact trivial))) rfl) (ai (ai (aeT _) ?_) ?_)
 ·trivial
 intro (i:Nat) ⟨hi,_⟩
 refine ah (p:=i<c.act.toNat) (by exact au (show (i:Int)<c.act↔i<c.act.toNat by omega)) (fun h2=>?_) (fun h2=>?_)
 ·refine ei (bg.inv { X:=Nat,up:=fun w=>[(29,.s (iA w)),(7,skR (dR c a i w))],uo:=fun w=>[],inv:=fun w=>w≤2∧(True),meas:=fun w=>2-w,x0:=0 }) ?_
  refine ai (ai (ai (by exact (a4 (ai rfl rfl))) (ai ?_ ?_)) rfl) (ai (ai (aeT _) ?_) ?_)
  ·exact (ai (ai (ai (fun _=>rfl) (iE (by simp only[zz,reduceCtorEq];rfl))) rfl) (ai rfl (ai rfl (ai rfl (fun _ _=>rfl)))))
  ·exact trivial
  ·trivial
  intro (w:Nat) ⟨hw,_⟩
  refine ah (p:=w<2) (au (by omega)) (fun h6=>?_) (fun h6=>?_)
  ·rcases (show w=0∨w=1 by omega) with rfl | rfl
   ·have hst:=tu c a i 0 (by decide)
    have hal:(dR c a i 0).length≤100:=by
     have:=rT c a i 0 (by decide)
     omega
    refine ai (ai (by decide) (by decide)) ?_
    refine ai (by decide) ?_
    refine ei (bg.inv { X:=Nat,up:=fun k=>[(12,.s (iA k)),(11,.s (bA (oL (qy c a ((i:Int),false)) k)))],uo:=fun k=>[],inv:=fun k=>k≤c.sts.length∧(True),meas:=fun k=>c.sts.length-k,x0:=0 }) ?_
    refine ai (ai (ai (by exact (a4 (ai rfl rfl))) (ai ?_ ?_)) rfl) (ai (ai (aeT _) ?_) ?_)
    ·exact (ai (ai (ai (fun _=>rfl) (iE (by simp only[zz,reduceCtorEq];rfl))) rfl) (ai (ai (fun _=>rfl) rfl) rfl))
    ·exact trivial
    ·trivial
    intro (k:Nat) ⟨hk,_⟩
    refine ah (p:=k<c.sts.length) (au (by dsimp only;omega)) (fun h3=>?_) (fun h3=>?_)
    ·refine ai (ai (abw _) (iN (n:=c.sts.length) (by omega))) (ai rfl ?_)
     have hsl:=ho.1 _ (aeJ (bJ st0 h3))
     refine ei (bg.inv { X:=Nat,up:=fun j=>[(47,.s (iA j)),(11,.s (bA (mH c a ((i:Int),false) k j)))],uo:=fun j=>[],inv:=fun j=>j≤(c.sts.getD k st0).st.length∧(True),meas:=fun j=>(c.sts.getD k st0).st.length-j,x0:=0 }) ?_
     refine ai (ai (ai (by exact (a4 (ai rfl rfl))) (ai ?_ ?_)) rfl) (ai (ai (aeT _) ?_) ?_)
     ·refine (ai (ai (ai (fun _=>rfl) (iE (by simp only[zz,reduceCtorEq];rfl))) rfl) (ai (ai nof ?_) rfl))
      show oL (qy c a ((i:Int),false)) k=mH c a ((i:Int),false) k 0
      unfold mH;rw[List.take_zero];simp
     ·exact trivial
     ·trivial
     intro (j:Nat) ⟨hj,_⟩
     refine ah (p:=j<(c.sts.getD k st0).st.length) (by simp only[zz,reduceCtorEq];omega) (fun h4=>?_) (fun h4=>?_)
     ·refine ai (ai (abw _) (iN (n:=(c.sts.getD k st0).st.length) (by omega))) (ai rfl ?_)
      have eA:mH c a ((i:Int),false) k (j+1)=(mH c a ((i:Int),false) k j||(a.getD k false&&sU ((i:Int),false) ((c.sts.getD k st0).st.getD j bB))):=by
       unfold mH
       rw[aM bB h4,atU,Bool.and_or_distrib_left,←Bool.or_assoc];simp
      refine aR (b:=mH c a ((i:Int),false) k j) rfl (fun h5=>?_) (fun h5=>?_)
      ·refine ei (j+1) (ai (ai rfl rfl) (ai (ai (ai rfl (ai (ai rfl rfl) (ai (ai rfl rfl) (ai (ai (ai (ai (fun _=>rfl) (aH (by omega))) rfl) (ai (ai (fun _=>rfl) ?_) rfl)) trivial)))) rfl) (ai (ai (iL (by omega)) trivial) (iM (by omega)))))
       show (_:Bool)=_
       rw[eA,h5];rfl
      ·refine ai (ai (abw _) (by show (k:Int)<(a.length:Int);omega)) ?_
       refine ai rfl ?_
       have hsB:(((c.sts.getD k st0).st.getD j bB).1==(i:Int)&&(((c.sts.getD k st0).st.getD j bB).2==false&&true))=sU ((i:Int),false) ((c.sts.getD k st0).st.getD j bB):=by
        rw[at1,agI];rfl
       refine aR (b:=a.getD k false) rfl (fun h7=>?_) (fun h7=>?_)
       ·refine ei (j+1) (ai (ai rfl rfl) (ai (ai (ai rfl (ai (ai rfl rfl) (ai (ai rfl rfl) (ai (ai (ai (ai (fun _=>rfl) (aH (by omega))) rfl) (ai (ai (fun _=>rfl) ?_) rfl)) trivial)))) rfl) (ai (ai (iL (by omega)) trivial) (iM (by omega)))))
        show (((c.sts.getD k st0).st.getD j bB).1==(i:Int)&&(((c.sts.getD k st0).st.getD j bB).2==false&&true))=_
        rw[eA,h5,hsB,h7];rfl
       ·refine ei (j+1) (ai (ai rfl rfl) (ai (ai (ai rfl (ai (ai rfl rfl) (ai (ai rfl rfl) (ai (ai (ai (ai (fun _=>rfl) (aH (by omega))) rfl) (ai (ai (fun _=>rfl) ?_) rfl)) trivial)))) rfl) (ai (ai (iL (by omega)) trivial) (iM (by omega)))))
        show (_:Bool)=_
        rw[eA,h5,h7];rfl
     ·obtain rfl:j=(c.sts.getD k st0).st.length:=by omega
      refine ei (k+1) (ai (ai rfl rfl) (ai (ai (ai rfl (ai (ai rfl rfl) (ai (ai rfl rfl) (ai (ai (ai (ai (fun _=>rfl) (aH (by omega))) rfl) (ai (ai nof ?_) rfl)) trivial)))) rfl) (ai (ai (iL (by omega)) trivial) (iM (by omega)))))
      show mH c a ((i:Int),false) k (c.sts.getD k st0).st.length=oL (qy c a ((i:Int),false)) (k+1)
      unfold mH;rw[af0];rfl
    ·obtain rfl:k=c.sts.length:=by omega
     refine aR (b:=oL (qy c a ((i:Int),false)) c.sts.length) rfl (fun h5=>?_) (fun h5=>?_)
     ·have e:dR c a i (0+1)=dR c a i 0++[((i:Int),false)]:=by rw[hst,show ((0:Nat)==1)=false from rfl,if_pos (show onE c a ((i:Int),false)=true from h5)]
      refine ai (mxL (n:=(dR c a i 0).length+1) (by omega) (by decide)) (ai afP ?_)
      refine ei (0+1) (ai (ai rfl rfl) (ai (ai (ai rfl (ai (ai rfl rfl) (ai (ai rfl rfl) (ai (ai (ai (ai (fun _=>rfl) (aH (by omega))) rfl) (ai rfl (ai rfl (ai ?_ ?_)))) trivial)))) rfl) (ai (ai (iL (by omega)) trivial) (iM (by omega)))))
      ·rw[e];simp
      ·rw[e];exact aaL (dR c a i 0) ((i:Int),false)
     ·have e:dR c a i (0+1)=dR c a i 0:=by rw[hst,show ((0:Nat)==1)=false from rfl,if_neg (by rw[show onE c a ((i:Int),false)=false from h5];decide),aqH]
      refine ei (0+1) (ai (ai rfl rfl) (ai (ai (ai rfl (ai (ai rfl rfl) (ai (ai rfl rfl) (ai (ai (ai (ai (fun _=>rfl) (aH (by omega))) rfl) (ai rfl (ai rfl (ai ?_ ?_)))) trivial)))) rfl) (ai (ai (iL (by omega)) trivial) (iM (by omega)))))
      ·rw[e]
      ·rw[e];exact fun _ _=>rfl
   ·have hst:=tu c a i 1 (by decide)
    have hal:(dR c a i 1).length≤100:=by
     have:=rT c a i 1 (by decide)
     omega
    refine ai (ai (by decide) (by decide)) ?_
    refine ai (by decide) ?_
    refine ei (bg.inv { X:=Nat,up:=fun k=>[(12,.s (iA k)),(11,.s (bA (oL (qy c a ((i:Int),true)) k)))],uo:=fun k=>[],inv:=fun k=>k≤c.sts.length∧(True),meas:=fun k=>c.sts.length-k,x0:=0 }) ?_
    refine ai (ai (ai (by exact (a4 (ai rfl rfl))) (ai ?_ ?_)) rfl) (ai (ai (aeT _) ?_) ?_)
    ·exact (ai (ai (ai (fun _=>rfl) (iE (by simp only[zz,reduceCtorEq];rfl))) rfl) (ai (ai (fun _=>rfl) rfl) rfl))
    ·exact trivial
    ·trivial
    intro (k:Nat) ⟨hk,_⟩
    refine ah (p:=k<c.sts.length) (au (by dsimp only;omega)) (fun h3=>?_) (fun h3=>?_)
    ·refine ai (ai (abw _) (iN (n:=c.sts.length) (by omega))) (ai rfl ?_)
     have hsl:=ho.1 _ (aeJ (bJ st0 h3))
     refine ei (bg.inv { X:=Nat,up:=fun j=>[(47,.s (iA j)),(11,.s (bA (mH c a ((i:Int),true) k j)))],uo:=fun j=>[],inv:=fun j=>j≤(c.sts.getD k st0).st.length∧(True),meas:=fun j=>(c.sts.getD k st0).st.length-j,x0:=0 }) ?_
     refine ai (ai (ai (by exact (a4 (ai rfl rfl))) (ai ?_ ?_)) rfl) (ai (ai (aeT _) ?_) ?_)
     ·refine (ai (ai (ai (fun _=>rfl) (iE (by simp only[zz,reduceCtorEq];rfl))) rfl) (ai (ai nof ?_) rfl))
      show oL (qy c a ((i:Int),true)) k=mH c a ((i:Int),true) k 0
      unfold mH;rw[List.take_zero];simp
     ·exact trivial
     ·trivial
     intro (j:Nat) ⟨hj,_⟩
     refine ah (p:=j<(c.sts.getD k st0).st.length) (by simp only[zz,reduceCtorEq];omega) (fun h4=>?_) (fun h4=>?_)
     ·refine ai (ai (abw _) (iN (n:=(c.sts.getD k st0).st.length) (by omega))) (ai rfl ?_)
      have eA:mH c a ((i:Int),true) k (j+1)=(mH c a ((i:Int),true) k j||(a.getD k false&&sU ((i:Int),true) ((c.sts.getD k st0).st.getD j bB))):=by
       unfold mH
       rw[aM bB h4,atU,Bool.and_or_distrib_left,←Bool.or_assoc];simp
      refine aR (b:=mH c a ((i:Int),true) k j) rfl (fun h5=>?_) (fun h5=>?_)
      ·refine ei (j+1) (ai (ai rfl rfl) (ai (ai (ai rfl (ai (ai rfl rfl) (ai (ai rfl rfl) (ai (ai (ai (ai (fun _=>rfl) (aH (by omega))) rfl) (ai (ai (fun _=>rfl) ?_) rfl)) trivial)))) rfl) (ai (ai (iL (by omega)) trivial) (iM (by omega)))))
       show (_:Bool)=_
       rw[eA,h5];rfl
      ·refine ai (ai (abw _) (by show (k:Int)<(a.length:Int);omega)) ?_
       refine ai rfl ?_
       have hsB:(((c.sts.getD k st0).st.getD j bB).1==(i:Int)&&(((c.sts.getD k st0).st.getD j bB).2==true&&true))=sU ((i:Int),true) ((c.sts.getD k st0).st.getD j bB):=by
        rw[at1,agI];rfl
       refine aR (b:=a.getD k false) rfl (fun h7=>?_) (fun h7=>?_)
       ·refine ei (j+1) (ai (ai rfl rfl) (ai (ai (ai rfl (ai (ai rfl rfl) (ai (ai rfl rfl) (ai (ai (ai (ai (fun _=>rfl) (aH (by omega))) rfl) (ai (ai (fun _=>rfl) ?_) rfl)) trivial)))) rfl) (ai (ai (iL (by omega)) trivial) (iM (by omega)))))
        show (((c.sts.getD k st0).st.getD j bB).1==(i:Int)&&(((c.sts.getD k st0).st.getD j bB).2==true&&true))=_
        rw[eA,h5,hsB,h7];rfl
       ·refine ei (j+1) (ai (ai rfl rfl) (ai (ai (ai rfl (ai (ai rfl rfl) (ai (ai rfl rfl) (ai (ai (ai (ai (fun _=>rfl) (aH (by omega))) rfl) (ai (ai (fun _=>rfl) ?_) rfl)) trivial)))) rfl) (ai (ai (iL (by omega)) trivial) (iM (by omega)))))
        show (_:Bool)=_
        rw[eA,h5,h7];rfl
     ·obtain rfl:j=(c.sts.getD k st0).st.length:=by omega
      refine ei (k+1) (ai (ai rfl rfl) (ai (ai (ai rfl (ai (ai rfl rfl) (ai (ai rfl rfl) (ai (ai (ai (ai (fun _=>rfl) (aH (by omega))) rfl) (ai (ai nof ?_) rfl)) trivial)))) rfl) (ai (ai (iL (by omega)) trivial) (iM (by omega)))))
      show mH c a ((i:Int),true) k (c.sts.getD k st0).st.length=oL (qy c a ((i:Int),true)) (k+1)
      unfold mH;rw[af0];rfl
    ·obtain rfl:k=c.sts.length:=by omega
     refine aR (b:=oL (qy c a ((i:Int),true)) c.sts.length) rfl (fun h5=>?_) (fun h5=>?_)
     ·have e:dR c a i (1+1)=dR c a i 1++[((i:Int),true)]:=by rw[hst,show ((1:Nat)==1)=true from rfl,if_pos (show onE c a ((i:Int),true)=true from h5)]
      refine ai (mxL (n:=(dR c a i 1).length+1) (by omega) (by decide)) (ai afP ?_)
      refine ei (1+1) (ai (ai rfl rfl) (ai (ai (ai rfl (ai (ai rfl rfl) (ai (ai rfl rfl) (ai (ai (ai (ai (fun _=>rfl) (aH (by omega))) rfl) (ai rfl (ai rfl (ai ?_ ?_)))) trivial)))) rfl) (ai (ai (iL (by omega)) trivial) (iM (by omega)))))
      ·rw[e];simp
      ·rw[e];exact aaL (dR c a i 1) ((i:Int),true)
     ·have e:dR c a i (1+1)=dR c a i 1:=by rw[hst,show ((1:Nat)==1)=true from rfl,if_neg (by rw[show onE c a ((i:Int),true)=false from h5];decide),aqH]
      refine ei (1+1) (ai (ai rfl rfl) (ai (ai (ai rfl (ai (ai rfl rfl) (ai (ai rfl rfl) (ai (ai (ai (ai (fun _=>rfl) (aH (by omega))) rfl) (ai rfl (ai rfl (ai ?_ ?_)))) trivial)))) rfl) (ai (ai (iL (by omega)) trivial) (iM (by omega)))))
      ·rw[e]
      ·rw[e];exact fun _ _=>rfl
  ·obtain rfl:w=2:=by omega
   refine ei (i+1) (ai (ai rfl rfl) (ai (ai (ai rfl (ai (ai rfl rfl) (ai (ai rfl rfl) (ai (ai (ai (ai (fun _=>rfl) (aH (by omega))) rfl) (ai rfl (ai rfl (ai rfl (fun _ _=>rfl))))) trivial)))) rfl) (ai (ai (iL (by omega)) trivial) (iM (by omega)))))
 ·obtain rfl:i=c.act.toNat:=by omega
  refine ai (ai (fun h=>absurd (show false=true from h) (by decide)) ?_) trivial
  show ak _ (nD c a)
  rw[hA]
  exact (ai (ai rfl (fun _ _=>rfl)) rfl)
structure mO where
 act:Int
 sts:List Stp
def sqK (s:mO):List PV:=[iP s.act,ajW s.sts]
def sqA (s:mO):SV:=.p false (.agg (sqK s))
def wz (l:List Sk) (k:Nat):Int:=if (l.getD k bB).1<0∨6≤(l.getD k bB).1 then 2 else if 0<k∧(l.getD k bB).1=(l.getD (k-1) bB).1 then 7 else if 0<k∧(l.getD k bB).1<(l.getD (k-1) bB).1 then 9 else 0
def jY (x:Stp):Int:=if x.st.length=0 then 13 else if 6<x.st.length then 5 else if ¬dD (wz x.st) x.st.length=0 then dD (wz x.st) x.st.length else if x.wt<0∨1000000<x.wt then 2 else 0
def amM (x:Int):Bool:=decide (0≤x)&&decide (x<6)
theorem agz {x:Int}:amM x=true↔0≤x∧x<6:=by unfold amM;rw[agD,decide_eq_true_iff,decide_eq_true_iff]
theorem aeS:aG Tryz.prog 168 (bM (fun x:Int=>[iA x]) (fun _=>True) (fun x=>bP (decide (0≤x)&&decide (x<6)))):=by
 refine aU (Tb:=tab) mixed ay Tryz.func168 rfl rfl ?_
 rintro (x:Int) hpre
 refine ai (ai rfl (ai rfl rfl)) ?_
 refine ah (p:=0≤x) (cO (by omega)) (fun h1=>?_) (fun h1=>?_)
 ·refine ai (ai (fun _=>trivial) ?_) trivial
  show ak _ (bP (decide (0≤x)&&decide (x<6)))
  rw[decide_eq_true h1,aiC]
  exact rfl
 ·refine ai (ai (fun _=>trivial) ?_) trivial
  show ak _ (bP (decide (0≤x)&&decide (x<6)))
  rw[decide_eq_false h1,aoH]
  exact rfl
def vw (l:List Sk) (k:Nat):Int:=if k=0 then -1 else (l.getD (k-1) bB).1
def as6:Spec:=bM (fun x:Stp=>[stA x]) (fun _=>True) (fun x=>iP (jY x))
theorem aq8:aG Tryz.prog 164 as6:=by
 refine aU (Tb:=tab) mixed ay Tryz.func164 rfl rfl ?_
 rintro (x:Stp) hpre
 refine ai (ai rfl (ai rfl rfl)) ?_
 refine ah (p:=x.st.length=0) (eZ (by omega)) (fun h1=>?_) (fun h1=>?_)
 ·refine ai (ai (fun _=>trivial) ?_) trivial
  show ak _ (iP (jY x))
  rw[jY,if_pos h1]
  exact rfl
 refine ah (p:=6<x.st.length) (au (by omega)) (fun h2=>?_) (fun h2=>?_)
 ·refine ai (ai (fun _=>trivial) ?_) trivial
  show ak _ (iP (jY x))
  rw[jY,if_neg h1,if_pos h2]
  exact rfl
 have hA:∀e,dD (wz x.st) x.st.length=e→¬e=0→jY x=e:=fun e h h0=>by unfold jY;rw[if_neg h1,if_neg h2,if_pos (by rw[h];exact h0),h]
 refine ei (bg.inv { X:=Nat,up:=fun k=>[(19,.s (iA k)),(4,.s (iA (vw x.st k)))],uo:=fun k=>[],inv:=fun k=>k≤x.st.length∧(∀j,j<k→wz x.st j=0),meas:=fun k=>x.st.length-k,x0:=0 }) ?_
 refine ai (ai (ai (by exact (a4 (ai rfl rfl))) (ai (by exact (ai (ai (ai (fun _=>rfl) (iE (by simp only[zz,reduceCtorEq];rfl))) rfl) (ai (ai (fun _=>rfl) (iE (by simp only[zz,reduceCtorEq];rfl))) rfl))) (by exact trivial))) rfl) (ai (ai (aeT _) ?_) ?_)
 ·exact fun j hj=>absurd hj (alb _)
 intro (k:Nat) ⟨hk,hall⟩
 refine ah (p:=k<x.st.length) (au (by omega)) (fun h3=>?_) (fun h3=>?_)
 ·refine ai (ai (abw _) (iN (n:=x.st.length) (by omega))) (ai rfl ?_)
  refine ei _ (ai (aeS) (ei ((x.st.getD k bB).1) (ei [] (ai (a4 (ai (fun _=>Or.inl rfl) (ai nof (Or.inl rfl)))) (ai (by exact (iE (by simp only[zz,reduceCtorEq]))) (ai trivial (ai (trivial) ?_)))))))
  refine aR (b:=!amM (x.st.getD k bB).1) rfl (fun h4=>?_) (fun h4=>?_)
  ·have h4:¬(0≤(x.st.getD k bB).1∧(x.st.getD k bB).1<6):=by rw[←agz];simpa using h4
   have e:wz x.st k=2:=by unfold wz;rw[if_pos (by omega)]
   refine ai (ai (fun _=>trivial) ?_) trivial
   show ak _ (iP (jY x))
   rw[hA 2 ((cZ h3 hall (by rw[e];decide)).trans e) (by decide)]
   exact rfl
  have h4:0≤(x.st.getD k bB).1∧(x.st.getD k bB).1<6:=by rw[←agz];simpa using h4
  refine ah (p:=(x.st.getD k bB).1=vw x.st k) (by simp only[zz,reduceCtorEq]) (fun h5=>?_) (fun h5=>?_)
  ·have hk0:0<k:=by
    rcases arC k with e | e
    ·subst e;unfold vw at h5;rw[if_pos rfl] at h5;omega
    ·exact e
   have h5:(x.st.getD k bB).1=(x.st.getD (k-1) bB).1:=by unfold vw at h5;rwa [if_neg (by omega)] at h5
   have e:wz x.st k=7:=by unfold wz;rw[if_neg (by omega),if_pos ⟨hk0,h5⟩]
   refine ai (ai (fun _=>trivial) ?_) trivial
   show ak _ (iP (jY x))
   rw[hA 7 ((cZ h3 hall (by rw[e];decide)).trans e) (by decide)]
   exact rfl
  refine ah (p:=(x.st.getD k bB).1<vw x.st k) (au Iff.rfl) (fun h6=>?_) (fun h6=>?_)
  ·have hk0:0<k:=by
    rcases arC k with e | e
    ·subst e;unfold vw at h6;rw[if_pos rfl] at h6;omega
    ·exact e
   have h6:(x.st.getD k bB).1<(x.st.getD (k-1) bB).1:=by unfold vw at h6;rwa [if_neg (by omega)] at h6
   have e:wz x.st k=9:=by unfold wz;rw[if_neg (by omega),if_neg (by omega),if_pos ⟨hk0,h6⟩]
   refine ai (ai (fun _=>trivial) ?_) trivial
   show ak _ (iP (jY x))
   rw[hA 9 ((cZ h3 hall (by rw[e];decide)).trans e) (by decide)]
   exact rfl
  refine ei (k+1) (ai (ai rfl rfl) (ai (ai (ai rfl (ai (ai rfl rfl) (ai (ai rfl rfl) (ai (ai (ai (ai (fun _=>rfl) (aH (by omega))) rfl) (ai (ai nof (iE (by simp only[zz,reduceCtorEq];rfl))) rfl)) trivial)))) rfl) (ai (ai (iL (by omega)) ?_) (iM (by omega)))))
  intro j hj
  by_cases hjk:j=k
  ·subst hjk
   unfold vw at h5 h6
   unfold wz
   rw[if_neg (by omega)]
   by_cases e0:j=0
   ·rw[if_neg (by omega),if_neg (by omega)]
   ·rw[if_neg e0] at h5 h6
    rw[if_neg (fun h=>h5 h.2),if_neg (fun h=>h6 h.2)]
  ·exact hall j (by omega)
 ·obtain rfl:k=x.st.length:=by omega
  have e2:dD (wz x.st) x.st.length=0:=gG hall
  have hB:jY x=if x.wt<0∨1000000<x.wt then 2 else 0:=by unfold jY;rw[if_neg h1,if_neg h2,if_neg (fun h=>h e2)]
  refine ah (p:=x.wt<0) (au (by omega)) (fun h7=>?_) (fun h7=>?_)
  ·refine ai (ai (fun _=>trivial) ?_) trivial
   show ak _ (iP (jY x))
   rw[hB,if_pos (.inl h7)]
   exact rfl
  refine ah (p:=1000000<x.wt) (au (by omega)) (fun h8=>?_) (fun h8=>?_)
  ·refine ai (ai (fun _=>trivial) ?_) trivial
   show ak _ (iP (jY x))
   rw[hB,if_pos (.inr h8)]
   exact rfl
  ·refine ai (ai (fun _=>trivial) ?_) trivial
   show ak _ (iP (jY x))
   rw[hB,if_neg (by omega)]
   exact rfl
theorem ahG {m:List Bool} {j:Nat} (hj:j<m.length) (b:Bool) (k:Nat):oU (fA m) j (bP b) k=fA (m.set j b) k:=by
 unfold oU fA
 rw[abl,abl,atM]
 by_cases h:k=j
 ·rw[if_pos h,if_pos h.symm,if_pos hj];rfl
 ·rw[if_neg h,if_neg (fun e=>h e.symm)]
def okS (n:Nat) (l:List Sk):Prop:=∀y∈l,0≤y.1∧y.1<(n:Int)
theorem wM {n:Nat} {l:List Sk} (h:okS n l) {k:Nat} (hk:k<l.length):0≤(l.getD k bB).1∧(l.getD k bB).1<(n:Int):=h _ (aeJ (bJ bB hk))
def sJ (m:List Bool) (l:List Sk):List Bool:=l.foldl (fun m y=>m.set y.1.toNat y.2) m
theorem al2 (m:List Bool) (l:List Sk) (y:Sk):sJ m (l++[y])=(sJ m l).set y.1.toNat y.2:=by unfold sJ;rw[asB];rfl
theorem ab2:∀(l:List Sk) (m:List Bool),(sJ m l).length=m.length
 | [],_=>rfl
 | y :: l,m=>by
  show (sJ (m.set y.1.toNat y.2) l).length=_
  rw[ab2 l,atG]
theorem w9 {x:Stp} (h:jY x=0):(0<x.st.length∧x.st.length≤6)∧okS 6 x.st∧0≤x.wt∧x.wt≤1000000:=by
 unfold jY at h
 split at h
 ·cases h
 rename_i h1
 split at h
 ·cases h
 rename_i h2
 split at h
 ·rename_i h3;exact absurd h h3
 rename_i h3
 split at h
 ·cases h
 rename_i h4
 refine ⟨⟨by omega,by omega⟩,fun y hy=>?_,by omega,by omega⟩
 obtain ⟨i,hi,rfl⟩:=arD hy
 have h5:=oW (aqG.1 h3) i hi
 unfold wz at h5
 have hg:x.st.getD i bB=x.st[i]:=by rw[abl,abr hi];rfl
 rw[hg] at h5
 split at h5
 ·cases h5
 ·omega
def enP (m:List Bool):PV:=.arr 6 (fA m)
def enA (m:List Bool):SV:=.p false (enP m)
def enO (m:List Bool):Ob:=.arr 194 6 (fA m)
def afI (act:Int) (l:List Sk):Bool:=l.any fun y=>decide (act≤y.1)
def atE (m:List Bool) (l:List Sk):Bool:=l.any fun y=>gM m y.1==y.2
def nP (act:Int) (x:Stp) (m:List Bool):Int:=if ¬jY x=0 then jY x else if afI act x.st then 6 else if atE m x.st then 14 else 0
theorem ao7:aG Tryz.prog 130 (bM (fun a:mO×Stp×List Bool=>[sqA a.1,stA a.2.1,enA a.2.2]) (fun a=>a.1.act≤6) (fun a=>iP (nP a.1.act a.2.1 a.2.2))):=by
 refine aU (Tb:=tab) mixed ay Tryz.func130 rfl rfl ?_
 rintro ⟨s,x,m⟩ hpre
 refine ai (ai rfl (ai rfl rfl)) ?_
 have ha:s.act≤6:=hpre
 refine ei _ (ai (aq8) (ei (x) (ei [] (ai (a4 (ai (fun _=>Or.inl rfl) (ai nof (Or.inl rfl)))) (ai (by exact (ai (ai rfl (fun _ _=>rfl)) rfl)) (ai trivial (ai (trivial) ?_)))))))
 refine aZ (p:=jY x=0) (bI (by omega)) (fun h1=>?_) (fun h1=>?_)
 ·refine ai (ai (fun _=>trivial) ?_) trivial
  show ak _ (iP (nP s.act x m))
  rw[nP,if_pos h1]
  exact rfl
 obtain ⟨⟨_,h6⟩,hx,_⟩:=w9 h1
 refine ei (bg.inv { X:=Nat,up:=fun k=>[(20,.s (iA k))],uo:=fun k=>[],inv:=fun k=>k≤x.st.length∧(∀y∈x.st.take k,decide (s.act≤y.1)=false),meas:=fun k=>x.st.length-k,x0:=0 }) ?_
 refine ai (ai (ai (by exact (a4 (ai rfl rfl))) (ai (by exact (ai (ai (fun _=>rfl) (iE (by simp only[zz,reduceCtorEq];rfl))) rfl)) (by exact trivial))) rfl) (ai (ai (aeT _) ?_) ?_)
 ·exact fun y hy=>absurd hy (by simp)
 intro (k:Nat) ⟨hk,hall⟩
 refine ah (p:=k<x.st.length) (au (by dsimp only;omega)) (fun h2=>?_) (fun h2=>?_)
 ·refine ai (ai (abw _) (iN (n:=x.st.length) (by omega))) (ai rfl ?_)
  refine ah (p:=s.act≤(x.st.getD k bB).1) (cO Iff.rfl) (fun h3=>?_) (fun h3=>?_)
  ·have e:afI s.act x.st=true:=zk (d:=bB) h2 (decide_eq_true h3)
   refine ai (ai (fun _=>trivial) ?_) trivial
   show ak _ (iP (nP s.act x m))
   rw[nP,if_neg (fun h=>h h1),if_pos e]
   exact rfl
  refine ei (k+1) (ai (ai rfl rfl) (ai (ai (ai rfl (ai (ai rfl rfl) (ai (ai rfl rfl) (ai (ai (ai (fun _=>rfl) (aH (by omega))) rfl) trivial)))) rfl) (ai (ai (iL (by omega)) ?_) (iM (by omega)))))
  intro y hy
  rw[aM bB h2] at hy
  rcases ahv.1 hy with hy | hy
  ·exact hall y hy
  ·simp only[aiz] at hy;subst hy;exact decide_eq_false h3
 ·obtain rfl:k=x.st.length:=by omega
  rw[af0] at hall
  have eo:afI s.act x.st=false:=atg.2 (fun y hy=>by rw[hall y hy];decide)
  refine ei (bg.inv { X:=Nat,up:=fun j=>[(33,.s (iA j))],uo:=fun j=>[],inv:=fun j=>j≤x.st.length∧(∀y∈x.st.take j,(gM m y.1==y.2)=false),meas:=fun j=>x.st.length-j,x0:=0 }) ?_
  refine ai (ai (ai (by exact (a4 (ai rfl rfl))) (ai (by exact (ai (ai (fun _=>rfl) (iE (by simp only[zz,reduceCtorEq];rfl))) rfl)) (by exact trivial))) rfl) (ai (ai (aeT _) ?_) ?_)
  ·exact fun y hy=>absurd hy (by simp)
  intro (j:Nat) ⟨hj,hal⟩
  refine ah (p:=j<x.st.length) (au (by dsimp only;omega)) (fun h4=>?_) (fun h4=>?_)
  ·refine ai (ai (abw _) (iN (n:=x.st.length) (by omega))) (ai rfl ?_)
   have hxj:=wM hx h4
   refine ei (.seq [0,1,2,3,4,5,6]) (ai (by kernel_rfl) ?_)
   refine ai hxj ?_
   refine ai (by show 0+(x.st.getD j bB).1.toNat*1<6;omega) ?_
   refine ah (p:=(gM m (x.st.getD j bB).1==(x.st.getD j bB).2)=true) (by (show (m.getD (0+(x.st.getD j bB).1.toNat*1) false==(x.st.getD j bB).2)=true↔_;rw[aoD,ahH];exact Iff.rfl)) (fun h5=>?_) (fun h5=>?_)
   ·have e:atE m x.st=true:=zk (d:=bB) h4 h5
    refine ai (ai (fun _=>trivial) ?_) trivial
    show ak _ (iP (nP s.act x m))
    rw[nP,if_neg (fun h=>h h1),if_neg (by rw[eo];decide),if_pos e]
    exact rfl
   refine ei (j+1) (ai (ai rfl rfl) (ai (ai (ai rfl (ai (ai rfl rfl) (ai (ai rfl rfl) (ai (ai (ai (fun _=>rfl) (aH (by omega))) rfl) trivial)))) rfl) (ai (ai (iL (by omega)) ?_) (iM (by omega)))))
   intro y hy
   rw[aM bB h4] at hy
   rcases ahv.1 hy with hy | hy
   ·exact hal y hy
   ·simp only[aiz] at hy;subst hy;exact asC.2 h5
  ·obtain rfl:j=x.st.length:=by omega
   rw[af0] at hal
   have e:atE m x.st=false:=atg.2 (fun y hy=>by rw[hal y hy];decide)
   refine ai (ai (fun _=>trivial) ?_) trivial
   show ak _ (iP (nP s.act x m))
   rw[nP,if_neg (fun h=>h h1),if_neg (by rw[eo];decide),if_neg (by rw[e];decide)]
   exact rfl
theorem ak1:aG Tryz.prog 131 (gX (fun a:List Bool×Stp=>[enA a.1,stA a.2]) (fun a=>a.1.length≤6∧okS a.1.length a.2.st∧a.2.st.length≤1000000) (fun a=>enP (sJ a.1 a.2.st))):=by
 refine aU (Tb:=tab) mixed ay Tryz.func131 rfl rfl ?_
 rintro ⟨m,x⟩ hpre
 refine ai (ai rfl (ai rfl rfl)) ?_
 obtain ⟨hm,hx,hl⟩:=hpre
 have hm:m.length≤6:=hm
 have hx:okS m.length x.st:=hx
 have hl:x.st.length≤1000000:=hl
 refine ei (bg.inv { X:=Nat,up:=fun k=>[(10,.s (iA k))],uo:=fun k=>[⟨0,194,[.ob (enO (sJ m (x.st.take k)))]⟩],inv:=fun k=>k≤x.st.length∧(True),meas:=fun k=>x.st.length-k,x0:=0 }) ?_
 refine ai (ai (ai (by exact (a4 (ai rfl rfl))) (ai ?_ ?_)) rfl) (ai (ai (aeT _) ?_) ?_)
 ·exact (ai (ai (fun _=>rfl) (iE (by simp only[zz,reduceCtorEq];rfl))) rfl)
 ·exact (ai (ai rfl (ai rfl (fun _ _=>rfl))) trivial)
 ·trivial
 intro (k:Nat) ⟨hk,_⟩
 refine ah (p:=k<x.st.length) (au (by dsimp only;omega)) (fun h1=>?_) (fun h1=>?_)
 ·refine ai (ai (abw _) (iN (n:=x.st.length) (by omega))) (ai rfl ?_)
  have hxk:=wM hx h1
  refine ai (by show 0≤(x.st.getD k bB).1∧(x.st.getD k bB).1<6;omega) ?_
  refine ai (by show 0+(x.st.getD k bB).1.toNat*1<6;omega) ?_
  refine ei (k+1) (ai (ai rfl rfl) (ai (ai (ai rfl (ai (ai rfl rfl) (ai (ai rfl rfl) (ai (ai (ai (fun _=>rfl) (aH (by omega))) rfl) (ai (ai rfl (ai rfl ?_)) trivial))))) rfl) (ai (ai (iL (by omega)) trivial) (iM (by omega)))))
  intro q hq
  show oU (fA (sJ m (x.st.take k))) (0+(x.st.getD k bB).1.toNat*1) (bP (x.st.getD k bB).2) q=fA (sJ m (x.st.take (k+1))) q
  rw[ahH,aoD,ahG (by rw[ab2];omega),aM bB h1,al2]
 ·obtain rfl:k=x.st.length:=by omega
  rw[af0]
  refine ai (ai (fun _=>(by exact (fun _ _=>rfl))) ?_) trivial
  exact (ai rfl (fun _ _=>rfl))
def zeroE (act:Int):List Bool:=List.replicate act.toNat false
def iI (act:Int) (l:List Stp) (k:Nat):List Bool:=(l.take k).foldl (fun m x=>sJ m x.st) (zeroE act)
def kP (act:Int) (l:List Stp) (k:Nat):List Bool:=(l.take k).foldl (fun m x=>bG m (x.st.map (·.1)) true) (zeroE act)
theorem ah5 {act:Int} {l:List Stp} {k:Nat} (h:k<l.length):iI act l (k+1)=sJ (iI act l k) (l.getD k st0).st:=by unfold iI;rw[aM st0 h,asB];rfl
theorem akn {act:Int} {l:List Stp} {k:Nat} (h:k<l.length):kP act l (k+1)=bG (kP act l k) ((l.getD k st0).st.map (·.1)) true:=by unfold kP;rw[aM st0 h,asB];rfl
theorem aaB {α β:Type} {f:List β→α→List β} (hf:∀m x,(f m x).length=m.length):∀(l:List α) (m:List β),(l.foldl f m).length=m.length
 | [],_=>rfl
 | x :: l,m=>by rw[ati,aaB hf l,hf]
theorem aj0 (act:Int) (l:List Stp) (k:Nat):(iI act l k).length=act.toNat:=by
 refine (aaB (f:=fun m (x:Stp)=>sJ m x.st) (fun m x=>ab2 x.st m) (l.take k) (zeroE act)).trans ?_
 unfold zeroE;rw[ato]
theorem amr (act:Int) (l:List Stp) (k:Nat):(kP act l k).length=act.toNat:=by
 refine (aaB (f:=fun m (x:Stp)=>bG m (x.st.map (·.1)) true) (fun m x=>bZ true (x.st.map (·.1)) m) (l.take k) (zeroE act)).trans ?_
 unfold zeroE;rw[ato]
def yh (s:mO):Int:=dD (fun k=>nP s.act (s.sts.getD k st0) (iI s.act s.sts k)) s.sts.length
def kY (s:mO):Int:=
 if s.act<1∨6<s.act then 2 else if s.sts.length=0 then 13 else if 64<s.sts.length then 5 else if ¬yh s=0 then yh s
 else if (iI s.act s.sts s.sts.length).any id=true then 9 else if ((kP s.act s.sts s.sts.length).any fun y=>false==y)=true then 13 else 0
theorem asi:∀{m:List Bool},m.length≤6→(!((m.getD 0 false==false)&&((m.getD 1 false==false)&&((m.getD 2 false==false)&&((m.getD 3 false==false)&&((m.getD 4 false==false)&&((m.getD 5 false==false)&&true)))))))=m.any id
 | [],_=>rfl
 | [a],_=>by cases a<;>rfl
 | [a,b],_=>by cases a<;>cases b<;>rfl
 | [a,b,c],_=>by cases a<;>cases b<;>cases c<;>rfl
 | [a,b,c,d],_=>by cases a<;>cases b<;>cases c<;>cases d<;>rfl
 | [a,b,c,d,e],_=>by cases a<;>cases b<;>cases c<;>cases d<;>cases e<;>rfl
 | [a,b,c,d,e,f],_=>by cases a<;>cases b<;>cases c<;>cases d<;>cases e<;>cases f<;>rfl
 | _ :: _ :: _ :: _ :: _ :: _ :: _ :: _,h=>by simp at h
theorem ape (l:List Sk) {j:Nat} (h:j<l.length):(l.map (·.1)).getD j 0=(l.getD j bB).1:=by
 rw[abl,abl,ajv,abr h];rfl
theorem agu {act:Int} {x:Stp} {m:List Bool} (h:nP act x m=0):jY x=0∧∀y∈x.st,0≤y.1∧y.1<act:=by
 unfold nP at h
 split at h
 ·rename_i h1;exact absurd h h1
 rename_i h1
 have h1:=aqG.1 h1
 split at h
 ·cases h
 rename_i h2
 refine ⟨h1,fun y hy=>⟨((w9 h1).2.1 y hy).1,?_⟩⟩
 have:afI act x.st=false:=by simpa using h2
 have:=atg.1 this y hy
 simpa using this
theorem acQ:∀k,k<6→kM (vals (List.replicate 6 (.bool false))) k=fA [] k:=fun k hk=>by
 match k,hk with
 | 0,_=>rfl | 1,_=>rfl | 2,_=>rfl | 3,_=>rfl | 4,_=>rfl | 5,_=>rfl
theorem agl (act:Int) (k:Nat):fA (zeroE act) k=fA [] k:=by
 unfold fA zeroE
 rw[abl,atJ]
 split<;>rfl
theorem ak2:aG Tryz.prog 67 (bM (fun s:mO=>[sqA s]) (fun _=>True) (fun s=>iP (kY s))):=by
 refine aU (Tb:=tab) mixed ay Tryz.func67 rfl rfl ?_
 rintro (s:mO) hpre
 refine ai (ai rfl (ai rfl rfl)) ?_
 refine ah (p:=s.act<1) (au (by omega)) (fun h1=>?_) (fun h1=>?_)
 ·refine ai (ai (fun _=>trivial) ?_) trivial
  show ak _ (iP (kY s))
  rw[kY,if_pos (.inl h1)]
  exact rfl
 refine ah (p:=6<s.act) (au (by omega)) (fun h2=>?_) (fun h2=>?_)
 ·refine ai (ai (fun _=>trivial) ?_) trivial
  show ak _ (iP (kY s))
  rw[kY,if_pos (.inr h2)]
  exact rfl
 have e0:¬(s.act<1∨6<s.act):=fun h=>h.elim h1 h2
 refine ah (p:=s.sts.length=0) (eZ (by omega)) (fun h3=>?_) (fun h3=>?_)
 ·refine ai (ai (fun _=>trivial) ?_) trivial
  show ak _ (iP (kY s))
  rw[kY,if_neg e0,if_pos h3]
  exact rfl
 refine ah (p:=64<s.sts.length) (au (by omega)) (fun h4=>?_) (fun h4=>?_)
 ·refine ai (ai (fun _=>trivial) ?_) trivial
  show ak _ (iP (kY s))
  rw[kY,if_neg e0,if_neg h3,if_pos h4]
  exact rfl
 have hA:kY s=if ¬yh s=0 then yh s else if (iI s.act s.sts s.sts.length).any id=true then 9 else if ((kP s.act s.sts s.sts.length).any fun y=>false==y)=true then 13 else 0:=by
  unfold kY;rw[if_neg e0,if_neg h3,if_neg h4]
 refine ei (bg.inv { X:=Nat,up:=fun k=>[(32,.s (iA k))],uo:=fun k=>[⟨1,194,[.ob (enO (iI s.act s.sts k))]⟩,⟨2,194,[.ob (enO (kP s.act s.sts k))]⟩],inv:=fun k=>k≤s.sts.length∧(∀j,j<k→nP s.act (s.sts.getD j st0) (iI s.act s.sts j)=0),meas:=fun k=>s.sts.length-k,x0:=0 }) ?_
 refine ai (ai (ai (by exact (a4 (ai rfl rfl))) (ai ?_ ?_)) rfl) (ai (ai (aeT _) ?_) ?_)
 ·exact (ai (ai (fun _=>rfl) (iE (by simp only[zz,reduceCtorEq];rfl))) rfl)
 ·refine (ai (ai rfl (ai rfl ?_)) (ai (ai rfl (ai rfl ?_)) trivial))
  ·exact fun q hq=>(acQ q hq).trans (agl s.act q).symm
  ·exact fun q hq=>(acQ q hq).trans (agl s.act q).symm
 ·exact fun j hj=>absurd hj (alb _)
 intro (k:Nat) ⟨hk,hall⟩
 have hel:=aj0 s.act s.sts k
 have hml:=amr s.act s.sts k
 refine ah (p:=k<s.sts.length) (au (by omega)) (fun h5=>?_) (fun h5=>?_)
 ·refine ai (ai (abw _) (iN (n:=s.sts.length) (by omega))) (ai rfl ?_)
  refine ei _ (ai (ao7) (ei ((s,s.sts.getD k st0,iI s.act s.sts k)) (ei [] (ai (a4 (ai (fun _=>Or.inl rfl) (ai nof (Or.inl rfl)))) (ai (by exact (ai (ai rfl (ai rfl (fun _ _=>rfl))) (ai (ai (ai rfl (fun _ _=>rfl)) (iE (by simp only[zz,reduceCtorEq]))) (ai rfl (fun _ _=>rfl))))) (ai trivial (ai ((by show s.act≤6;omega)) ?_)))))))
  refine aZ (p:=nP s.act (s.sts.getD k st0) (iI s.act s.sts k)=0) (bI (by dsimp only;omega)) (fun h6=>?_) (fun h6=>?_)
  ·have e:yh s=nP s.act (s.sts.getD k st0) (iI s.act s.sts k):=cZ (f:=fun k=>nP s.act (s.sts.getD k st0) (iI s.act s.sts k)) h5 hall h6
   refine ai (ai (fun _=>trivial) ?_) trivial
   show ak _ (iP (kY s))
   rw[hA,if_pos (show ¬yh s=0 by rw[e];exact h6),e]
   exact rfl
  obtain ⟨hck,hso⟩:=agu h6
  have h6l:=(w9 hck).1.2
  have hokS:okS s.act.toNat (s.sts.getD k st0).st:=fun y hy=>by have:=hso y hy;omega
  refine ei _ (ai ((fF ak1 (iI s.act s.sts k,s.sts.getD k st0) ⟨by show (iI s.act s.sts k).length≤6;omega,by show okS (iI s.act s.sts k).length _;rw[hel];exact hokS,by show (s.sts.getD k st0).st.length≤1000000;omega⟩ (r:=enP (iI s.act s.sts (k+1))) (by rw[ah5 h5]))) (ei (()) (ei [] (ai (a4 (ai (fun _=>Or.inl rfl) (ai nof (Or.inl rfl)))) (ai (by exact (ai (ai rfl (fun _ _=>rfl)) (ai (ai rfl (fun _ _=>rfl)) (iE (by simp only[zz,reduceCtorEq]))))) (ai trivial (ai (trivial) ?_)))))))
  refine ei (bg.inv { X:=Nat,up:=fun j=>[(49,.s (iA j))],uo:=fun j=>[⟨2,194,[.ob (enO (bG (kP s.act s.sts k) (((s.sts.getD k st0).st.map (·.1)).take j) true))]⟩],inv:=fun j=>j≤(s.sts.getD k st0).st.length∧(True),meas:=fun j=>(s.sts.getD k st0).st.length-j,x0:=0 }) ?_
  refine ai (ai (ai (by exact (a4 (ai rfl rfl))) (ai ?_ ?_)) rfl) (ai (ai (aeT _) ?_) ?_)
  ·exact (ai (ai (fun _=>rfl) (iE (by simp only[zz,reduceCtorEq];rfl))) rfl)
  ·exact (ai (ai rfl (ai rfl (fun _ _=>rfl))) trivial)
  ·trivial
  intro (j:Nat) ⟨hj,_⟩
  refine ah (p:=j<(s.sts.getD k st0).st.length) (by simp only[zz,reduceCtorEq];omega) (fun h7=>?_) (fun h7=>?_)
  ·refine ai (ai (abw _) (iN (n:=(s.sts.getD k st0).st.length) (by omega))) (ai rfl ?_)
   have hxj:=wM hokS h7
   refine ai (by show 0≤((s.sts.getD k st0).st.getD j bB).1∧((s.sts.getD k st0).st.getD j bB).1<6;omega) ?_
   refine ai (by show 0+((s.sts.getD k st0).st.getD j bB).1.toNat*1<6;omega) ?_
   refine ei (j+1) (ai (ai rfl rfl) (ai (ai (ai rfl (ai (ai rfl rfl) (ai (ai rfl rfl) (ai (ai (ai (fun _=>rfl) (aH (by omega))) rfl) (ai (ai rfl (ai rfl ?_)) trivial))))) rfl) (ai (ai (iL (by omega)) trivial) (iM (by omega)))))
   intro q hq
   show oU (fA (bG (kP s.act s.sts k) (((s.sts.getD k st0).st.map (·.1)).take j) true)) (0+((s.sts.getD k st0).st.getD j bB).1.toNat*1) (bP true) q=fA (bG (kP s.act s.sts k) (((s.sts.getD k st0).st.map (·.1)).take (j+1)) true) q
   have eg:=ape (s.sts.getD k st0).st h7
   rw[ahH,aoD,ahG (by rw[bZ];omega),aM 0 (by rw[aot];exact h7),lX,eg]
  ·obtain rfl:j=(s.sts.getD k st0).st.length:=by omega
   have e9:bG (kP s.act s.sts k) (((s.sts.getD k st0).st.map (·.1)).take (s.sts.getD k st0).st.length) true=kP s.act s.sts (k+1):=by
    rw[akn h5,atA (by rw[aot];exact ahl _)]
   refine ei (k+1) (ai (ai rfl rfl) (ai (ai (ai rfl (ai (ai rfl rfl) (ai (ai rfl rfl) (ai (ai (ai (fun _=>rfl) (aH (by omega))) rfl) (ai (ai rfl (ai rfl (fun _ _=>rfl))) (ai (ai rfl (ai rfl ?_)) trivial)))))) rfl) (ai (ai (iL (by omega)) ?_) (iM (by omega)))))
   ·exact fun q hq=>by rw[←e9]
   ·intro i hi
    by_cases e:i=k
    ·subst e;exact h6
    ·exact hall i (by omega)
 ·obtain rfl:k=s.sts.length:=by omega
  have e1:yh s=0:=gG hall
  refine ah (p:=(iI s.act s.sts s.sts.length).any id=true) (by (rw[←asi (m:=iI s.act s.sts s.sts.length) (by omega)];first | done | exact Iff.rfl)) (fun h8=>?_) (fun h8=>?_)
  ·refine ai (ai (fun _=>trivial) ?_) trivial
   show ak _ (iP (kY s))
   rw[hA,if_neg (fun h=>h e1),if_pos h8]
   exact rfl
  refine ai (ai (by decide) (ai (by show 0≤s.act;omega) (by show s.act≤6;omega))) ?_
  refine ei _ (ai (apQ) (ei ((kP s.act s.sts s.sts.length,false)) (ei [] (ai (ai rfl (ai rfl (ai rfl (ai rfl (ai (fun _=>Or.inl rfl) (ai (fun _=>ai rfl rfl) (Or.inl rfl))))))) (ai ?_ (ai (by exact trivial) (ai ((by show (kP s.act s.sts s.sts.length).length≤1000000;omega)) ?_)))))))
  ·refine (ai (ai rfl (ai ?_ ?_)) rfl)
   ·show s.act.toNat-(0:Int).toNat=(kP s.act s.sts s.sts.length).length
    rw[hml];rfl
   ·intro q hq
    show [fA (kP s.act s.sts s.sts.length) ((0:Int).toNat+q)]=_
    rw[show (0:Int).toNat+q=q by simp];rfl
  refine aR (b:=(kP s.act s.sts s.sts.length).any fun y=>false==y) rfl (fun h9=>?_) (fun h9=>?_)
  ·refine ai (ai (fun _=>trivial) ?_) trivial
   show ak _ (iP (kY s))
   rw[hA,if_neg (fun h=>h e1),if_neg h8,if_pos h9]
   exact rfl
  ·refine ai (ai (fun _=>trivial) ?_) trivial
   show ak _ (iP (kY s))
   rw[hA,if_neg (fun h=>h e1),if_neg h8,if_neg (by rw[h9];decide)]
   exact rfl
def vT (n:Int):Ex:=.node 1 n []
def uG (n:Int):List PV:=[iP 1,iP n,.val (.slice none 0 0)]
def mM (y:Sk):Int:=2*y.1+if y.2 then 1 else 0
def af6 (l:List Sk):Ex:=match l with
 | [y]=>vT (mM y)
 | l=>.node 3 0 (l.map fun y=>vT (mM y))
def xA (l:List Sk) (k:Nat):List PV:=uG (mM (l.getD k bB))
abbrev C3 := PV × PV × PV
def y5 (c:C3):List PV:=[c.1,c.2.1,c.2.2]
def aaC (n:Int):C3:=(iP 1,iP n,.val (.slice none 0 0))
def lI (l:List Sk):C3:=(if l.length=1 then iP 1 else iP 3,if l.length=1 then iP (mM (l.getD 0 bB)) else iP 0,if l.length=1 then .val (.slice none 0 0) else .seq l.length (xA l))
def abP (l:List Sk):List PV:=y5 (lI l)
theorem ahk {l:List Sk} (h:l.length=1):abP l=uG (mM (l.getD 0 bB)):=by unfold abP y5 lI;simp only[h,if_true];rfl
theorem aeN {l:List Sk} (h:¬l.length=1):abP l=[iP 3,iP 0,.seq l.length (xA l)]:=by unfold abP y5 lI;simp only[h,if_false]
theorem oD:aG Tryz.prog 69 (bM (fun n:Int=>[iA n]) (fun _=>True) (fun n=>.agg (uG n))):=by
 refine aU (Tb:=tab) mixed ay Tryz.func69 rfl rfl ?_
 rintro (n:Int) hpre
 refine ai (ai rfl (ai rfl rfl)) ?_
 refine ai (ai (fun _=>trivial) ?_) trivial
 exact (ai rfl (ai rfl rfl))
def ahA (l:List Sk):Prop:=l.length≤1000∧okS 6 l
theorem aqv {l:List Sk} (h:ahA l) {k:Nat} (hk:k<l.length):0≤(l.getD k bB).1∧(l.getD k bB).1<6:=by
 have:=wM h.2 hk;omega
def asX (l:List Sk) (k:Nat):LV:=.rw 79 3 k (xA l)
theorem af3 (l:List Sk) (k:Nat):∀j,j<k+1→bQ k (xA l) (bn 3 (uG (mM (l.getD k bB)))) j=xA l j:=by
 intro j hj
 unfold bQ
 by_cases h:j<k
 ·rw[if_pos h]
 ·obtain rfl:j=k:=by omega
  rw[if_neg h,asA];rfl
theorem ag8:aG Tryz.prog 71 (gX (fun l:List Sk=>[aes l]) (fun l=>ahA l∧0<l.length) (fun l=>.agg (abP l))):=by
 refine aU (Tb:=tab) mixed ay Tryz.func71 rfl rfl ?_
 rintro (l:List Sk) hpre
 refine ai (ai rfl (ai rfl rfl)) ?_
 obtain ⟨hs,hp⟩:=hpre
 have hl:l.length≤1000:=hs.1
 refine ei (bg.inv { X:=Nat,up:=fun k=>[(9,.s (iA k)),(3,asX l k)],uo:=fun k=>[],inv:=fun k=>k≤l.length∧(True),meas:=fun k=>l.length-k,x0:=0 }) ?_
 refine ai (ai (ai (by exact (a4 (ai rfl rfl))) (ai (by exact (ai (ai (ai (fun _=>rfl) (iE (by simp only[zz,reduceCtorEq];rfl))) rfl) rfl)) (by exact trivial))) rfl) (ai (ai (aeT _) ?_) ?_)
 ·trivial
 intro (k:Nat) ⟨hk,_⟩
 refine ah (p:=k<l.length) (au (by omega)) (fun h1=>?_) (fun h1=>?_)
 ·refine ai (ai (abw _) (iN (n:=l.length) (by omega))) (ai rfl ?_)
  have hx:=aqv hs h1
  have hw:IntKind.i64.wrap (2*(l.getD k bB).1)=2*(l.getD k bB).1:=wrI (by omega) (by omega)
  refine aR (b:=(l.getD k bB).2) rfl (fun h2=>?_) (fun h2=>?_)
  ·refine ei _ (ai (oD) (ei (mM (l.getD k bB)) (ei [] (ai (a4 (ai (fun _=>Or.inl rfl) (ai nof (Or.inl rfl)))) (ai ?_ (ai (by exact trivial) (ai (trivial) ?_)))))))
   ·show IntKind.i64.wrap (IntKind.i64.wrap (2*(l.getD k bB).1)+1)=mM (l.getD k bB)
    rw[hw,wrI (by omega) (by omega)];unfold mM;rw[h2];rfl
   refine ai (mxL (n:=k+1) (by omega) (by decide)) (ai (lt1 rfl) ?_)
   refine ei (k+1) (ai (ai rfl rfl) (ai (ai (ai rfl (ai (ai rfl rfl) (ai (ai rfl rfl) (ai (ai (ai (ai (fun _=>rfl) (aH (by omega))) rfl) (ai rfl (ai rfl (ai rfl ?_)))) trivial)))) rfl) (ai (ai (iL (by omega)) trivial) (iM (by omega)))))
   exact af3 l k
  ·refine ei _ (ai (oD) (ei (mM (l.getD k bB)) (ei [] (ai (a4 (ai (fun _=>Or.inl rfl) (ai nof (Or.inl rfl)))) (ai ?_ (ai (by exact trivial) (ai (trivial) ?_)))))))
   ·show IntKind.i64.wrap (2*(l.getD k bB).1)=mM (l.getD k bB)
    rw[hw];unfold mM;rw[h2];simp
   refine ai (mxL (n:=k+1) (by omega) (by decide)) (ai (lt1 rfl) ?_)
   refine ei (k+1) (ai (ai rfl rfl) (ai (ai (ai rfl (ai (ai rfl rfl) (ai (ai rfl rfl) (ai (ai (ai (ai (fun _=>rfl) (aH (by omega))) rfl) (ai rfl (ai rfl (ai rfl ?_)))) trivial)))) rfl) (ai (ai (iL (by omega)) trivial) (iM (by omega)))))
   exact af3 l k
 ·obtain rfl:k=l.length:=by omega
  refine ah (p:=l.length=1) (eZ (by omega)) (fun h3=>?_) (fun h3=>?_)
  ·refine ai (ai (by decide) (by show (0:Int)<(l.length:Int);omega)) ?_
   refine ai (by show 0<l.length;omega) ?_
   refine ai (ai (fun h=>absurd (show false=true from h) (by decide)) ?_) trivial
   show ak _ (.agg (abP l))
   rw[ahk h3]
   exact (ai rfl (ai (iE rfl) rfl))
  ·refine ai (ai (fun h=>absurd (show false=true from h) (by decide)) ?_) trivial
   show ak _ (.agg (abP l))
   rw[aeN h3]
   exact (ai rfl (ai rfl (ai rfl (fun _ _=>rfl))))
def uE (act:Int) (p:List (Stp×C3)) (x:Stp):List (Stp×C3):=
 if 0<x.wt then (p++[(⟨x.st,0⟩,lI x.st)])++[(⟨[],x.wt⟩,aaC (2*act+1+((p.length+1:Nat):Int)))] else p++[(⟨x.st,0⟩,lI x.st)]
def aqD (act:Int):List (Stp×C3):=[(⟨[],0⟩,aaC (2*act))]
def dL (s:mO) (k:Nat):List (Stp×C3):=(s.sts.take k).foldl (uE s.act) (aqD s.act)
theorem aeE {s:mO} {k:Nat} (h:k<s.sts.length):dL s (k+1)=uE s.act (dL s k) (s.sts.getD k st0):=by unfold dL;rw[aM st0 h,asB];rfl
theorem amN (act:Int) (p:List (Stp×C3)) (x:Stp):(uE act p x).length≤p.length+2∧p.length<(uE act p x).length:=by
 unfold uE
 split
 ·simp only[abg,ai6,aox];omega
 ·simp only[abg,ai6,aox];omega
theorem ag7 (s:mO):∀k,k≤s.sts.length→(dL s k).length≤2*k+1∧0<(dL s k).length
 | 0,_=>⟨by show (aqD s.act).length≤1;exact ahl _,by show 0<1;decide⟩
 | k+1,h=>by
  obtain ⟨h1,h2⟩:=ag7 s k (by omega)
  obtain ⟨h3,h4⟩:=amN s.act (dL s k) (s.sts.getD k st0)
  rw[aeE (by omega)];omega
abbrev SC := Stp × C3
def qc:SC:=(st0,(iP 0,iP 0,.val (.slice none 0 0)))
def uX (x:Stp):List PV:=[if x.st=[] then .val (.slice none 0 0) else sK x.st,iP x.wt]
def aco:PV:=.seq 1 (bn 1 [.val (.string (strOf [115,116,97,114,116]))])
def an5 (act:Int) (ins:PV) (st tr:SV):Ob:=.cells 36 [iA act,.p false ins,st,tr]
def am1 (s:SV):Ob:=.cells 77 [s]
def arN (p:List SC):Ob:=.row 89 2 p.length (fun k=>uX (p.getD k qc).1)
def ari (p:List SC):Ob:=.row 79 3 p.length (fun k=>y5 (p.getD k qc).2)
def acg:SV:=.p false (.val (.slice none 0 0))
structure abZ where
 act:Int
 p:List SC
 s0:PV
 wt:Int
 e0:PV
 e1:PV
 e2:PV
 x:SC
def abZ.ok (a:abZ):Prop:=a.p.length≤1000∧uX a.x.1=[a.s0,iP a.wt]∧y5 a.x.2=[a.e0,a.e1,a.e2]
def apf (a:abZ):List SV:=[.p false (.agg [a.s0,iP a.wt]),.p false (.agg [a.e0,a.e1,a.e2]),.own 0 0,.own 1 0]
def ard (n:Bool) (a:abZ):Prop:=a.ok∧(n=true→a.p=[])
def ar0:Bool→abZ→List Ob
 | true,a=>[an5 a.act aco acg acg,am1 acg]
 | false,a=>[an5 a.act aco (.row 2) acg,am1 (.row 3),arN a.p,ari a.p]
def arJ (a:abZ):List Ob:=[an5 a.act aco (.row 2) acg,am1 (.row 3),arN (a.p++[a.x]),ari (a.p++[a.x])]
def arT (n:Bool):rz:={ A:=abZ,fix:=2,args:=apf,objs:=ar0 n,pre:=ard n,res:=fun _=>.tup [],objs':=arJ,inl:=[4000009,4000013] }
theorem tT (f:SC→List PV) (p:List SC) (x:SC) {g:Nat→List PV} (hg:g 0=f x):∀k,k<p.length+1→bQ p.length (fun k=>f (p.getD k qc)) g k=f ((p++[x]).getD k qc):=by
 intro k hk
 unfold bQ
 by_cases h:k<p.length
 ·rw[if_pos h]
  show f (p.getD k qc)=_
  rw[abl,abl,afs h]
 ·obtain rfl:k=p.length:=by omega
  rw[if_neg h,asA,hg,abl,ag4 (ahl _),asA];rfl
theorem acT:jT Tryz.prog 68 (arT false):=by
 refine qg (Tb:=tab) mixed ay Tryz.func68 rfl rfl ?_
 rintro ⟨act,p,s0,wt,e0,e1,e2,x⟩ hpre
 refine ai (ai rfl (ai rfl rfl)) ?_
 obtain ⟨⟨hp,hx,he⟩,_⟩:=hpre
 have hp:p.length≤1000:=hp
 have hx:uX x.1=[s0,iP wt]:=hx
 have he:y5 x.2=[e0,e1,e2]:=he
 refine ei (.one 0 (.one 1 (.one 2 (.rd 5 [4] (.rd 6 [4] (.alt 3 (.alt 4 (.one 9 (.one 7 (.one 8 (.one 10 (.one 11 .done))))) (.alt 7 (.one 4 (.one 9 (.one 8 (.one 10 (.one 11 .done))))) .stop)) (.alt 7 (.one 3 (.one 4 (.one 9 (.one 8 (.one 10 (.one 11 .done)))))) .stop))))))) (ai (by kernel_rfl) ?_)
 refine ai ?_ (ai ?_ trivial)
 ·refine ai ?_ (ai ?_ trivial)
  ·refine ai (mxL (n:=p.length+1) (by omega) (by decide)) (ai (lt1 rfl) ?_)
   refine ai (mxL (n:=p.length+1) (by omega) (by decide)) (ai (lt1 rfl) ?_)
   refine ei [0,1,6,7] (ai (ai rfl (ai rfl rfl)) (ai trivial ?_))
   refine (ai (ai rfl (ai rfl (ai (ai rfl (fun _ _=>rfl)) (ai rfl rfl)))) (ai (ai rfl rfl) (ai (ai rfl (ai rfl (ai ?_ ?_))) (ai rfl (ai rfl (ai ?_ ?_))))))
   ·show p.length+1=(p++[x]).length;rw[abg];rfl
   ·exact fun k hk=>tT (fun q=>uX q.1) p x (g:=bn 2 [s0,iP wt]) hx.symm k (by have hk:k<(p++[x]).length:=hk;rwa [abg] at hk)
   ·show p.length+1=(p++[x]).length;rw[abg];rfl
   ·exact fun k hk=>tT (fun q=>y5 q.2) p x (g:=bn 3 [e0,e1,e2]) he.symm k (by have hk:k<(p++[x]).length:=hk;rwa [abg] at hk)
  ·refine ai (mxL (n:=p.length+1) (by omega) (by decide)) (ai (lt1 rfl) ?_)
   refine ai (mxL (n:=p.length+1) (by omega) (by decide)) (ai (lt1 rfl) ?_)
   refine ei [0,1,6,7] (ai (ai rfl (ai rfl rfl)) (ai trivial ?_))
   refine (ai (ai rfl (ai rfl (ai (ai rfl (fun _ _=>rfl)) (ai rfl rfl)))) (ai (ai rfl rfl) (ai (ai rfl (ai rfl (ai ?_ ?_))) (ai rfl (ai rfl (ai ?_ ?_))))))
   ·show p.length+1=(p++[x]).length;rw[abg];rfl
   ·exact fun k hk=>tT (fun q=>uX q.1) p x (g:=bn 2 [s0,iP wt]) hx.symm k (by have hk:k<(p++[x]).length:=hk;rwa [abg] at hk)
   ·show p.length+1=(p++[x]).length;rw[abg];rfl
   ·exact fun k hk=>tT (fun q=>y5 q.2) p x (g:=bn 3 [e0,e1,e2]) he.symm k (by have hk:k<(p++[x]).length:=hk;rwa [abg] at hk)
 ·refine ai (mxL (n:=p.length+1) (by omega) (by decide)) (ai (lt1 rfl) ?_)
  refine ai (mxL (n:=p.length+1) (by omega) (by decide)) (ai (lt1 rfl) ?_)
  refine ei [0,1,6,7] (ai (ai rfl (ai rfl rfl)) (ai trivial ?_))
  refine (ai (ai rfl (ai rfl (ai (ai rfl (fun _ _=>rfl)) (ai rfl rfl)))) (ai (ai rfl rfl) (ai (ai rfl (ai rfl (ai ?_ ?_))) (ai rfl (ai rfl (ai ?_ ?_))))))
  ·show p.length+1=(p++[x]).length;rw[abg];rfl
  ·exact fun k hk=>tT (fun q=>uX q.1) p x (g:=bn 2 [s0,iP wt]) hx.symm k (by have hk:k<(p++[x]).length:=hk;rwa [abg] at hk)
  ·show p.length+1=(p++[x]).length;rw[abg];rfl
  ·exact fun k hk=>tT (fun q=>y5 q.2) p x (g:=bn 3 [e0,e1,e2]) he.symm k (by have hk:k<(p++[x]).length:=hk;rwa [abg] at hk)
theorem ap8:jT Tryz.prog 68 (arT true):=by
 refine qg (Tb:=tab) mixed ay Tryz.func68 rfl rfl ?_
 rintro ⟨act,p,s0,wt,e0,e1,e2,x⟩ hpre
 refine ai (ai rfl (ai rfl rfl)) ?_
 obtain ⟨⟨hp,hx,he⟩,hn⟩:=hpre
 obtain rfl:p=[]:=hn rfl
 have hx:uX x.1=[s0,iP wt]:=hx
 have he:y5 x.2=[e0,e1,e2]:=he
 refine ei (.one 0 (.one 1 (.one 2 (.rd 5 [4] (.rd 6 [4] (.alt 3 (.alt 4 (.one 9 (.one 7 (.one 8 (.one 10 (.one 11 .done))))) (.alt 7 (.one 4 (.one 9 (.one 8 (.one 10 (.one 11 .done))))) .stop)) (.alt 7 (.one 3 (.one 4 (.one 9 (.one 8 (.one 10 (.one 11 .done)))))) .stop))))))) (ai (by kernel_rfl) ?_)
 refine ai ?_ (ai ?_ trivial)
 ·refine ai ?_ (ai ?_ trivial)
  ·refine ai (ai (by decide) (by decide)) (ai (lt1 rfl) ?_)
   refine ai (ai (by decide) (by decide)) (ai (lt1 rfl) ?_)
   refine ei [0,1,4,5] (ai (ai rfl (ai rfl rfl)) (ai trivial ?_))
   refine (ai (ai rfl (ai rfl (ai (ai rfl (fun _ _=>rfl)) (ai rfl rfl)))) (ai (ai rfl rfl) (ai (ai rfl (ai rfl (ai rfl ?_))) (ai rfl (ai rfl (ai rfl ?_))))))
   ·intro k hk
    have hk:k<1:=hk
    obtain rfl:k=0:=by omega
    exact hx.symm
   ·intro k hk
    have hk:k<1:=hk
    obtain rfl:k=0:=by omega
    exact he.symm
  ·refine ai (ai (by decide) (by decide)) (ai (lt1 rfl) ?_)
   refine ai (ai (by decide) (by decide)) (ai (lt1 rfl) ?_)
   refine ei [0,1,4,5] (ai (ai rfl (ai rfl rfl)) (ai trivial ?_))
   refine (ai (ai rfl (ai rfl (ai (ai rfl (fun _ _=>rfl)) (ai rfl rfl)))) (ai (ai rfl rfl) (ai (ai rfl (ai rfl (ai rfl ?_))) (ai rfl (ai rfl (ai rfl ?_))))))
   ·intro k hk
    have hk:k<1:=hk
    obtain rfl:k=0:=by omega
    exact hx.symm
   ·intro k hk
    have hk:k<1:=hk
    obtain rfl:k=0:=by omega
    exact he.symm
 ·refine ai (ai (by decide) (by decide)) (ai (lt1 rfl) ?_)
  refine ai (ai (by decide) (by decide)) (ai (lt1 rfl) ?_)
  refine ei [0,1,4,5] (ai (ai rfl (ai rfl rfl)) (ai trivial ?_))
  refine (ai (ai rfl (ai rfl (ai (ai rfl (fun _ _=>rfl)) (ai rfl rfl)))) (ai (ai rfl rfl) (ai (ai rfl (ai rfl (ai rfl ?_))) (ai rfl (ai rfl (ai rfl ?_))))))
  ·intro k hk
   have hk:k<1:=hk
   obtain rfl:k=0:=by omega
   exact hx.symm
  ·intro k hk
   have hk:k<1:=hk
   obtain rfl:k=0:=by omega
   exact he.symm
def asv:Spec:=bM (fun l:List (Sk)=>[aes l]) (fun l=>l.length≤1000000) (fun l=>sK l)
theorem ap2:aG Tryz.prog 70 asv:=by
 refine aU (Tb:=tab) mixed ay Tryz.func70 rfl rfl ?_
 rintro (l:List (Sk)) hpre
 refine ai (ai rfl (ai rfl rfl)) ?_
 have hl:l.length≤1000000:=hpre
 intro b hb
 refine bf (fun h1=>?_) (fun h1=>?_)
 ·have h1:l.length=0:=hb h1
  refine ai (ai (fun _=>trivial) ?_) trivial
  show ak _ (sK l)
  rw[aqy.1 h1]
  exact rfl
 ·refine ai (mxL (n:=0+l.length) (by omega) (by decide)) (ai (fun _ _=>rfl) ?_)
  refine ai (ai (fun _ k hk=>by rw[afH k hk];rfl) ?_) trivial
  refine (ai ?_ (fun _ _=>rfl))
  exact ahH _
def toN (k n:Nat):Int:=(((k+1) % n:Nat):Int)
def aaQ (p:List SC) (k:Nat):List PV:=[.seq 1 (bn 1 [iP (k:Int)]),.seq 1 (bn 1 [iP (toN k p.length)]),(p.getD k qc).2.1,(p.getD k qc).2.2.1,(p.getD k qc).2.2.2]
def ata (p:List SC) (k:Nat):LV:=.rw 123 5 k (aaQ p)
def afK (act:Int) (p:List SC):PV:=.agg [iP act,aco,.seq p.length (fun k=>uX (p.getD k qc).1),.seq p.length (aaQ p)]
def wC (s:mO):Int:=if ¬kY s=0 then kY s else if 24<(dL s s.sts.length).length then 5 else 0
def ofRaw (s:mO):PV:=if wC s=0 then .tup [afK s.act (dL s s.sts.length),iP 0] else .tup [.agg [iP 0,.val (.slice none 0 0),.val (.slice none 0 0),.val (.slice none 0 0)],iP (wC s)]
theorem ajl (p:List SC) (k:Nat) {g:Nat→List PV} (hg:g 0=aaQ p k):∀j,j<k+1→bQ k (aaQ p) g j=aaQ p j:=by
 intro j hj
 unfold bQ
 by_cases h:j<k
 ·rw[if_pos h]
 ·obtain rfl:j=k:=by omega
  rw[if_neg h,asA,hg]
theorem seq_ok {s:mO} (h:kY s=0):(1≤s.act∧s.act≤6)∧s.sts.length≤64∧∀x∈s.sts,jY x=0:=by
 unfold kY at h
 split at h
 ·cases h
 rename_i h1
 split at h
 ·cases h
 split at h
 ·cases h
 rename_i h3
 split at h
 ·rename_i h4;exact absurd h h4
 rename_i h4
 refine ⟨by omega,by omega,fun x hx=>?_⟩
 obtain ⟨k,hk,rfl⟩:=arD hx
 have:=oW (aqG.1 h4) k hk
 rw[show s.sts.getD k st0=s.sts[k] by rw[abl,abr hk];rfl] at this
 exact (agu this).1
set_option maxHeartbeats 16000000 in
theorem ain:aG Tryz.prog 18 (gX (fun s:mO=>[sqA s]) (fun _=>True) ofRaw):=by
 refine jC [68,3000020,4000077,4000084] ?_
 refine aU (Tb:=tab) mixed ay Tryz.func18 rfl rfl ?_
 rintro (s:mO) hpre
 refine ai (ai rfl (ai rfl rfl)) ?_
 refine ei _ (ai (ak2) (ei (s) (ei [] (ai (a4 (ai (fun _=>Or.inl rfl) (ai nof (Or.inl rfl)))) (ai (by exact (ai rfl (ai rfl (fun _ _=>rfl)))) (ai trivial (ai (trivial) ?_)))))))
 refine aZ (p:=kY s=0) (bI (by omega)) (fun h1=>?_) (fun h1=>?_)
 ·have e:wC s=kY s:=if_pos h1
  refine ai (ai (fun h=>absurd (show false=true from h) (by decide)) ?_) trivial
  show ak _ (ofRaw s)
  rw[ofRaw,e,if_neg h1]
  exact (ai (ai rfl (ai rfl (ai rfl rfl))) rfl)
 obtain ⟨⟨ha1,ha6⟩,h64,hck⟩:=seq_ok h1
 have hw2:IntKind.i64.wrap (2*s.act)=2*s.act:=wrI (by omega) (by omega)
 refine ei _ (ai (oD) (ei (2*s.act) (ei [] (ai (a4 (ai (fun _=>Or.inl rfl) (ai nof (Or.inl rfl)))) (ai ?_ (ai (by exact trivial) (ai (trivial) ?_)))))))
 ·exact hw2
 refine eX (ap8) (⟨s.act,[],.val (.slice none 0 0),0,iP 1,iP (2*s.act),.val (.slice none 0 0),(⟨[],0⟩,aaC (2*s.act))⟩) [3,4] (a4 (ai rfl rfl)) (Or.inl rfl) (by exact (ai (ai rfl rfl) (ai (ai rfl (ai (iE (by omega)) rfl)) (ai (ai rfl rfl) (ai rfl rfl))))) (by exact (ai (ai rfl (ai rfl (ai (ai rfl (fun _ _=>rfl)) (ai rfl rfl)))) (ai rfl rfl))) (⟨⟨aeT _,rfl,rfl⟩,fun _=>rfl⟩) ?_
 have hL:=ag7 s
 refine ei (bg.inv { X:=Nat,up:=fun k=>[(34,.s (iA k))],uo:=fun k=>[⟨3,36,[.s (iA s.act),.s (.p false aco),.rw 89 2 (dL s k).length (fun j=>uX ((dL s k).getD j qc).1),.s acg]⟩,⟨4,77,[.rw 79 3 (dL s k).length (fun j=>y5 ((dL s k).getD j qc).2)]⟩],inv:=fun k=>k≤s.sts.length∧(True),meas:=fun k=>s.sts.length-k,x0:=0 }) ?_
 refine ai (ai (ai (by exact (a4 (ai rfl rfl))) (ai ?_ ?_)) rfl) (ai (ai (aeT _) ?_) ?_)
 ·exact (ai (ai (fun _=>rfl) (iE (by simp only[zz,reduceCtorEq];rfl))) rfl)
 ·exact (ai (ai (ai (ai nof rfl) rfl) (ai (ai (ai nof (ai rfl (fun _ _=>rfl))) rfl) (ai (ai rfl (ai rfl (ai rfl (fun _ _=>rfl)))) (ai (ai nof rfl) rfl)))) (ai (ai rfl (ai rfl (ai rfl (fun _ _=>rfl)))) trivial))
 ·trivial
 intro (k:Nat) ⟨hk,_⟩
 obtain ⟨hk1,hk2⟩:=hL k hk
 refine ah (p:=k<s.sts.length) (au (by omega)) (fun h2=>?_) (fun h2=>?_)
 ·refine ai (ai (abw _) (iN (n:=s.sts.length) (by omega))) (ai rfl ?_)
  have hm:=aeJ (bJ st0 h2)
  obtain ⟨⟨hx0,hx6⟩,hxs,hxw⟩:=w9 (hck _ hm)
  have hsm:ahA (s.sts.getD k st0).st:=⟨by omega,hxs⟩
  have hst:=aeE h2
  have hne:(s.sts.getD k st0).st≠[]:=fun e=>by rw[e] at hx0;simp at hx0
  refine ei (.one 0 (.one 1 (.one 2 (.one 5 (.one 6 (.one 3 (.one 4 (.one 7 (.wr 8 .done))))))))) (ai (by kernel_rfl) ?_)
  refine ei _ (ai (ap2) (ei ((s.sts.getD k st0).st) (ei [] (ai (a4 (ai (fun _=>Or.inl rfl) (ai nof (Or.inl rfl)))) (ai (by exact (ai rfl (fun _ _=>rfl))) (ai trivial (ai ((by show (s.sts.getD k st0).st.length≤1000000;omega)) ?_)))))))
  by_cases h1l:(s.sts.getD k st0).st.length=1
  ·have ee:=ahk h1l
   refine ei _ (ai ((fF ag8 (s.sts.getD k st0).st ⟨hsm,hx0⟩ (r:=.agg [iP 1,iP (mM ((s.sts.getD k st0).st.getD 0 bB)),.val (.slice none 0 0)]) (congrArg PV.agg ee))) (ei (()) (ei [] (ai (a4 (ai (fun _=>Or.inl rfl) (ai nof (Or.inl rfl)))) (ai (by exact (ai rfl (fun _ _=>rfl))) (ai trivial (ai (trivial) ?_)))))))
   refine eX (acT) (⟨s.act,dL s k,sK (s.sts.getD k st0).st,0,iP 1,iP (mM ((s.sts.getD k st0).st.getD 0 bB)),.val (.slice none 0 0),(⟨(s.sts.getD k st0).st,0⟩,lI (s.sts.getD k st0).st)⟩) [3,4,7,8] (a4 (ai rfl rfl)) (Or.inl rfl) (by exact (ai (ai (ai rfl (fun _ _=>rfl)) rfl) (ai (ai rfl (ai rfl rfl)) (ai (ai rfl rfl) (ai rfl rfl))))) (by exact (ai (ai rfl (ai rfl (ai (ai rfl (fun _ _=>rfl)) (ai rfl rfl)))) (ai (ai rfl rfl) (ai (ai rfl (ai rfl (ai rfl (fun _ _=>rfl)))) (ai rfl (ai rfl (ai rfl (fun _ _=>rfl)))))))) (⟨⟨by show (dL s k).length≤1000;omega,by show uX ⟨(s.sts.getD k st0).st,0⟩=_;unfold uX;rw[if_neg hne],ee⟩,fun h=>by cases h⟩) ?_
   refine ah (p:=0<(s.sts.getD k st0).wt) (au Iff.rfl) (fun h3=>?_) (fun h3=>?_)
   ·have e:dL s (k+1)=(dL s k++[(⟨(s.sts.getD k st0).st,0⟩,lI (s.sts.getD k st0).st)])++[(⟨[],(s.sts.getD k st0).wt⟩,aaC (2*s.act+1+(((dL s k).length+1:Nat):Int)))]:=by rw[hst];unfold uE;rw[if_pos h3]
    have hpl:(dL s k++[((⟨(s.sts.getD k st0).st,0⟩:Stp),lI (s.sts.getD k st0).st)]).length=(dL s k).length+1:=by rw[abg];rfl
    refine ei (.one 0 (.one 1 (.one 2 (.one 3 (.one 4 (.one 5 (.one 6 (.one 7 (.one 8 (.one 9 (.one 10 (.wr 11 .done)))))))))))) (ai (by kernel_rfl) ?_)
    refine ei _ (ai (oD) (ei (2*s.act+1+(((dL s k).length+1:Nat):Int)) (ei [] (ai (a4 (ai (fun _=>Or.inl rfl) (ai nof (Or.inl rfl)))) (ai ?_ (ai (by exact trivial) (ai (trivial) ?_)))))))
    ·show IntKind.i64.wrap (IntKind.i64.wrap (IntKind.i64.wrap (2*s.act)+1)+(((dL s k++[((⟨(s.sts.getD k st0).st,0⟩:Stp),lI (s.sts.getD k st0).st)]).length:Nat):Int))=_
     rw[hpl,hw2,wrI (n:=2*s.act+1) (by omega) (by omega),wrI (by omega) (by omega)]
    refine eX (acT) (⟨s.act,dL s k++[(⟨(s.sts.getD k st0).st,0⟩,lI (s.sts.getD k st0).st)],.val (.slice none 0 0),(s.sts.getD k st0).wt,iP 1,iP (2*s.act+1+(((dL s k).length+1:Nat):Int)),.val (.slice none 0 0),(⟨[],(s.sts.getD k st0).wt⟩,aaC (2*s.act+1+(((dL s k).length+1:Nat):Int)))⟩) [3,4,10,11] (a4 (ai rfl rfl)) (Or.inl rfl) (by exact (ai (ai rfl (iE (by simp only[zz,reduceCtorEq]))) (ai (ai rfl (ai rfl rfl)) (ai (ai rfl rfl) (ai rfl rfl))))) (by exact (ai (ai rfl (ai rfl (ai (ai rfl (fun _ _=>rfl)) (ai rfl rfl)))) (ai (ai rfl rfl) (ai (ai rfl (ai rfl (ai rfl (fun _ _=>rfl)))) (ai rfl (ai rfl (ai rfl (fun _ _=>rfl)))))))) (⟨⟨by show (dL s k++[((⟨(s.sts.getD k st0).st,0⟩:Stp),lI (s.sts.getD k st0).st)]).length≤1000;rw[hpl];omega,rfl,rfl⟩,fun h=>by cases h⟩) ?_
    refine ei (k+1) (ai (ai rfl rfl) (ai (ai (ai rfl (ai (ai rfl rfl) (ai (ai rfl rfl) (ai (ai (ai (fun _=>rfl) (aH (by omega))) rfl) (ai (ai (ai (ai nof rfl) rfl) (ai (ai (ai nof (ai rfl (fun _ _=>rfl))) rfl) (ai (ai rfl (ai rfl (ai ?_ ?_))) (ai (ai nof rfl) rfl)))) (ai (ai rfl (ai rfl (ai ?_ ?_))) trivial)))))) rfl) (ai (ai (iL (by omega)) trivial) (iM (by omega)))))
    all_goals rw[e]
    ·exact fun _ _=>rfl
    ·exact fun _ _=>rfl
   ·have e:dL s (k+1)=dL s k++[(⟨(s.sts.getD k st0).st,0⟩,lI (s.sts.getD k st0).st)]:=by rw[hst];unfold uE;rw[if_neg h3]
    refine ei (k+1) (ai (ai rfl rfl) (ai (ai (ai rfl (ai (ai rfl rfl) (ai (ai rfl rfl) (ai (ai (ai (fun _=>rfl) (aH (by omega))) rfl) (ai (ai (ai (ai nof rfl) rfl) (ai (ai (ai nof (ai rfl (fun _ _=>rfl))) rfl) (ai (ai rfl (ai rfl (ai ?_ ?_))) (ai (ai nof rfl) rfl)))) (ai (ai rfl (ai rfl (ai ?_ ?_))) trivial)))))) rfl) (ai (ai (iL (by omega)) trivial) (iM (by omega)))))
    all_goals rw[e]
    ·exact fun _ _=>rfl
    ·exact fun _ _=>rfl
  ·have ee:=aeN h1l
   refine ei _ (ai ((fF ag8 (s.sts.getD k st0).st ⟨hsm,hx0⟩ (r:=.agg [iP 3,iP 0,.seq (s.sts.getD k st0).st.length (xA (s.sts.getD k st0).st)]) (congrArg PV.agg ee))) (ei (()) (ei [] (ai (a4 (ai (fun _=>Or.inl rfl) (ai nof (Or.inl rfl)))) (ai (by exact (ai rfl (fun _ _=>rfl))) (ai trivial (ai (trivial) ?_)))))))
   refine eX (acT) (⟨s.act,dL s k,sK (s.sts.getD k st0).st,0,iP 3,iP 0,.seq (s.sts.getD k st0).st.length (xA (s.sts.getD k st0).st),(⟨(s.sts.getD k st0).st,0⟩,lI (s.sts.getD k st0).st)⟩) [3,4,7,8] (a4 (ai rfl rfl)) (Or.inl rfl) (by exact (ai (ai (ai rfl (fun _ _=>rfl)) rfl) (ai (ai rfl (ai rfl (ai rfl (fun _ _=>rfl)))) (ai (ai rfl rfl) (ai rfl rfl))))) (by exact (ai (ai rfl (ai rfl (ai (ai rfl (fun _ _=>rfl)) (ai rfl rfl)))) (ai (ai rfl rfl) (ai (ai rfl (ai rfl (ai rfl (fun _ _=>rfl)))) (ai rfl (ai rfl (ai rfl (fun _ _=>rfl)))))))) (⟨⟨by show (dL s k).length≤1000;omega,by show uX ⟨(s.sts.getD k st0).st,0⟩=_;unfold uX;rw[if_neg hne],ee⟩,fun h=>by cases h⟩) ?_
   refine ah (p:=0<(s.sts.getD k st0).wt) (au Iff.rfl) (fun h3=>?_) (fun h3=>?_)
   ·have e:dL s (k+1)=(dL s k++[(⟨(s.sts.getD k st0).st,0⟩,lI (s.sts.getD k st0).st)])++[(⟨[],(s.sts.getD k st0).wt⟩,aaC (2*s.act+1+(((dL s k).length+1:Nat):Int)))]:=by rw[hst];unfold uE;rw[if_pos h3]
    have hpl:(dL s k++[((⟨(s.sts.getD k st0).st,0⟩:Stp),lI (s.sts.getD k st0).st)]).length=(dL s k).length+1:=by rw[abg];rfl
    refine ei (.one 0 (.one 1 (.one 2 (.one 3 (.one 4 (.one 5 (.one 6 (.one 7 (.one 8 (.one 9 (.one 10 (.wr 11 .done)))))))))))) (ai (by kernel_rfl) ?_)
    refine ei _ (ai (oD) (ei (2*s.act+1+(((dL s k).length+1:Nat):Int)) (ei [] (ai (a4 (ai (fun _=>Or.inl rfl) (ai nof (Or.inl rfl)))) (ai ?_ (ai (by exact trivial) (ai (trivial) ?_)))))))
    ·show IntKind.i64.wrap (IntKind.i64.wrap (IntKind.i64.wrap (2*s.act)+1)+(((dL s k++[((⟨(s.sts.getD k st0).st,0⟩:Stp),lI (s.sts.getD k st0).st)]).length:Nat):Int))=_
     rw[hpl,hw2,wrI (n:=2*s.act+1) (by omega) (by omega),wrI (by omega) (by omega)]
    refine eX (acT) (⟨s.act,dL s k++[(⟨(s.sts.getD k st0).st,0⟩,lI (s.sts.getD k st0).st)],.val (.slice none 0 0),(s.sts.getD k st0).wt,iP 1,iP (2*s.act+1+(((dL s k).length+1:Nat):Int)),.val (.slice none 0 0),(⟨[],(s.sts.getD k st0).wt⟩,aaC (2*s.act+1+(((dL s k).length+1:Nat):Int)))⟩) [3,4,10,11] (a4 (ai rfl rfl)) (Or.inl rfl) (by exact (ai (ai rfl (iE (by simp only[zz,reduceCtorEq]))) (ai (ai rfl (ai rfl rfl)) (ai (ai rfl rfl) (ai rfl rfl))))) (by exact (ai (ai rfl (ai rfl (ai (ai rfl (fun _ _=>rfl)) (ai rfl rfl)))) (ai (ai rfl rfl) (ai (ai rfl (ai rfl (ai rfl (fun _ _=>rfl)))) (ai rfl (ai rfl (ai rfl (fun _ _=>rfl)))))))) (⟨⟨by show (dL s k++[((⟨(s.sts.getD k st0).st,0⟩:Stp),lI (s.sts.getD k st0).st)]).length≤1000;rw[hpl];omega,rfl,rfl⟩,fun h=>by cases h⟩) ?_
    refine ei (k+1) (ai (ai rfl rfl) (ai (ai (ai rfl (ai (ai rfl rfl) (ai (ai rfl rfl) (ai (ai (ai (fun _=>rfl) (aH (by omega))) rfl) (ai (ai (ai (ai nof rfl) rfl) (ai (ai (ai nof (ai rfl (fun _ _=>rfl))) rfl) (ai (ai rfl (ai rfl (ai ?_ ?_))) (ai (ai nof rfl) rfl)))) (ai (ai rfl (ai rfl (ai ?_ ?_))) trivial)))))) rfl) (ai (ai (iL (by omega)) trivial) (iM (by omega)))))
    all_goals rw[e]
    ·exact fun _ _=>rfl
    ·exact fun _ _=>rfl
   ·have e:dL s (k+1)=dL s k++[(⟨(s.sts.getD k st0).st,0⟩,lI (s.sts.getD k st0).st)]:=by rw[hst];unfold uE;rw[if_neg h3]
    refine ei (k+1) (ai (ai rfl rfl) (ai (ai (ai rfl (ai (ai rfl rfl) (ai (ai rfl rfl) (ai (ai (ai (fun _=>rfl) (aH (by omega))) rfl) (ai (ai (ai (ai nof rfl) rfl) (ai (ai (ai nof (ai rfl (fun _ _=>rfl))) rfl) (ai (ai rfl (ai rfl (ai ?_ ?_))) (ai (ai nof rfl) rfl)))) (ai (ai rfl (ai rfl (ai ?_ ?_))) trivial)))))) rfl) (ai (ai (iL (by omega)) trivial) (iM (by omega)))))
    all_goals rw[e]
    ·exact fun _ _=>rfl
    ·exact fun _ _=>rfl
 ·obtain rfl:k=s.sts.length:=by omega
  refine ah (p:=24<(dL s s.sts.length).length) (au (by omega)) (fun h4=>?_) (fun h4=>?_)
  ·have e:wC s=5:=by unfold wC;rw[if_neg (fun h=>h h1),if_pos h4]
   refine ai (ai (fun h=>absurd (show false=true from h) (by decide)) ?_) trivial
   show ak _ (ofRaw s)
   rw[ofRaw,e,if_neg (show ¬(5:Int)=0 by decide)]
   exact (ai (ai rfl (ai rfl (ai rfl rfl))) rfl)
  have e0:wC s=0:=by unfold wC;rw[if_neg (fun h=>h h1),if_neg h4]
  have hA:ofRaw s=.tup [afK s.act (dL s s.sts.length),iP 0]:=by unfold ofRaw;rw[if_pos e0]
  have hp0:=(hL s.sts.length (ahl _)).2
  clear hL
  generalize dL s s.sts.length=p at *
  refine ei (bg.inv { X:=Nat,up:=fun k=>[(71,.s (iA k))],uo:=fun k=>[⟨3,36,[.s (iA s.act),.s (.p false aco),.rw 89 2 p.length (fun j=>uX (p.getD j qc).1),ata p k]⟩],inv:=fun k=>k≤p.length∧(True),meas:=fun k=>p.length-k,x0:=0 }) ?_
  refine ai (ai (ai (by exact (a4 (ai rfl rfl))) (ai ?_ ?_)) rfl) (ai (ai (aeT _) ?_) ?_)
  ·exact (ai (ai (fun _=>rfl) (iE (by simp only[zz,reduceCtorEq];rfl))) rfl)
  ·exact (ai (ai (ai (ai nof rfl) rfl) (ai (ai (ai nof (ai rfl (fun _ _=>rfl))) rfl) (ai (ai rfl (ai rfl (ai rfl (fun _ _=>rfl)))) rfl))) trivial)
  ·trivial
  intro (k:Nat) ⟨hk,_⟩
  refine ah (p:=k<p.length) (au (by omega)) (fun h5=>?_) (fun h5=>?_)
  ·have hw1:IntKind.i64.wrap ((k:Int)+1)=((k+1:Nat):Int):=aH (by omega)
   refine ei (.one 0 (.one 1 (.one 2 (.one 4 (.one 5 (.one 6 (.one 7 (.one 8 (.one 9 (.one 11 (.one 12 (.one 13 (.one 14 (.alt 3 (.one 10 (.one 15 (.one 16 (.one 17 (.one 18 (.one 19 .done)))))) (.alt 10 (.one 3 (.one 15 (.one 16 (.one 17 (.one 18 (.one 19 .done)))))) .stop))))))))))))))) (ai (by kernel_rfl) ?_)
   refine ai (by show ¬(p.length:Int)=0;omega) ?_
   refine ai (ai (abw _) (by show (k:Int)<(p.length:Int);omega)) ?_
   refine ai (by show k<p.length;exact h5) ?_
   refine ai ?_ (ai ?_ trivial)
   ·refine ai (mxL (n:=k+1) (by omega) (by decide)) (ai (fun j hj=>by
     have hj:j<1:=hj
     obtain rfl:j=0:=by omega
     rfl) ?_)
    refine ei (k+1) (ai (ai rfl rfl) (ai (ai (ai rfl (ai (ai rfl rfl) (ai (ai rfl rfl) (ai (ai (ai (fun _=>rfl) (aH (by omega))) rfl) (ai (ai (ai (ai nof rfl) rfl) (ai (ai (ai nof (ai rfl (fun _ _=>rfl))) rfl) (ai (ai rfl (ai rfl (ai rfl (fun _ _=>rfl)))) (ai rfl (ai rfl (ai rfl ?_)))))) trivial))))) rfl) (ai (ai (iL (by omega)) trivial) (iM (by omega)))))
    refine ajl p k ?_
    show [PV.seq 1 (bn 1 [iP (k:Int)]),.seq 1 (bn 1 [iP ((IntKind.i64.wrap ((k:Int)+1)).tmod (p.length:Int))]),(p.getD k qc).2.1,(p.getD k qc).2.2.1,(p.getD k qc).2.2.2]=_
    rw[hw1];rfl
   ·refine ai (mxL (n:=k+1) (by omega) (by decide)) (ai (fun j hj=>by
     have hj:j<1:=hj
     obtain rfl:j=0:=by omega
     rfl) ?_)
    refine ei (k+1) (ai (ai rfl rfl) (ai (ai (ai rfl (ai (ai rfl rfl) (ai (ai rfl rfl) (ai (ai (ai (fun _=>rfl) (aH (by omega))) rfl) (ai (ai (ai (ai nof rfl) rfl) (ai (ai (ai nof (ai rfl (fun _ _=>rfl))) rfl) (ai (ai rfl (ai rfl (ai rfl (fun _ _=>rfl)))) (ai rfl (ai rfl (ai rfl ?_)))))) trivial))))) rfl) (ai (ai (iL (by omega)) trivial) (iM (by omega)))))
    refine ajl p k ?_
    show [PV.seq 1 (bn 1 [iP (k:Int)]),.seq 1 (bn 1 [iP ((IntKind.i64.wrap ((k:Int)+1)).tmod (p.length:Int))]),(p.getD k qc).2.1,(p.getD k qc).2.2.1,(p.getD k qc).2.2.2]=_
    rw[hw1];rfl
  ·obtain rfl:k=p.length:=by omega
   refine ai (ai (fun h=>absurd (show false=true from h) (by decide)) ?_) trivial
   show ak _ (ofRaw s)
   rw[hA]
   exact (ai (ai rfl (ai (ai rfl (fun _ _=>rfl)) (ai (ai rfl (fun _ _=>rfl)) (ai rfl (fun _ _=>rfl))))) rfl)
theorem apY {m:List Bool}:∀{l:List Int} {k:Int},0≤k→(∀x∈l,0≤x)→gM (bG m l false) k=(gM m k&&!qb l k):=by
 intro l
 induction l generalizing m with
 | nil=>intro k _ _;simp[bG,qb]
 | cons x l ih=>
  intro k hk hl
  have hx:0≤x:=hl x (by simp)
  show gM (bG (m.set x.toNat false) l false) k=_
  rw[ih hk fun y hy=>hl y (by simp[hy])]
  have h1:gM (m.set x.toNat false) k=(gM m k&&!(k==x)):=by
   unfold gM
   rw[abl,abl,atM]
   by_cases e:k=x
   ·subst e
    rw[if_pos rfl]
    by_cases h:k.toNat<m.length
    ·rw[if_pos h];simp
    ·rw[if_neg h];simp
   ·rw[if_neg (by omega),beq_eq_false_iff_ne.2 e];simp
  rw[h1]
  unfold qb
  rw[at5]
  cases gM m k<;>cases (k==x)<;>simp
def nonneg (l:List Int):Prop:=∀x∈l,0≤x
theorem xE {c:aN} {k:Int} (hk:0≤k):∀{out:List Int} {m:List Bool},(∀i∈out,nonneg (lQ c i))→gM (dF c m out) k=(gM m k&&out.all fun i=>!qb (lQ c i) k)
 | [],m,_=>by simp[dF]
 | i :: out,m,h=>by
  show gM (dF c (bG m (c.trs.getD i.toNat aD).fr false) out) k=_
  rw[xE hk (fun j hj=>h j (by simp[hj])),apY (l:=(c.trs.getD i.toNat aD).fr) hk (h i (by simp)),auk,Bool.and_assoc];rfl
theorem aoT {c:aN} {m:List Bool} {out l:List Int} (hl:nonneg l) (h:∀i∈out,nonneg (lQ c i)) (ha:allM m l=true):allM (dF c m out) l=out.all fun i=>!nS l (lQ c i):=by
 unfold allM at ha ⊢
 rw[arH,ajw,ajw]
 rw[ajw] at ha
 constructor
 ·intro h1 i hi
  rw[aoF]
  unfold nS
  rw[atg]
  intro k hk
  have h2:=h1 k hk
  rw[xE (hl k hk) h,agD,ajw] at h2
  have:=h2.2 i hi
  rw[aoF] at this
  rw[this];decide
 ·intro h1 k hk
  rw[xE (hl k hk) h,ha k hk,aiC,ajw]
  intro i hi
  have h2:=h1 i hi
  rw[aoF] at h2 ⊢
  unfold nS at h2
  rw[atg] at h2
  simpa using h2 k hk
theorem ae9 {c:aN} {m:List Bool}:∀(l out:List Int),(∀i∈l,nonneg (lQ c i)∧allM m (lQ c i)=true)→(∀i∈out,nonneg (lQ c i)) →
  l.foldl (kH c) (dF c m out,out)=(dF c m (l.foldl (rZ c) out),l.foldl (rZ c) out)
 | [],out,_,_=>rfl
 | i :: l,out,h1,h2=>by
  obtain ⟨g1,g2⟩:=h1 i (by simp)
  have e:=aoT (c:=c) (m:=m) (out:=out) g1 h2 g2
  have hs:kH c (dF c m out,out) i=(dF c m (rZ c out i),rZ c out i):=by
   unfold kH rZ
   show (if allM (dF c m out) (lQ c i)=true then _ else _)=_
   rw[e]
   by_cases hc:(out.all fun k=>!nS (lQ c i) (lQ c k))=true
   ·rw[if_pos hc,if_pos hc,abu]
   ·rw[if_neg hc,if_neg hc]
  rw[ati,hs,ati]
  refine ae9 l _ (fun j hj=>h1 j (by simp[hj])) fun j hj=>?_
  unfold rZ at hj
  split at hj
  ·rcases ahv.1 hj with hj | hj
   ·exact h2 j hj
   ·simp at hj;subst hj;exact g1
  ·exact h2 j hj
theorem aaE {z:List Bool} (b:Bool):∀{l:List Int} {a:List Bool},eP a.length l→bG (a++z) l b=bG a l b++z
 | [],a,_=>rfl
 | x :: l,a,h=>by
  have hx:=h x (by simp)
  show bG ((a++z).set x.toNat b) l b=bG (a.set x.toNat b) l b++z
  rw[List.set_append_left _ _ (by omega)]
  exact aaE b (by rw[atG];exact fun y hy=>h y (by simp[hy]))
theorem adi {c:aN} {z:List Bool}:∀{F:List Int} {a:List Bool},(∀i∈F,eP a.length (c.trs.getD i.toNat aD).fr)→dF c (a++z) F=dF c a F++z
 | [],a,_=>rfl
 | i :: F,a,h=>by
  show dF c (bG (a++z) (c.trs.getD i.toNat aD).fr false) F=dF c (bG a (c.trs.getD i.toNat aD).fr false) F++z
  rw[aaE _ (h i (by simp))]
  exact adi (by rw[bZ];exact fun y hy=>h y (by simp[hy]))
theorem afb {c:aN} {z:List Bool}:∀{F:List Int} {a:List Bool},(∀i∈F,eP a.length (c.trs.getD i.toNat aD).to)→eH c (a++z) F=eH c a F++z
 | [],a,_=>rfl
 | i :: F,a,h=>by
  show eH c (bG (a++z) (c.trs.getD i.toNat aD).to true) F=eH c (bG a (c.trs.getD i.toNat aD).to true) F++z
  rw[aaE _ (h i (by simp))]
  exact afb (by rw[bZ];exact fun y hy=>h y (by simp[hy]))
theorem alx {c:aN} {a v:List Bool} (h0:fT c a v=0):(pK c a v).2=mG c a v∧(eH c (pK c a v).1 (pK c a v).2).take c.sts.length=zo c a (mG c a v):=by
 obtain ⟨g1,-⟩:=qQ h0
 obtain ⟨hc,hal,-⟩:=iQ g1
 have hmem:∀i∈dw (pE c a v) c.trs.length,(eP c.sts.length (c.trs.getD i.toNat aD).fr∧eP c.sts.length (c.trs.getD i.toNat aD).to)∧allM a (lQ c i)=true:=fun i hi=>by
  obtain ⟨j,h1,h2,h3⟩:=vo hi
  subst h2
  obtain ⟨q1,q2,-⟩:=jJ hc h1
  unfold pE at h3
  rw[agD] at h3
  exact ⟨⟨by rw[aq5];exact q1.2,by rw[aq5];exact q2.2⟩,by unfold lQ;rw[aq5];exact h3.1⟩
 have hF:pK c a v=(dF c (bN a) (mG c a v),mG c a v):=by
  have:=ae9 (c:=c) (m:=bN a) (dw (pE c a v) c.trs.length) [] (fun i hi=>⟨fun x hx=>((hmem i hi).1.1 x hx).1,by rw[abT];exact (hmem i hi).2⟩) (by simp)
  exact this
 have hin:∀i∈mG c a v,i∈dw (pE c a v) c.trs.length:=fun i hi=>by
  rcases (qR c (dw (pE c a v) c.trs.length) []).2 i hi with h | h
  ·simp at h
  ·exact h
 rw[hF]
 refine ⟨rfl,?_⟩
 show (eH c (dF c (bN a) (mG c a v)) (mG c a v)).take c.sts.length=_
 unfold bN zo
 rw[adi (fun i hi=>by rw[hal];exact (hmem i (hin i hi)).1.1),afb (fun i hi=>by rw[p8,hal];exact (hmem i (hin i hi)).1.2)]
 rw[List.take_left' (by rw[rY,p8,hal])]
theorem aks (c:aN) (a v:List Bool):vI c a v=pG c a v:=by
 unfold vI pG
 by_cases h:fT c a v=0
 ·obtain ⟨h1,h2⟩:=alx h
  rw[if_pos h,if_pos h,h2,h1]
 ·rw[if_neg h,if_neg h]
def iy:List Bool→List Bool→Int
 | x :: a,y :: b=>if x=y then iy a b else if y then -1 else 1
 | _,_=>0
theorem ae5 {a b:List Bool} (hl:a.length=b.length):∀{k:Nat},k≤a.length→a.take k=b.take k→iy a b=iy (a.drop k) (b.drop k)
 | 0,_,_=>rfl
 | k+1,hk,h=>by
  have h1:a.take k=b.take k:=by
   have:=congrArg (List.take k) h
   rwa [atW,atW,atF (by omega)] at this
  rw[ae5 hl (k:=k) (by omega) h1]
  have ha:a.drop k=a.getD k false :: a.drop (k+1):=by
   rw[aoN (by omega),abl,abr (by omega)];rfl
  have hb:b.drop k=b.getD k false :: b.drop (k+1):=by
   rw[aoN (by omega),abl,abr (by omega)];rfl
  have e:a.getD k false=b.getD k false:=by
   have:=congrArg (fun l=>l.getD k false) h
   simpa [abl,alh] using this
  rw[ha,hb,iy,if_pos e]
theorem apu {a b:List Bool} (hl:a.length=b.length) {k:Nat} (hk:k<a.length) (h:a.take k=b.take k) (hn:a.getD k false≠b.getD k false):iy a b=if b.getD k false then -1 else 1:=by
 rw[ae5 hl (k:=k) (by omega) h]
 have ha:a.drop k=a.getD k false :: a.drop (k+1):=by
  rw[aoN (by omega),abl,abr (by omega)];rfl
 have hb:b.drop k=b.getD k false :: b.drop (k+1):=by
  rw[aoN (by omega),abl,abr (by omega)];rfl
 rw[ha,hb,iy,if_neg hn]
theorem ai1 {a b:List Bool} (h:a=b):iy a b=0:=by
 subst h
 induction a with
 | nil=>rfl
 | cons x a ih=>rw[iy,if_pos rfl,ih]
def aog (a b:List Bool):Bool:=iy a b==-1
def sQ (n:Nat):List Bool:=(List.replicate n false).set 0 true
abbrev Mk := List Bool × List Int
def aA:Mk:=([],[])
def sD (l:List Mk) (m:List Bool):Bool:=l.any fun y=>decide (y.1=m)
def ql (x y:Int):Int:=if x<y then -1 else if y<x then 1 else 0
theorem agA:aG Tryz.prog 163 (bM (fun x:Int=>[iA x]) (fun _=>True) (fun _=>bP false)):=by
 refine aU (Tb:=tab) mixed ay Tryz.func163 rfl rfl ?_
 rintro (x:Int) hpre
 refine ai (ai rfl (ai rfl rfl)) ?_
 refine ai (ai (fun _=>trivial) ?_) trivial
 show ak _ (bP false)
 rw[show false=(x != x) by simp]
 exact rfl
theorem ap1:aG Tryz.prog 126 (bM (fun a:Int×Int=>[iA a.1,iA a.2]) (fun _=>True) (fun a=>iP (ql a.1 a.2))):=by
 refine aU (Tb:=tab) mixed ay Tryz.func126 rfl rfl ?_
 rintro (a:Int×Int) hpre
 refine ai (ai rfl (ai rfl rfl)) ?_
 refine ei _ (ai (agA) (ei (a.1) (ei [] (ai (a4 (ai (fun _=>Or.inl rfl) (ai nof (Or.inl rfl)))) (ai (by exact rfl) (ai trivial (ai (trivial) ?_)))))))
 refine ei _ (ai (agA) (ei (a.2) (ei [] (ai (a4 (ai (fun _=>Or.inl rfl) (ai nof (Or.inl rfl)))) (ai (by exact rfl) (ai trivial (ai (trivial) ?_)))))))
 refine ah (p:=a.1<a.2) (au (by omega)) (fun h1=>?_) (fun h1=>?_)
 ·refine ai (ai (fun _=>trivial) ?_) trivial
  show ak _ (iP (ql a.1 a.2))
  rw[ql,if_pos h1]
  exact rfl
 refine ah (p:=a.2<a.1) (au (by omega)) (fun h2=>?_) (fun h2=>?_)
 ·refine ai (ai (fun _=>trivial) ?_) trivial
  show ak _ (iP (ql a.1 a.2))
  rw[ql,if_neg h1,if_pos h2]
  exact rfl
 ·refine ai (ai (fun _=>trivial) ?_) trivial
  show ak _ (iP (ql a.1 a.2))
  rw[ql,if_neg h1,if_neg h2]
  exact rfl
def cmpL:List Int→List Int→Int
 | [],[]=>0
 | [],_ :: _=>-1
 | _ :: _,[]=>1
 | x :: a,y :: b=>if ql x y=0 then cmpL a b else ql x y
theorem alJ {x y:Int} (h:ql x y=0):x=y:=by
 unfold ql at h
 split at h
 ·cases h
 ·split at h
  ·cases h
  ·omega
theorem afl {a b:List Int}:∀{k:Nat},k≤a.length→k≤b.length→a.take k=b.take k→cmpL a b=cmpL (a.drop k) (b.drop k)
 | 0,_,_,_=>rfl
 | k+1,hk,hk2,h=>by
  have h1:a.take k=b.take k:=by
   have:=congrArg (List.take k) h
   rwa [atW,atW,atF (by omega)] at this
  rw[afl (k:=k) (by omega) (by omega) h1]
  have ha:a.drop k=a.getD k 0 :: a.drop (k+1):=by
   rw[aoN (by omega),abl,abr (by omega)];rfl
  have hb:b.drop k=b.getD k 0 :: b.drop (k+1):=by
   rw[aoN (by omega),abl,abr (by omega)];rfl
  have e:a.getD k 0=b.getD k 0:=by
   have:=congrArg (fun l=>l.getD k 0) h
   simpa [abl,alh] using this
  rw[ha,hb,cmpL,if_pos (by rw[e];unfold ql;rw[if_neg (by omega),if_neg (by omega)])]
theorem aa2:aG Tryz.prog 64 (bM (fun a:List Int×List Int=>[isA a.1,isA a.2]) (fun a=>a.1.length≤1000000) (fun a=>iP (cmpL a.1 a.2))):=by
 refine aU (Tb:=tab) mixed ay Tryz.func64 rfl rfl ?_
 rintro (a:List Int×List Int) hpre
 refine ai (ai rfl (ai rfl rfl)) ?_
 have hl:a.1.length≤1000000:=hpre
 refine ei (bg.inv { X:=Nat,up:=fun k=>[(11,.s (iA k))],uo:=fun k=>[],inv:=fun k=>k≤a.1.length∧(k≤a.2.length∧a.1.take k=a.2.take k),meas:=fun k=>a.1.length-k,x0:=0 }) ?_
 refine ai (ai (ai (by exact (a4 (ai rfl rfl))) (ai (by exact (ai (ai (fun _=>rfl) (iE (by simp only[zz,reduceCtorEq];rfl))) rfl)) (by exact trivial))) rfl) (ai (ai (aeT _) ?_) ?_)
 ·exact ⟨aeT _,rfl⟩
 intro (k:Nat) ⟨hk,hk2,hall⟩
 have hD:=afl hk hk2 hall
 refine ah (p:=k<a.1.length) (au (by omega)) (fun h1=>?_) (fun h1=>?_)
 ·refine ai (ai (abw _) (iN (n:=a.1.length) (by omega))) (ai rfl ?_)
  have ha:a.1.drop k=a.1.getD k 0 :: a.1.drop (k+1):=by
   rw[aoN (by omega),abl,abr (by omega)];rfl
  refine ah (p:=a.2.length≤k) (cO (by omega)) (fun h2=>?_) (fun h2=>?_)
  ·refine ai (ai (fun _=>trivial) ?_) trivial
   show ak _ (iP (cmpL a.1 a.2))
   rw[show cmpL a.1 a.2=1 by rw[hD,ha,atB h2];rfl]
   exact rfl
  have hb:a.2.drop k=a.2.getD k 0 :: a.2.drop (k+1):=by
   rw[aoN (by omega),abl,abr (by omega)];rfl
  refine ai (ai (abw _) (iN (n:=a.2.length) (by omega))) (ai rfl ?_)
  refine ei _ (ai (ap1) (ei ((a.1.getD k 0,a.2.getD k 0)) (ei [] (ai (a4 (ai (fun _=>Or.inl rfl) (ai nof (Or.inl rfl)))) (ai (by exact (ai (iE (by simp only[zz,reduceCtorEq])) (iE (by simp only[zz,reduceCtorEq])))) (ai trivial (ai (trivial) ?_)))))))
  refine aZ (p:=ql (a.1.getD k 0) (a.2.getD k 0)=0) (bI (by dsimp only;omega)) (fun h3=>?_) (fun h3=>?_)
  ·refine ai (ai (fun _=>trivial) ?_) trivial
   show ak _ (iP (cmpL a.1 a.2))
   rw[show cmpL a.1 a.2=ql (a.1.getD k 0) (a.2.getD k 0) by rw[hD,ha,hb,cmpL,if_neg h3]]
   exact rfl
  refine ei (k+1) (ai (ai rfl rfl) (ai (ai (ai rfl (ai (ai rfl rfl) (ai (ai rfl rfl) (ai (ai (ai (fun _=>rfl) (aH (by omega))) rfl) trivial)))) rfl) (ai (ai (iL (by omega)) (ai ?_ ?_)) (iM (by omega)))))
  ·show k+1≤a.2.length;omega
  ·exact xD 0 h1 (by omega) hall (alJ h3)
 ·obtain rfl:k=a.1.length:=by omega
  rw[atB (ahl _)] at hD
  refine ah (p:=a.1.length<a.2.length) (au (by omega)) (fun h4=>?_) (fun h4=>?_)
  ·have hb:a.2.drop a.1.length=a.2.getD a.1.length 0 :: a.2.drop (a.1.length+1):=by
    rw[aoN (by omega),abl,abr (by omega)];rfl
   refine ai (ai (fun _=>trivial) ?_) trivial
   show ak _ (iP (cmpL a.1 a.2))
   rw[show cmpL a.1 a.2=-1 by rw[hD,hb];rfl]
   exact rfl
  ·refine ai (ai (fun _=>trivial) ?_) trivial
   show ak _ (iP (cmpL a.1 a.2))
   rw[show cmpL a.1 a.2=0 by rw[hD,atB (by omega)];rfl]
   exact rfl
def y8 (c:aN) (i:Nat):jK:=c.trs.getD i aD
def aC (c:aN) (l:List Mk) (a i:Nat):Mk:=(nU (l.getD a aA).1 (y8 c i),(l.getD a aA).2++[(i:Int)])
def adds (c:aN) (l:List Mk) (a i:Nat):Bool:=allM (l.getD a aA).1 (y8 c i).fr&&!sD l (aC c l a i).1
def kG (c:aN) (l:List Mk) (a i:Nat):List Mk:=if adds c l a i then l++[aC c l a i] else l
def fQ (c:aN) (l:List Mk) (a:Nat):Nat→List Mk
 | 0=>l
 | k+1=>kG c (fQ c l a k) a k
def qG (c:aN):Nat→List Mk→Nat→Option (List Mk)
 | 0,l,a=>some l
 | f+1,l,a=>if l.length≤a then some l else if 16384<(fQ c l a c.trs.length).length then none else qG c f (fQ c l a c.trs.length) (a+1)
def mk1 (c:aN):List Mk:=[(sQ c.sts.length,[])]
def u6 (c:aN):Option (List Mk):=qG c 16385 (mk1 c) 0
theorem afo (c:aN) (l:List Mk) (a i:Nat):(∃t,kG c l a i=l++t)∧(kG c l a i).length≤l.length+1:=by
 unfold kG
 split
 ·exact ⟨⟨_,rfl⟩,by simp⟩
 ·exact ⟨⟨[],(aqH _).symm⟩,by omega⟩
theorem alm (c:aN) (l:List Mk) (a:Nat):∀{j k:Nat},j≤k→(fQ c l a j).length≤(fQ c l a k).length:=by
 intro j k h
 induction k with
 | zero=>
  have:j=0:=by omega
  subst this;exact ahl _
 | succ k ih=>
  by_cases e:j=k+1
  ·subst e;exact ahl _
  ·have h1:=ih (by omega)
   obtain ⟨⟨t,ht⟩,_⟩:=afo c (fQ c l a k) a k
   have:(fQ c l a (k+1)).length=(fQ c l a k).length+t.length:=by
    show (kG c (fQ c l a k) a k).length=_
    rw[ht,abg]
   omega
theorem uF (c:aN) (l:List Mk) (a:Nat):∀k,∃t,fQ c l a k=l++t
 | 0=>⟨[],(aqH _).symm⟩
 | k+1=>by
  obtain ⟨t,ht⟩:=uF c l a k
  obtain ⟨⟨t2,h2⟩,_⟩:=afo c (fQ c l a k) a k
  exact ⟨t++t2,by show kG c (fQ c l a k) a k=_;rw[h2,ht,atu]⟩
def oF (c:aN) (l:List Mk):Prop:=∀y∈l,y.1.length=c.sts.length∧eP c.trs.length y.2
theorem ala {c:aN} {l:List Mk} {a i:Nat} (h:oF c l) (ha:a<l.length) (hi:i<c.trs.length):oF c (l++[aC c l a i]):=by
 intro y hy
 rcases ahv.1 hy with hy | hy
 ·exact h y hy
 ·simp only[aiz] at hy
  subst hy
  have hg:=h _ (aeJ (bJ aA ha))
  refine ⟨by show (nU _ _).length=_;unfold nU;rw[bZ,bZ];exact hg.1,fun x hx=>?_⟩
  rcases ahv.1 hx with hx | hx
  ·exact hg.2 x hx
  ·simp only[aiz] at hx;subst hx;omega
theorem good_step {c:aN} {l:List Mk} {a i:Nat} (h:oF c l) (ha:a<l.length) (hi:i<c.trs.length):oF c (kG c l a i):=by
 unfold kG
 split
 ·exact ala h ha hi
 ·exact h
theorem good_row {c:aN} {l:List Mk} {a:Nat} (h:oF c l) (ha:a<l.length):∀{k:Nat},k≤c.trs.length→oF c (fQ c l a k)
 | 0,_=>h
 | k+1,hk=>good_step (good_row h ha (by omega)) (by obtain ⟨t,ht⟩:=uF c l a k;rw[ht,abg];omega) (by omega)
theorem agv (c:aN):oF c (mk1 c):=by
 intro y hy
 simp only[mk1,aiz] at hy
 subst hy
 exact ⟨by show (sQ _).length=_;unfold sQ;rw[atG,ato],fun x hx=>by simp at hx⟩
theorem ank {c:aN} {f:Nat} {l:List Mk} {a:Nat} (h:l.length≤a):qG c f l a=some l:=by
 cases f with
 | zero=>rfl
 | succ f=>rw[qG,if_pos h]
theorem anr {c:aN} {f:Nat} {l:List Mk} {a k:Nat} (ha:a<l.length) (hk:k≤c.trs.length) (h:16384<(fQ c l a k).length):qG c (f+1) l a=none:=by
 have:=alm c l a hk
 rw[qG,if_neg (by omega),if_pos (by omega)]
theorem anM {c:aN} {f:Nat} {l:List Mk} {a:Nat} (ha:a<l.length) (h:(fQ c l a c.trs.length).length≤16384):qG c (f+1) l a=qG c f (fQ c l a c.trs.length) (a+1):=by
 rw[qG,if_neg (by omega),if_neg (by omega)]
theorem aep {u u' v v':PV} (h1:ig u u') (h2:ig v v'):bR [u,v] [u',v']:=by
 refine ⟨rfl,fun k s s' hs hs'=>?_⟩
 match k with
 | 0=>cases hs;cases hs';exact h1
 | 1=>cases hs;cases hs';exact h2
 | k+2=>simp at hs
theorem anS {n:Nat} {f:Nat→List PV} {l:List Int} (hn:n=l.length) (hf:∀k,k<n→f k=[iP (l.getD k 0)]):ig (.seq n f) (iV l):=by
 subst hn
 refine .seq _ _ _ (fun j hj=>by rw[hf j hj]) fun j k s s' hj hs hs'=>?_
 rw[hf j hj] at hs
 have hs':[iP (l.getD j 0)][k]?=some s':=hs'
 rw[hs] at hs';cases hs';exact .refl _
theorem jV {c:aN} {l:List Mk} {a:Nat} (ha:a<l.length) (k:Nat):(fQ c l a k).getD a aA=l.getD a aA:=by
 obtain ⟨t,ht⟩:=uF c l a k
 rw[ht,abl,abl,afs ha]
def aay (n:Nat) (l:List Mk):Prop:=∀y∈l,y.2.length≤n
theorem adK {c:aN} {l:List Mk} {a:Nat} (ha:a<l.length) (h:aay a l):∀k,aay (a+1) (fQ c l a k)
 | 0=>fun y hy=>Nat.le_succ_of_le (h y hy)
 | k+1=>by
  have ih:=adK (c:=c) ha h k
  show aay (a+1) (kG c (fQ c l a k) a k)
  unfold kG
  split
  ·intro y hy
   rcases ahv.1 hy with hy | hy
   ·exact ih y hy
   ·simp only[aiz] at hy
    subst hy
    show (((fQ c l a k).getD a aA).2++[(k:Int)]).length≤a+1
    rw[jV ha,abg]
    have:=h _ (aeJ (bJ aA ha))
    show (l.getD a aA).2.length+1≤a+1
    omega
  ·exact ih
def toC (x:Ex):C3:=(iP x.op,iP x.idx,if x.op=1 then .val (.slice none 0 0) else .seq x.args.length (fun k=>uG (x.args.getD k bV).idx))
theorem apA (n:Int):aaC n=toC (vT n):=rfl
theorem ajx (l:List Sk):lI l=toC (af6 l):=by
 match l with
 | [y]=>rfl
 | []=>
  show (iP 3,iP 0,PV.seq 0 (xA []))=(iP 3,iP 0,PV.seq 0 (fun k=>uG (([]:List Ex).getD k bV).idx))
  exact congrArg (fun f:Nat→List PV=>((iP 3,iP 0,PV.seq 0 f):C3)) (funext fun k=>by cases k<;>rfl)
 | a :: b :: l=>
  show (iP 3,iP 0,PV.seq (a :: b :: l).length (xA (a :: b :: l)))=(iP 3,iP 0,PV.seq ((a :: b :: l).map fun y=>vT (mM y)).length (fun k=>uG (((a :: b :: l).map fun y=>vT (mM y)).getD k bV).idx))
  rw[aot]
  refine congrArg (fun f:Nat→List PV=>((iP 3,iP 0,PV.seq (a :: b :: l).length f):C3)) (funext fun k=>?_)
  show uG (mM ((a :: b :: l).getD k bB))=_
  rw[abl,abl,ajv]
  cases (a :: b :: l)[k]?<;>rfl
def okX (x:Ex):Prop:=(x.op=1∧x.args=[])∨(x.op=3∧∀y∈x.args,y.op=1∧y.args=[])
theorem ajC (n:Int):okX (vT n):=.inl ⟨rfl,rfl⟩
theorem aiT (l:List Sk):okX (af6 l):=by
 match l with
 | [y]=>exact .inl ⟨rfl,rfl⟩
 | []=>exact .inr ⟨rfl,fun y hy=>by simp[af6] at hy⟩
 | a :: b :: l=>
  refine .inr ⟨rfl,fun y hy=>?_⟩
  obtain ⟨z,_,rfl⟩:=atf.1 hy
  exact ⟨rfl,rfl⟩
abbrev SX := Stp × Ex
def sx0:SX:=(st0,vT 0)
def ahm (act:Int) (p:List SX) (x:Stp):List SX:=
 if 0<x.wt then (p++[(⟨x.st,0⟩,af6 x.st)])++[(⟨[],x.wt⟩,vT (2*act+1+((p.length+1:Nat):Int)))] else p++[(⟨x.st,0⟩,af6 x.st)]
def amU (s:mO):List SX:=s.sts.foldl (ahm s.act) [(⟨[],0⟩,vT (2*s.act))]
def aei (q:SX):SC:=(q.1,toC q.2)
theorem anj (s:mO):dL s s.sts.length=(amU s).map aei:=by
 have key:∀(l:List Stp) (p:List SX),l.foldl (uE s.act) (p.map aei)=(l.foldl (ahm s.act) p).map aei:=by
  intro l
  induction l with
  | nil=>intro p;rfl
  | cons x l ih=>
   intro p
   rw[ati,ati,←ih]
   congr 1
   unfold uE ahm
   rw[aot]
   split
   ·rw[asz,asz,ajx,apA];rfl
   ·rw[asz,ajx];rfl
 have:=key s.sts [(⟨[],0⟩,vT (2*s.act))]
 unfold dL
 rw[af0]
 exact this
theorem ap0 (s:mO):∀q∈amU s,okX q.2:=by
 have key:∀(l:List Stp) (p:List SX),(∀q∈p,okX q.2)→∀q∈l.foldl (ahm s.act) p,okX q.2:=by
  intro l
  induction l with
  | nil=>intro p h;exact h
  | cons x l ih=>
   intro p h
   rw[ati]
   refine ih _ fun q hq=>?_
   unfold ahm at hq
   split at hq
   ·rcases ahv.1 hq with hq | hq
    ·rcases ahv.1 hq with hq | hq
     ·exact h q hq
     ·simp only[aiz] at hq;subst hq;exact aiT _
    ·simp only[aiz] at hq;subst hq;exact ajC _
   ·rcases ahv.1 hq with hq | hq
    ·exact h q hq
    ·simp only[aiz] at hq;subst hq;exact aiT _
 exact key s.sts _ fun q hq=>by simp only[aiz] at hq;subst hq;exact ajC _
def ak0:List UInt8:=[115,116,97,114,116]
def agc (p:List SX) (k:Nat):jK:=⟨[(k:Int)],[toN k p.length],(p.getD k sx0).2⟩
def chX (act:Int) (p:List SX):aN:=⟨act,[ak0],p.map (·.1),(List.range p.length).map (agc p)⟩
def ofC (s:mO):aN:=if wC s=0 then chX s.act (amU s) else ⟨0,[],[],[]⟩
theorem bK {a b:PV} {l m:List PV} (h:ig a b) (hl:bR l m):bR (a :: l) (b :: m):=by
 refine ⟨by simp[hl.1],fun k s s' hs hs'=>?_⟩
 match k with
 | 0=>cases hs;cases hs';exact h
 | k+1=>exact hl.2 k s s' (by simpa using hs) (by simpa using hs')
theorem nE:bR [] []:=⟨rfl,fun k s s' hs _=>by simp at hs⟩
theorem gP {n:Nat} {f g:Nat→List PV} (h:∀k,k<n→bR (f k) (g k)):ig (.seq n f) (.seq n g):=
 .seq n f g (fun j hj=>(h j hj).1) fun j k s s' hj hs hs'=>(h j hj).2 k s s' hs hs'
theorem wQ {l m:List PV} (h:bR l m):ig (.agg l) (.agg m):=.agg l m h.1 h.2
theorem aiR {l m:List PV} (h:bR l m):ig (.tup l) (.tup m):=.tup l m h.1 h.2
theorem amv (x:Int):ig (.seq 1 (bn 1 [iP x])) (iV [x]):=anS rfl fun j hj=>by
 obtain rfl:j=0:=by omega
 rfl
theorem aqn {x:Ex} (h:okX x):bR (y5 (toC x)) (vD x):=by
 refine bK (.refl _) (bK (.refl _) (bK ?_ nE))
 show ig (if x.op=1 then .val (.slice none 0 0) else .seq x.args.length (fun k=>uG (x.args.getD k bV).idx)) (.seq x.args.length (exF x.args))
 rcases h with ⟨h1,h2⟩ | ⟨h1,h2⟩
 ·rw[if_pos h1,h2];exact .nil _
 ·rw[if_neg (by rw[h1];decide)]
  refine gP fun k hk=>?_
  have hy:=h2 _ (aeJ (bJ bV hk))
  show bR (uG (x.args.getD k bV).idx) (exF x.args k)
  unfold exF uG
  rw[hy.1,hy.2]
  exact bK (.refl _) (bK (.refl _) (bK (.nil _) nE))
theorem aqW:ig aco (ssP [ak0]):=gP fun k hk=>by
 obtain rfl:k=0:=by omega
 exact bR.rfl' _
theorem arB (x:Stp):bR (uX x) (stK x):=by
 refine bK ?_ (bK (.refl _) nE)
 split
 ·rename_i h;rw[h];exact .nil _
 ·exact .refl _
theorem agL (p:List SX) {k:Nat} (hk:k<p.length):(p.map aei).getD k qc=aei (p.getD k sx0):=by
 rw[abl,abl,ajv,abr hk];rfl
theorem am3 (act:Int) {p:List SX} (h:∀q∈p,okX q.2):ig (afK act (p.map aei)) (vG (chX act p)):=by
 unfold afK vG chK chX
 rw[aot]
 refine wQ (bK (.refl _) (bK aqW (bK ?_ (bK ?_ nE))))
 ·show ig _ (.seq (p.map (·.1)).length (fun k=>stK ((p.map (·.1)).getD k st0)))
  rw[aot]
  refine gP fun k hk=>?_
  rw[agL p hk]
  have:(p.map (·.1)).getD k st0=(p.getD k sx0).1:=by
   rw[abl,abl,ajv,abr hk];rfl
  rw[this]
  exact arB _
 ·show ig _ (.seq ((List.range p.length).map (agc p)).length (fun k=>trK (((List.range p.length).map (agc p)).getD k aD)))
  rw[aot,List.length_range]
  refine gP fun k hk=>?_
  have e1:((List.range p.length).map (agc p)).getD k aD=agc p k:=by
   rw[abl,ajv,atQ hk];rfl
  rw[e1]
  unfold aaQ
  rw[agL p hk,aot]
  have h3:=aqn (h _ (aeJ (bJ sx0 hk)))
  exact bK (amv _) (bK (amv _) h3)
theorem anb (s:mO):ig (ofRaw s) (.tup [vG (ofC s),iP (wC s)]):=by
 unfold ofRaw ofC
 by_cases h:wC s=0
 ·rw[if_pos h,if_pos h,h,anj]
  exact aiR (bK (am3 _ (ap0 s)) (bK (.refl _) nE))
 ·rw[if_neg h,if_neg h]
  refine aiR (bK ?_ (bK (.refl _) nE))
  exact wQ (bK (.refl _) (bK (.nil _) (bK (.nil _) (bK (.nil _) nE))))
def ofP (s:mO):PV:=.tup [vG (ofC s),iP (wC s)]
end Go.Sx.Pe
