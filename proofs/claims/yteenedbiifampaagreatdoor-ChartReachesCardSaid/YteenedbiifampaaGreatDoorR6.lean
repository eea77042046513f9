/- ChartReaches, part 6 of its proof: declarations that the last part uses. -/
import Derived.Test.YteenedbiifampaaGreatDoorR5
set_option maxHeartbeats 1000000
set_option maxRecDepth 4000
set_option linter.unusedSimpArgs false
set_option linter.unusedVariables false
set_option linter.unusedSectionVars false
namespace Go.Sx.Pe
open Go Go.Proofs Go.Sx.Pn
set_option maxHeartbeats 16000000 in
theorem ajs:aK Tryz.prog 124 (iC (fun c:aS=>[jy c]) (fun c=>bE c=0∧gD c) wG):=by
 refine jo [63,3000066] ?_
 refine aX (Tb:=tab) mixed aB Tryz.func124 rfl rfl ?_
 rintro (c:aS) hpre
 refine ai (ai rfl (ai rfl rfl)) ?_
 obtain ⟨hc,ho⟩:=hpre
 have hc:bE c=0:=hc
 have ho:gD c:=ho
 obtain ⟨_,_,⟨b3,b4⟩,b5,_⟩:=gI hc
 refine ai (ai (by decide) (by decide)) ?_
 refine ai (by decide) (ei (fT (mQ c.sts.length)) (ai (by rw[aiJ b3];rfl) ?_))
 refine ai rfl (ei (cu (mQ c.sts.length)) (ai (ai (nX (by unfold mQ;rw[ar3,aq1];exact b4)) (fun k _=>by rw[sV];rfl)) ?_))
 refine ei 1 (ai (ai (fun _=>rfl) (fun _ h=>by cases h)) ?_)
 refine ei (bC.inv { X:=Nat×List Mk,up:=fun x=>[(8,.s (iA x.1)),(5,apy x.2),(6,ant x.2)],uo:=fun x=>[⟨3,0,[.ob (knO x.2)]⟩],inv:=fun x=>x.1≤x.2.length∧x.2.length≤16384∧(mh c x.2∧uL x.1 x.2)∧oo c (16385-x.1) x.2 x.1=lH c,meas:=fun x=>16385-x.1,x0:=(0,mk1 c) }) ?_
 refine ai (ai (ai (by exact (a4 (ai rfl rfl))) (ai ?_ ?_)) ?_) (ai ?_ ?_)
 ·refine (ai (ai (ai (fun _=>rfl) (iE (by simp only[zz,reduceCtorEq];rfl))) rfl) (ai (ai rfl (ai rfl (ai rfl ?_))) (ai rfl (ai rfl (ai rfl ?_)))))
  ·intro k hk
   obtain rfl:k=0:=by omega
   show _=dD (mQ c.sts.length)
   unfold dD;rw[aiJ b3];rfl
  ·intro k hk
   have hk:k<1:=hk
   obtain rfl:k=0:=by omega
   exact abC (.nil _)
 ·refine (ai (ai rfl (ai rfl ?_)) trivial)
  intro k
  rw[←anH]
  exact aU [] (mQ c.sts.length,[]) k
 ·rfl
 ·exact ⟨adO _,by show 1≤16384;decide,⟨abq c,fun y hy=>by simp only[mk1,agp] at hy;subst hy;exact adO _⟩,rfl⟩
 rintro ⟨a,l⟩ ⟨hal,hll,⟨hg,hwl⟩,hr⟩
 have hal:a≤l.length:=hal
 have hll:l.length≤16384:=hll
 have hg:mh c l:=hg
 have hwl:uL a l:=hwl
 have hr:oo c (16385-a) l a=lH c:=hr
 refine ah (p:=a<l.length) (au (by dsimp only;omega)) (fun h1=>?_) (fun h1=>?_)
 ·refine ei (bC.inv { X:=Nat,up:=fun k=>[(29,.s (iA k)),(5,apy (dB c l a k)),(6,ant (dB c l a k))],uo:=fun k=>[⟨3,0,[.ob (knO (dB c l a k))]⟩],inv:=fun k=>k≤c.trs.length∧((dB c l a k).length≤16384),meas:=fun k=>c.trs.length-k,x0:=0 }) ?_
  refine ai (ai (ai (by exact (a4 (ai rfl rfl))) (ai ?_ ?_)) rfl) (ai (ai (adO _) ?_) ?_)
  ·refine (ai (ai (ai (fun _=>rfl) (iE (by simp only[zz,reduceCtorEq];rfl))) rfl) (ai (ai rfl (ai rfl (ai rfl (fun _ _=>rfl)))) (ai rfl (ai rfl (ai rfl ?_)))))
   exact fun k _=>bJ.rfl' _
  ·exact (ai (ai rfl (ai rfl (fun _=>rfl))) trivial)
  ·exact hll
  intro (k:Nat) ⟨hk,hkl⟩
  have hgk:=good_row hg h1 hk
  have hways:=aao (c:=c) h1 hwl k
  obtain ⟨t,ht⟩:=qc c l a k
  have hak:a<(dB c l a k).length:=by rw[ht,aaH];omega
  refine ah (p:=k<c.trs.length) (au (by omega)) (fun h2=>?_) (fun h2=>?_)
  ·have hst:dB c l a (k+1)=iY c (dB c l a k) a k:=rfl
   have hrun:16384<(dB c l a (k+1)).length→lH c=none:=fun h=>by
    rw[←hr,show 16385-a=(16384-a)+1 by omega]
    exact ae8 h1 (show k+1≤c.trs.length from h2) h
   generalize dB c l a k=L at *
   have hkl:L.length≤16384:=hkl
   have hga:=hgk _ (aa5 (bG av hak))
   have hw:=hways _ (aa5 (bG av hak))
   obtain ⟨q1,q2,q3⟩:=kZ hc h2
   have hto:=pX ho h2
   have hnl:(aC c L a k).1.length=c.sts.length:=by
    show (mP _ _).length=_
    unfold mP;rw[dV,dV];exact hga.1
   have hln:∀y∈L,y.1.length=(aC c L a k).1.length:=fun y hy=>by rw[hnl];exact (hgk y hy).1
   refine ei (.one 0 (.one 1 (.one 2 (.one 3 (.one 4 (.one 5 (.alt 6 (.one 7 (.one 8 (.one 9 (.one 10 (.one 11 (.one 12 .done)))))) (.alt 10 (.one 6 (.one 7 (.one 8 (.one 9 (.one 11 (.one 12 .done)))))) .stop)))))))) (ai (by kernel_rfl) ?_)
   refine ai (ai (aaN _) (by show (a:Int)<(L.length:Int);omega)) ?_
   refine ai (by show a<L.length;exact hak) (ei (fT (L.getD a av).1) (ai (abJ _) ?_))
   refine ai ?_ (ai ?_ trivial)
   ·refine ei _ (ai (vo) (ei ((c,(L.getD a av).1,k)) (ei [] (ai (a4 (ai (fun _=>Or.inl rfl) (ai nof (Or.inl rfl)))) (ai (by exact (ai (ai rfl (ai (ai rfl (fun _ _=>rfl)) (ai (ai rfl (fun _ _=>rfl)) (ai rfl (fun _ _=>rfl))))) (ai (ai rfl (fun _ _=>rfl)) rfl))) (ai trivial (ai (⟨hc,ho,hga.1,h2⟩) ?_)))))))
    refine aZ (b:=!(bf c (L.getD a av).1 k).2) rfl (fun h3=>?_) (fun h3=>?_)
    ·have h3:allM (L.getD a av).1 (oJ c k).fr=false:=by
      have h3:(bf c (L.getD a av).1 k).2=false:=by simpa using h3
      unfold bf at h3
      split at h3
      ·cases h3
      ·rename_i h;exact arJ.2 h
     have e:dB c l a (k+1)=L:=by rw[hst];unfold iY adds;rw[h3];simp
     refine ei (k+1) (ai (ai rfl rfl) (ai (ai (ai rfl (ai (ai rfl rfl) (ai (ai rfl rfl) (ai (ai (ai (ai (fun _=>rfl) (aO (by omega))) rfl) (ai (ai rfl (ai rfl (ai ?_ ?_))) (ai rfl (ai rfl (ai ?_ ?_))))) (ai (ai rfl (ai ?_ ?_)) trivial))))) rfl) (ai (ai (iL (by omega)) ?_) (iM (by omega)))))
     all_goals rw[e]
     ·exact fun _ _=>rfl
     ·exact fun k _=>bJ.rfl' _
     ·exact fun _=>rfl
     ·exact hkl
    have h3:allM (L.getD a av).1 (oJ c k).fr=true:=by
     have h3:(bf c (L.getD a av).1 k).2=true:=by simpa using h3
     unfold bf at h3
     split at h3
     ·assumption
     ·cases h3
    have hcan:(bf c (L.getD a av).1 k).1=(aC c L a k).1:=by unfold bf;exact congrArg Prod.fst (if_pos h3)
    have hkey:∀q,q<24→fT (bf c (L.getD a av).1 k).1 q=.val (.bool ((cu (aC c L a k).1).getD q false)):=fun q _=>by rw[hcan,sV];rfl
    refine ai (ai rfl rfl) (ei (cu (aC c L a k).1) (ai (ai (nX (by omega)) hkey) ?_))
    refine ei (bP (lK L (aC c L a k).1)) (ei (lK L (aC c L a k).1) (ai ?_ ?_))
    ·show (∀d',xO L (.bools (cu (aC c L a k).1))=some d'→_)∧(xO L (.bools (cu (aC c L a k).1))=none→_)
     rw[adn hln]
     cases lK L (aC c L a k).1
     ·exact ⟨fun d' h=>by simp at h,fun _=>⟨rfl,rfl⟩⟩
     ·exact ⟨fun d' h=>by simp at h;exact ⟨h.symm,rfl⟩,fun h=>by simp at h⟩
    refine aZ (b:=lK L (aC c L a k).1) rfl (fun h4=>?_) (fun h4=>?_)
    ·have e:dB c l a (k+1)=L:=by rw[hst];unfold iY adds;rw[h4];simp
     refine ei (k+1) (ai (ai rfl rfl) (ai (ai (ai rfl (ai (ai rfl rfl) (ai (ai rfl rfl) (ai (ai (ai (ai (fun _=>rfl) (aO (by omega))) rfl) (ai (ai rfl (ai rfl (ai ?_ ?_))) (ai rfl (ai rfl (ai ?_ ?_))))) (ai (ai rfl (ai ?_ ?_)) trivial))))) rfl) (ai (ai (iL (by omega)) ?_) (iM (by omega)))))
     all_goals rw[e]
     ·exact fun _ _=>rfl
     ·exact fun k _=>bJ.rfl' _
     ·exact fun _=>rfl
     ·exact hkl
    have hn:adds c L a k=true:=by unfold adds;rw[h3,h4];rfl
    have e:dB c l a (k+1)=L++[aC c L a k]:=by rw[hst];unfold iY;rw[if_pos hn]
    refine ah (p:=L.length=16384) (gW (by omega)) (fun h5=>?_) (fun h5=>?_)
    ·refine ai (ai (fun h=>absurd (show false=true from h) (by decide)) ?_) trivial
     show ak _ (wG c)
     rw[wG,hrun (by rw[e,aaH];show 16384<L.length+1;omega)]
     exact (ai rfl (ai rfl rfl))
    refine ai rfl (ei (cu (aC c L a k).1) (ai (ai (nX (by omega)) hkey) ?_))
    refine ei (L.length+1) (ai (ai (fun _=>rfl) (fun d hd=>absurd ((afm hln h4).symm.trans hd) (by simp))) ?_)
    refine ei (.one 0 (.one 1 (.one 4 (.one 5 (.one 6 (.one 7 (.one 10 (.alt 2 (.alt 3 (.one 8 (.altw 9 (.one 11 (.one 12 (.one 13 (.one 14 (.one 15 (.one 16 .done)))))) (.alt 11 (.wr 9 (.one 12 (.one 13 (.one 14 (.one 15 (.one 16 .done)))))) .stop))) (.alt 8 (.alt 3 (.altw 9 (.one 11 (.one 12 (.one 13 (.one 14 (.one 15 (.one 16 .done)))))) (.alt 11 (.wr 9 (.one 12 (.one 13 (.one 14 (.one 15 (.one 16 .done)))))) .stop)) (.alt 11 (.one 3 (.wr 9 (.one 12 (.one 13 (.one 14 (.one 15 (.one 16 .done))))))) .stop)) (.alt 11 (.alt 3 (.one 8 (.wr 9 (.one 12 (.one 13 (.one 14 (.one 15 (.one 16 .done))))))) (.alt 8 (.one 3 (.wr 9 (.one 12 (.one 13 (.one 14 (.one 15 (.one 16 .done))))))) .stop)) .stop))) (.alt 8 (.alt 2 (.alt 3 (.altw 9 (.one 11 (.one 12 (.one 13 (.one 14 (.one 15 (.one 16 .done)))))) (.alt 11 (.wr 9 (.one 12 (.one 13 (.one 14 (.one 15 (.one 16 .done)))))) .stop)) (.alt 11 (.one 3 (.wr 9 (.one 12 (.one 13 (.one 14 (.one 15 (.one 16 .done))))))) .stop)) (.alt 11 (.one 2 (.one 3 (.wr 9 (.one 12 (.one 13 (.one 14 (.one 15 (.one 16 .done)))))))) .stop)) (.alt 11 (.alt 2 (.alt 3 (.one 8 (.wr 9 (.one 12 (.one 13 (.one 14 (.one 15 (.one 16 .done))))))) (.alt 8 (.one 3 (.wr 9 (.one 12 (.one 13 (.one 14 (.one 15 (.one 16 .done))))))) .stop)) (.alt 8 (.one 2 (.one 3 (.wr 9 (.one 12 (.one 13 (.one 14 (.one 15 (.one 16 .done)))))))) .stop)) .stop)))))))))) (ai (by kernel_rfl) ?_)
    refine ai (ai (aaN _) (by show (a:Int)<(L.length:Int);omega)) ?_
    refine ai ?_ ?_
    ·refine ai ?_ ?_
     ·refine ai (mxL (n:=L.length+1) (by omega) (by decide)) (ai (lt1 rfl) ?_)
      refine ai (by show a<L.length;exact hak) ?_
      refine ai ?_ ?_
      ·refine fA mixed aB Tryz.func63 rfl rfl ?_
       refine ai rfl ?_
       intro b hb
       refine aY (fun hb0=>?_) (fun hb0=>?_)
       ·have hb1:(L.getD a av).2.length=0:=hb hb0
        refine ai (ai (by decide) (by decide)) (ai (aH 1 rfl) ?_)
        refine ai (mxL (n:=L.length+1) (by omega) (by decide)) (ai (aH 1 rfl) ?_)
        refine ei (k+1) (ai (ai rfl rfl) (ai (ai (ai rfl (ai (ai rfl rfl) (ai (ai rfl rfl) (ai (ai (ai (ai (fun _=>rfl) (aO (by omega))) rfl) (ai (ai rfl (ai rfl (ai ?_ ?_))) (ai rfl (ai rfl (ai ?_ ?_))))) (ai (ai rfl (ai ?_ ?_)) trivial))))) rfl) (ai (ai (iL (by omega)) ?_) (iM (by omega)))))
        all_goals rw[e]
        ·rw[aaH];rfl
        ·exact aV L (aC c L a k) (show dD (bf c (L.getD a av).1 k).1=_ by rw[hcan])
        ·rw[aaH];rfl
        ·exact aW L (aC c L a k) (dA hb1 k)
        ·rw[aaH];rfl
        ·exact aU L (aC c L a k)
        ·rw[aaH];show L.length+1≤16384;omega
       ·refine ai (mxL (n:=0+(L.getD a av).2.length) (by omega) (by decide)) (ai (fun _ _=>rfl) ?_)
        refine ai (mxL (n:=0+(L.getD a av).2.length+1) (by omega) (by decide)) (ai (aH 1 rfl) ?_)
        refine ai (mxL (n:=L.length+1) (by omega) (by decide)) (ai (aH 1 rfl) ?_)
        refine ei (k+1) (ai (ai rfl rfl) (ai (ai (ai rfl (ai (ai rfl rfl) (ai (ai rfl rfl) (ai (ai (ai (ai (fun _=>rfl) (aO (by omega))) rfl) (ai (ai rfl (ai rfl (ai ?_ ?_))) (ai rfl (ai rfl (ai ?_ ?_))))) (ai (ai rfl (ai ?_ ?_)) trivial))))) rfl) (ai (ai (iL (by omega)) ?_) (iM (by omega)))))
        all_goals rw[e]
        ·rw[aaH];rfl
        ·exact aV L (aC c L a k) (show dD (bf c (L.getD a av).1 k).1=_ by rw[hcan])
        ·rw[aaH];rfl
        ·exact aW L (aC c L a k) (bV (L.getD a av).2 k)
        ·rw[aaH];rfl
        ·exact aU L (aC c L a k)
        ·rw[aaH];show L.length+1≤16384;omega
      refine ai ?_ trivial
      refine fA mixed aB Tryz.func63 rfl rfl ?_
      refine ai rfl ?_
      intro b hb
      refine aY (fun hb0=>?_) (fun hb0=>?_)
      ·have hb1:(L.getD a av).2.length=0:=hb hb0
       refine ai (ai (by decide) (by decide)) (ai (aH 1 rfl) ?_)
       refine ai (mxL (n:=L.length+1) (by omega) (by decide)) (ai (aH 1 rfl) ?_)
       refine ei (k+1) (ai (ai rfl rfl) (ai (ai (ai rfl (ai (ai rfl rfl) (ai (ai rfl rfl) (ai (ai (ai (ai (fun _=>rfl) (aO (by omega))) rfl) (ai (ai rfl (ai rfl (ai ?_ ?_))) (ai rfl (ai rfl (ai ?_ ?_))))) (ai (ai rfl (ai ?_ ?_)) trivial))))) rfl) (ai (ai (iL (by omega)) ?_) (iM (by omega)))))
       all_goals rw[e]
       ·rw[aaH];rfl
       ·exact aV L (aC c L a k) (show dD (bf c (L.getD a av).1 k).1=_ by rw[hcan])
       ·rw[aaH];rfl
       ·exact aW L (aC c L a k) (dA hb1 k)
       ·rw[aaH];rfl
       ·exact aU L (aC c L a k)
       ·rw[aaH];show L.length+1≤16384;omega
      ·refine ai (mxL (n:=0+(L.getD a av).2.length) (by omega) (by decide)) (ai (fun _ _=>rfl) ?_)
       refine ai (mxL (n:=0+(L.getD a av).2.length+1) (by omega) (by decide)) (ai (aH 1 rfl) ?_)
       refine ai (mxL (n:=L.length+1) (by omega) (by decide)) (ai (aH 1 rfl) ?_)
       refine ei (k+1) (ai (ai rfl rfl) (ai (ai (ai rfl (ai (ai rfl rfl) (ai (ai rfl rfl) (ai (ai (ai (ai (fun _=>rfl) (aO (by omega))) rfl) (ai (ai rfl (ai rfl (ai ?_ ?_))) (ai rfl (ai rfl (ai ?_ ?_))))) (ai (ai rfl (ai ?_ ?_)) trivial))))) rfl) (ai (ai (iL (by omega)) ?_) (iM (by omega)))))
       all_goals rw[e]
       ·rw[aaH];rfl
       ·exact aV L (aC c L a k) (show dD (bf c (L.getD a av).1 k).1=_ by rw[hcan])
       ·rw[aaH];rfl
       ·exact aW L (aC c L a k) (bV (L.getD a av).2 k)
       ·rw[aaH];rfl
       ·exact aU L (aC c L a k)
       ·rw[aaH];show L.length+1≤16384;omega
     refine ai ?_ ?_
     ·refine ai (by show a<L.length;exact hak) ?_
      refine ai ?_ ?_
      ·refine ai (mxL (n:=L.length+1) (by omega) (by decide)) (ai (lt1 rfl) ?_)
       refine ai ?_ ?_
       ·refine fA mixed aB Tryz.func63 rfl rfl ?_
        refine ai rfl ?_
        intro b hb
        refine aY (fun hb0=>?_) (fun hb0=>?_)
        ·have hb1:(L.getD a av).2.length=0:=hb hb0
         refine ai (ai (by decide) (by decide)) (ai (aH 1 rfl) ?_)
         refine ai (mxL (n:=L.length+1) (by omega) (by decide)) (ai (aH 1 rfl) ?_)
         refine ei (k+1) (ai (ai rfl rfl) (ai (ai (ai rfl (ai (ai rfl rfl) (ai (ai rfl rfl) (ai (ai (ai (ai (fun _=>rfl) (aO (by omega))) rfl) (ai (ai rfl (ai rfl (ai ?_ ?_))) (ai rfl (ai rfl (ai ?_ ?_))))) (ai (ai rfl (ai ?_ ?_)) trivial))))) rfl) (ai (ai (iL (by omega)) ?_) (iM (by omega)))))
         all_goals rw[e]
         ·rw[aaH];rfl
         ·exact aV L (aC c L a k) (show dD (bf c (L.getD a av).1 k).1=_ by rw[hcan])
         ·rw[aaH];rfl
         ·exact aW L (aC c L a k) (dA hb1 k)
         ·rw[aaH];rfl
         ·exact aU L (aC c L a k)
         ·rw[aaH];show L.length+1≤16384;omega
        ·refine ai (mxL (n:=0+(L.getD a av).2.length) (by omega) (by decide)) (ai (fun _ _=>rfl) ?_)
         refine ai (mxL (n:=0+(L.getD a av).2.length+1) (by omega) (by decide)) (ai (aH 1 rfl) ?_)
         refine ai (mxL (n:=L.length+1) (by omega) (by decide)) (ai (aH 1 rfl) ?_)
         refine ei (k+1) (ai (ai rfl rfl) (ai (ai (ai rfl (ai (ai rfl rfl) (ai (ai rfl rfl) (ai (ai (ai (ai (fun _=>rfl) (aO (by omega))) rfl) (ai (ai rfl (ai rfl (ai ?_ ?_))) (ai rfl (ai rfl (ai ?_ ?_))))) (ai (ai rfl (ai ?_ ?_)) trivial))))) rfl) (ai (ai (iL (by omega)) ?_) (iM (by omega)))))
         all_goals rw[e]
         ·rw[aaH];rfl
         ·exact aV L (aC c L a k) (show dD (bf c (L.getD a av).1 k).1=_ by rw[hcan])
         ·rw[aaH];rfl
         ·exact aW L (aC c L a k) (bV (L.getD a av).2 k)
         ·rw[aaH];rfl
         ·exact aU L (aC c L a k)
         ·rw[aaH];show L.length+1≤16384;omega
       refine ai ?_ trivial
       refine fA mixed aB Tryz.func63 rfl rfl ?_
       refine ai rfl ?_
       intro b hb
       refine aY (fun hb0=>?_) (fun hb0=>?_)
       ·have hb1:(L.getD a av).2.length=0:=hb hb0
        refine ai (ai (by decide) (by decide)) (ai (aH 1 rfl) ?_)
        refine ai (mxL (n:=L.length+1) (by omega) (by decide)) (ai (aH 1 rfl) ?_)
        refine ei (k+1) (ai (ai rfl rfl) (ai (ai (ai rfl (ai (ai rfl rfl) (ai (ai rfl rfl) (ai (ai (ai (ai (fun _=>rfl) (aO (by omega))) rfl) (ai (ai rfl (ai rfl (ai ?_ ?_))) (ai rfl (ai rfl (ai ?_ ?_))))) (ai (ai rfl (ai ?_ ?_)) trivial))))) rfl) (ai (ai (iL (by omega)) ?_) (iM (by omega)))))
        all_goals rw[e]
        ·rw[aaH];rfl
        ·exact aV L (aC c L a k) (show dD (bf c (L.getD a av).1 k).1=_ by rw[hcan])
        ·rw[aaH];rfl
        ·exact aW L (aC c L a k) (dA hb1 k)
        ·rw[aaH];rfl
        ·exact aU L (aC c L a k)
        ·rw[aaH];show L.length+1≤16384;omega
       ·refine ai (mxL (n:=0+(L.getD a av).2.length) (by omega) (by decide)) (ai (fun _ _=>rfl) ?_)
        refine ai (mxL (n:=0+(L.getD a av).2.length+1) (by omega) (by decide)) (ai (aH 1 rfl) ?_)
        refine ai (mxL (n:=L.length+1) (by omega) (by decide)) (ai (aH 1 rfl) ?_)
        refine ei (k+1) (ai (ai rfl rfl) (ai (ai (ai rfl (ai (ai rfl rfl) (ai (ai rfl rfl) (ai (ai (ai (ai (fun _=>rfl) (aO (by omega))) rfl) (ai (ai rfl (ai rfl (ai ?_ ?_))) (ai rfl (ai rfl (ai ?_ ?_))))) (ai (ai rfl (ai ?_ ?_)) trivial))))) rfl) (ai (ai (iL (by omega)) ?_) (iM (by omega)))))
        all_goals rw[e]
        ·rw[aaH];rfl
        ·exact aV L (aC c L a k) (show dD (bf c (L.getD a av).1 k).1=_ by rw[hcan])
        ·rw[aaH];rfl
        ·exact aW L (aC c L a k) (bV (L.getD a av).2 k)
        ·rw[aaH];rfl
        ·exact aU L (aC c L a k)
        ·rw[aaH];show L.length+1≤16384;omega
      refine ai ?_ trivial
      refine ai (mxL (n:=L.length+1) (by omega) (by decide)) (ai (lt1 rfl) ?_)
      refine fA mixed aB Tryz.func63 rfl rfl ?_
      refine ai rfl ?_
      intro b hb
      refine aY (fun hb0=>?_) (fun hb0=>?_)
      ·have hb1:(L.getD a av).2.length=0:=hb hb0
       refine ai (ai (by decide) (by decide)) (ai (aH 1 rfl) ?_)
       refine ai (mxL (n:=L.length+1) (by omega) (by decide)) (ai (aH 1 rfl) ?_)
       refine ei (k+1) (ai (ai rfl rfl) (ai (ai (ai rfl (ai (ai rfl rfl) (ai (ai rfl rfl) (ai (ai (ai (ai (fun _=>rfl) (aO (by omega))) rfl) (ai (ai rfl (ai rfl (ai ?_ ?_))) (ai rfl (ai rfl (ai ?_ ?_))))) (ai (ai rfl (ai ?_ ?_)) trivial))))) rfl) (ai (ai (iL (by omega)) ?_) (iM (by omega)))))
       all_goals rw[e]
       ·rw[aaH];rfl
       ·exact aV L (aC c L a k) (show dD (bf c (L.getD a av).1 k).1=_ by rw[hcan])
       ·rw[aaH];rfl
       ·exact aW L (aC c L a k) (dA hb1 k)
       ·rw[aaH];rfl
       ·exact aU L (aC c L a k)
       ·rw[aaH];show L.length+1≤16384;omega
      ·refine ai (mxL (n:=0+(L.getD a av).2.length) (by omega) (by decide)) (ai (fun _ _=>rfl) ?_)
       refine ai (mxL (n:=0+(L.getD a av).2.length+1) (by omega) (by decide)) (ai (aH 1 rfl) ?_)
       refine ai (mxL (n:=L.length+1) (by omega) (by decide)) (ai (aH 1 rfl) ?_)
       refine ei (k+1) (ai (ai rfl rfl) (ai (ai (ai rfl (ai (ai rfl rfl) (ai (ai rfl rfl) (ai (ai (ai (ai (fun _=>rfl) (aO (by omega))) rfl) (ai (ai rfl (ai rfl (ai ?_ ?_))) (ai rfl (ai rfl (ai ?_ ?_))))) (ai (ai rfl (ai ?_ ?_)) trivial))))) rfl) (ai (ai (iL (by omega)) ?_) (iM (by omega)))))
       all_goals rw[e]
       ·rw[aaH];rfl
       ·exact aV L (aC c L a k) (show dD (bf c (L.getD a av).1 k).1=_ by rw[hcan])
       ·rw[aaH];rfl
       ·exact aW L (aC c L a k) (bV (L.getD a av).2 k)
       ·rw[aaH];rfl
       ·exact aU L (aC c L a k)
       ·rw[aaH];show L.length+1≤16384;omega
     refine ai ?_ trivial
     refine ai ?_ ?_
     ·refine ai (mxL (n:=L.length+1) (by omega) (by decide)) (ai (lt1 rfl) ?_)
      refine ai (by show a<L.length;exact hak) ?_
      refine fA mixed aB Tryz.func63 rfl rfl ?_
      refine ai rfl ?_
      intro b hb
      refine aY (fun hb0=>?_) (fun hb0=>?_)
      ·have hb1:(L.getD a av).2.length=0:=hb hb0
       refine ai (ai (by decide) (by decide)) (ai (aH 1 rfl) ?_)
       refine ai (mxL (n:=L.length+1) (by omega) (by decide)) (ai (aH 1 rfl) ?_)
       refine ei (k+1) (ai (ai rfl rfl) (ai (ai (ai rfl (ai (ai rfl rfl) (ai (ai rfl rfl) (ai (ai (ai (ai (fun _=>rfl) (aO (by omega))) rfl) (ai (ai rfl (ai rfl (ai ?_ ?_))) (ai rfl (ai rfl (ai ?_ ?_))))) (ai (ai rfl (ai ?_ ?_)) trivial))))) rfl) (ai (ai (iL (by omega)) ?_) (iM (by omega)))))
       all_goals rw[e]
       ·rw[aaH];rfl
       ·exact aV L (aC c L a k) (show dD (bf c (L.getD a av).1 k).1=_ by rw[hcan])
       ·rw[aaH];rfl
       ·exact aW L (aC c L a k) (dA hb1 k)
       ·rw[aaH];rfl
       ·exact aU L (aC c L a k)
       ·rw[aaH];show L.length+1≤16384;omega
      ·refine ai (mxL (n:=0+(L.getD a av).2.length) (by omega) (by decide)) (ai (fun _ _=>rfl) ?_)
       refine ai (mxL (n:=0+(L.getD a av).2.length+1) (by omega) (by decide)) (ai (aH 1 rfl) ?_)
       refine ai (mxL (n:=L.length+1) (by omega) (by decide)) (ai (aH 1 rfl) ?_)
       refine ei (k+1) (ai (ai rfl rfl) (ai (ai (ai rfl (ai (ai rfl rfl) (ai (ai rfl rfl) (ai (ai (ai (ai (fun _=>rfl) (aO (by omega))) rfl) (ai (ai rfl (ai rfl (ai ?_ ?_))) (ai rfl (ai rfl (ai ?_ ?_))))) (ai (ai rfl (ai ?_ ?_)) trivial))))) rfl) (ai (ai (iL (by omega)) ?_) (iM (by omega)))))
       all_goals rw[e]
       ·rw[aaH];rfl
       ·exact aV L (aC c L a k) (show dD (bf c (L.getD a av).1 k).1=_ by rw[hcan])
       ·rw[aaH];rfl
       ·exact aW L (aC c L a k) (bV (L.getD a av).2 k)
       ·rw[aaH];rfl
       ·exact aU L (aC c L a k)
       ·rw[aaH];show L.length+1≤16384;omega
     refine ai ?_ trivial
     refine ai (by show a<L.length;exact hak) ?_
     refine ai (mxL (n:=L.length+1) (by omega) (by decide)) (ai (lt1 rfl) ?_)
     refine fA mixed aB Tryz.func63 rfl rfl ?_
     refine ai rfl ?_
     intro b hb
     refine aY (fun hb0=>?_) (fun hb0=>?_)
     ·have hb1:(L.getD a av).2.length=0:=hb hb0
      refine ai (ai (by decide) (by decide)) (ai (aH 1 rfl) ?_)
      refine ai (mxL (n:=L.length+1) (by omega) (by decide)) (ai (aH 1 rfl) ?_)
      refine ei (k+1) (ai (ai rfl rfl) (ai (ai (ai rfl (ai (ai rfl rfl) (ai (ai rfl rfl) (ai (ai (ai (ai (fun _=>rfl) (aO (by omega))) rfl) (ai (ai rfl (ai rfl (ai ?_ ?_))) (ai rfl (ai rfl (ai ?_ ?_))))) (ai (ai rfl (ai ?_ ?_)) trivial))))) rfl) (ai (ai (iL (by omega)) ?_) (iM (by omega)))))
      all_goals rw[e]
      ·rw[aaH];rfl
      ·exact aV L (aC c L a k) (show dD (bf c (L.getD a av).1 k).1=_ by rw[hcan])
      ·rw[aaH];rfl
      ·exact aW L (aC c L a k) (dA hb1 k)
      ·rw[aaH];rfl
      ·exact aU L (aC c L a k)
      ·rw[aaH];show L.length+1≤16384;omega
     ·refine ai (mxL (n:=0+(L.getD a av).2.length) (by omega) (by decide)) (ai (fun _ _=>rfl) ?_)
      refine ai (mxL (n:=0+(L.getD a av).2.length+1) (by omega) (by decide)) (ai (aH 1 rfl) ?_)
      refine ai (mxL (n:=L.length+1) (by omega) (by decide)) (ai (aH 1 rfl) ?_)
      refine ei (k+1) (ai (ai rfl rfl) (ai (ai (ai rfl (ai (ai rfl rfl) (ai (ai rfl rfl) (ai (ai (ai (ai (fun _=>rfl) (aO (by omega))) rfl) (ai (ai rfl (ai rfl (ai ?_ ?_))) (ai rfl (ai rfl (ai ?_ ?_))))) (ai (ai rfl (ai ?_ ?_)) trivial))))) rfl) (ai (ai (iL (by omega)) ?_) (iM (by omega)))))
      all_goals rw[e]
      ·rw[aaH];rfl
      ·exact aV L (aC c L a k) (show dD (bf c (L.getD a av).1 k).1=_ by rw[hcan])
      ·rw[aaH];rfl
      ·exact aW L (aC c L a k) (bV (L.getD a av).2 k)
      ·rw[aaH];rfl
      ·exact aU L (aC c L a k)
      ·rw[aaH];show L.length+1≤16384;omega
    refine ai ?_ ?_
    ·refine ai (by show a<L.length;exact hak) ?_
     refine ai ?_ ?_
     ·refine ai ?_ ?_
      ·refine ai (mxL (n:=L.length+1) (by omega) (by decide)) (ai (lt1 rfl) ?_)
       refine ai ?_ ?_
       ·refine fA mixed aB Tryz.func63 rfl rfl ?_
        refine ai rfl ?_
        intro b hb
        refine aY (fun hb0=>?_) (fun hb0=>?_)
        ·have hb1:(L.getD a av).2.length=0:=hb hb0
         refine ai (ai (by decide) (by decide)) (ai (aH 1 rfl) ?_)
         refine ai (mxL (n:=L.length+1) (by omega) (by decide)) (ai (aH 1 rfl) ?_)
         refine ei (k+1) (ai (ai rfl rfl) (ai (ai (ai rfl (ai (ai rfl rfl) (ai (ai rfl rfl) (ai (ai (ai (ai (fun _=>rfl) (aO (by omega))) rfl) (ai (ai rfl (ai rfl (ai ?_ ?_))) (ai rfl (ai rfl (ai ?_ ?_))))) (ai (ai rfl (ai ?_ ?_)) trivial))))) rfl) (ai (ai (iL (by omega)) ?_) (iM (by omega)))))
         all_goals rw[e]
         ·rw[aaH];rfl
         ·exact aV L (aC c L a k) (show dD (bf c (L.getD a av).1 k).1=_ by rw[hcan])
         ·rw[aaH];rfl
         ·exact aW L (aC c L a k) (dA hb1 k)
         ·rw[aaH];rfl
         ·exact aU L (aC c L a k)
         ·rw[aaH];show L.length+1≤16384;omega
        ·refine ai (mxL (n:=0+(L.getD a av).2.length) (by omega) (by decide)) (ai (fun _ _=>rfl) ?_)
         refine ai (mxL (n:=0+(L.getD a av).2.length+1) (by omega) (by decide)) (ai (aH 1 rfl) ?_)
         refine ai (mxL (n:=L.length+1) (by omega) (by decide)) (ai (aH 1 rfl) ?_)
         refine ei (k+1) (ai (ai rfl rfl) (ai (ai (ai rfl (ai (ai rfl rfl) (ai (ai rfl rfl) (ai (ai (ai (ai (fun _=>rfl) (aO (by omega))) rfl) (ai (ai rfl (ai rfl (ai ?_ ?_))) (ai rfl (ai rfl (ai ?_ ?_))))) (ai (ai rfl (ai ?_ ?_)) trivial))))) rfl) (ai (ai (iL (by omega)) ?_) (iM (by omega)))))
         all_goals rw[e]
         ·rw[aaH];rfl
         ·exact aV L (aC c L a k) (show dD (bf c (L.getD a av).1 k).1=_ by rw[hcan])
         ·rw[aaH];rfl
         ·exact aW L (aC c L a k) (bV (L.getD a av).2 k)
         ·rw[aaH];rfl
         ·exact aU L (aC c L a k)
         ·rw[aaH];show L.length+1≤16384;omega
       refine ai ?_ trivial
       refine fA mixed aB Tryz.func63 rfl rfl ?_
       refine ai rfl ?_
       intro b hb
       refine aY (fun hb0=>?_) (fun hb0=>?_)
       ·have hb1:(L.getD a av).2.length=0:=hb hb0
        refine ai (ai (by decide) (by decide)) (ai (aH 1 rfl) ?_)
        refine ai (mxL (n:=L.length+1) (by omega) (by decide)) (ai (aH 1 rfl) ?_)
        refine ei (k+1) (ai (ai rfl rfl) (ai (ai (ai rfl (ai (ai rfl rfl) (ai (ai rfl rfl) (ai (ai (ai (ai (fun _=>rfl) (aO (by omega))) rfl) (ai (ai rfl (ai rfl (ai ?_ ?_))) (ai rfl (ai rfl (ai ?_ ?_))))) (ai (ai rfl (ai ?_ ?_)) trivial))))) rfl) (ai (ai (iL (by omega)) ?_) (iM (by omega)))))
        all_goals rw[e]
        ·rw[aaH];rfl
        ·exact aV L (aC c L a k) (show dD (bf c (L.getD a av).1 k).1=_ by rw[hcan])
        ·rw[aaH];rfl
        ·exact aW L (aC c L a k) (dA hb1 k)
        ·rw[aaH];rfl
        ·exact aU L (aC c L a k)
        ·rw[aaH];show L.length+1≤16384;omega
       ·refine ai (mxL (n:=0+(L.getD a av).2.length) (by omega) (by decide)) (ai (fun _ _=>rfl) ?_)
        refine ai (mxL (n:=0+(L.getD a av).2.length+1) (by omega) (by decide)) (ai (aH 1 rfl) ?_)
        refine ai (mxL (n:=L.length+1) (by omega) (by decide)) (ai (aH 1 rfl) ?_)
        refine ei (k+1) (ai (ai rfl rfl) (ai (ai (ai rfl (ai (ai rfl rfl) (ai (ai rfl rfl) (ai (ai (ai (ai (fun _=>rfl) (aO (by omega))) rfl) (ai (ai rfl (ai rfl (ai ?_ ?_))) (ai rfl (ai rfl (ai ?_ ?_))))) (ai (ai rfl (ai ?_ ?_)) trivial))))) rfl) (ai (ai (iL (by omega)) ?_) (iM (by omega)))))
        all_goals rw[e]
        ·rw[aaH];rfl
        ·exact aV L (aC c L a k) (show dD (bf c (L.getD a av).1 k).1=_ by rw[hcan])
        ·rw[aaH];rfl
        ·exact aW L (aC c L a k) (bV (L.getD a av).2 k)
        ·rw[aaH];rfl
        ·exact aU L (aC c L a k)
        ·rw[aaH];show L.length+1≤16384;omega
      refine ai ?_ trivial
      refine ai (mxL (n:=L.length+1) (by omega) (by decide)) (ai (lt1 rfl) ?_)
      refine fA mixed aB Tryz.func63 rfl rfl ?_
      refine ai rfl ?_
      intro b hb
      refine aY (fun hb0=>?_) (fun hb0=>?_)
      ·have hb1:(L.getD a av).2.length=0:=hb hb0
       refine ai (ai (by decide) (by decide)) (ai (aH 1 rfl) ?_)
       refine ai (mxL (n:=L.length+1) (by omega) (by decide)) (ai (aH 1 rfl) ?_)
       refine ei (k+1) (ai (ai rfl rfl) (ai (ai (ai rfl (ai (ai rfl rfl) (ai (ai rfl rfl) (ai (ai (ai (ai (fun _=>rfl) (aO (by omega))) rfl) (ai (ai rfl (ai rfl (ai ?_ ?_))) (ai rfl (ai rfl (ai ?_ ?_))))) (ai (ai rfl (ai ?_ ?_)) trivial))))) rfl) (ai (ai (iL (by omega)) ?_) (iM (by omega)))))
       all_goals rw[e]
       ·rw[aaH];rfl
       ·exact aV L (aC c L a k) (show dD (bf c (L.getD a av).1 k).1=_ by rw[hcan])
       ·rw[aaH];rfl
       ·exact aW L (aC c L a k) (dA hb1 k)
       ·rw[aaH];rfl
       ·exact aU L (aC c L a k)
       ·rw[aaH];show L.length+1≤16384;omega
      ·refine ai (mxL (n:=0+(L.getD a av).2.length) (by omega) (by decide)) (ai (fun _ _=>rfl) ?_)
       refine ai (mxL (n:=0+(L.getD a av).2.length+1) (by omega) (by decide)) (ai (aH 1 rfl) ?_)
       refine ai (mxL (n:=L.length+1) (by omega) (by decide)) (ai (aH 1 rfl) ?_)
       refine ei (k+1) (ai (ai rfl rfl) (ai (ai (ai rfl (ai (ai rfl rfl) (ai (ai rfl rfl) (ai (ai (ai (ai (fun _=>rfl) (aO (by omega))) rfl) (ai (ai rfl (ai rfl (ai ?_ ?_))) (ai rfl (ai rfl (ai ?_ ?_))))) (ai (ai rfl (ai ?_ ?_)) trivial))))) rfl) (ai (ai (iL (by omega)) ?_) (iM (by omega)))))
       all_goals rw[e]
       ·rw[aaH];rfl
       ·exact aV L (aC c L a k) (show dD (bf c (L.getD a av).1 k).1=_ by rw[hcan])
       ·rw[aaH];rfl
       ·exact aW L (aC c L a k) (bV (L.getD a av).2 k)
       ·rw[aaH];rfl
       ·exact aU L (aC c L a k)
       ·rw[aaH];show L.length+1≤16384;omega
     refine ai ?_ trivial
     refine ai (mxL (n:=L.length+1) (by omega) (by decide)) (ai (lt1 rfl) ?_)
     refine fA mixed aB Tryz.func63 rfl rfl ?_
     refine ai rfl ?_
     intro b hb
     refine aY (fun hb0=>?_) (fun hb0=>?_)
     ·have hb1:(L.getD a av).2.length=0:=hb hb0
      refine ai (ai (by decide) (by decide)) (ai (aH 1 rfl) ?_)
      refine ai (mxL (n:=L.length+1) (by omega) (by decide)) (ai (aH 1 rfl) ?_)
      refine ei (k+1) (ai (ai rfl rfl) (ai (ai (ai rfl (ai (ai rfl rfl) (ai (ai rfl rfl) (ai (ai (ai (ai (fun _=>rfl) (aO (by omega))) rfl) (ai (ai rfl (ai rfl (ai ?_ ?_))) (ai rfl (ai rfl (ai ?_ ?_))))) (ai (ai rfl (ai ?_ ?_)) trivial))))) rfl) (ai (ai (iL (by omega)) ?_) (iM (by omega)))))
      all_goals rw[e]
      ·rw[aaH];rfl
      ·exact aV L (aC c L a k) (show dD (bf c (L.getD a av).1 k).1=_ by rw[hcan])
      ·rw[aaH];rfl
      ·exact aW L (aC c L a k) (dA hb1 k)
      ·rw[aaH];rfl
      ·exact aU L (aC c L a k)
      ·rw[aaH];show L.length+1≤16384;omega
     ·refine ai (mxL (n:=0+(L.getD a av).2.length) (by omega) (by decide)) (ai (fun _ _=>rfl) ?_)
      refine ai (mxL (n:=0+(L.getD a av).2.length+1) (by omega) (by decide)) (ai (aH 1 rfl) ?_)
      refine ai (mxL (n:=L.length+1) (by omega) (by decide)) (ai (aH 1 rfl) ?_)
      refine ei (k+1) (ai (ai rfl rfl) (ai (ai (ai rfl (ai (ai rfl rfl) (ai (ai rfl rfl) (ai (ai (ai (ai (fun _=>rfl) (aO (by omega))) rfl) (ai (ai rfl (ai rfl (ai ?_ ?_))) (ai rfl (ai rfl (ai ?_ ?_))))) (ai (ai rfl (ai ?_ ?_)) trivial))))) rfl) (ai (ai (iL (by omega)) ?_) (iM (by omega)))))
      all_goals rw[e]
      ·rw[aaH];rfl
      ·exact aV L (aC c L a k) (show dD (bf c (L.getD a av).1 k).1=_ by rw[hcan])
      ·rw[aaH];rfl
      ·exact aW L (aC c L a k) (bV (L.getD a av).2 k)
      ·rw[aaH];rfl
      ·exact aU L (aC c L a k)
      ·rw[aaH];show L.length+1≤16384;omega
    refine ai ?_ trivial
    refine ai ?_ ?_
    ·refine ai ?_ ?_
     ·refine ai (mxL (n:=L.length+1) (by omega) (by decide)) (ai (lt1 rfl) ?_)
      refine ai (by show a<L.length;exact hak) ?_
      refine fA mixed aB Tryz.func63 rfl rfl ?_
      refine ai rfl ?_
      intro b hb
      refine aY (fun hb0=>?_) (fun hb0=>?_)
      ·have hb1:(L.getD a av).2.length=0:=hb hb0
       refine ai (ai (by decide) (by decide)) (ai (aH 1 rfl) ?_)
       refine ai (mxL (n:=L.length+1) (by omega) (by decide)) (ai (aH 1 rfl) ?_)
       refine ei (k+1) (ai (ai rfl rfl) (ai (ai (ai rfl (ai (ai rfl rfl) (ai (ai rfl rfl) (ai (ai (ai (ai (fun _=>rfl) (aO (by omega))) rfl) (ai (ai rfl (ai rfl (ai ?_ ?_))) (ai rfl (ai rfl (ai ?_ ?_))))) (ai (ai rfl (ai ?_ ?_)) trivial))))) rfl) (ai (ai (iL (by omega)) ?_) (iM (by omega)))))
       all_goals rw[e]
       ·rw[aaH];rfl
       ·exact aV L (aC c L a k) (show dD (bf c (L.getD a av).1 k).1=_ by rw[hcan])
       ·rw[aaH];rfl
       ·exact aW L (aC c L a k) (dA hb1 k)
       ·rw[aaH];rfl
       ·exact aU L (aC c L a k)
       ·rw[aaH];show L.length+1≤16384;omega
      ·refine ai (mxL (n:=0+(L.getD a av).2.length) (by omega) (by decide)) (ai (fun _ _=>rfl) ?_)
       refine ai (mxL (n:=0+(L.getD a av).2.length+1) (by omega) (by decide)) (ai (aH 1 rfl) ?_)
       refine ai (mxL (n:=L.length+1) (by omega) (by decide)) (ai (aH 1 rfl) ?_)
       refine ei (k+1) (ai (ai rfl rfl) (ai (ai (ai rfl (ai (ai rfl rfl) (ai (ai rfl rfl) (ai (ai (ai (ai (fun _=>rfl) (aO (by omega))) rfl) (ai (ai rfl (ai rfl (ai ?_ ?_))) (ai rfl (ai rfl (ai ?_ ?_))))) (ai (ai rfl (ai ?_ ?_)) trivial))))) rfl) (ai (ai (iL (by omega)) ?_) (iM (by omega)))))
       all_goals rw[e]
       ·rw[aaH];rfl
       ·exact aV L (aC c L a k) (show dD (bf c (L.getD a av).1 k).1=_ by rw[hcan])
       ·rw[aaH];rfl
       ·exact aW L (aC c L a k) (bV (L.getD a av).2 k)
       ·rw[aaH];rfl
       ·exact aU L (aC c L a k)
       ·rw[aaH];show L.length+1≤16384;omega
     refine ai ?_ trivial
     refine ai (by show a<L.length;exact hak) ?_
     refine ai (mxL (n:=L.length+1) (by omega) (by decide)) (ai (lt1 rfl) ?_)
     refine fA mixed aB Tryz.func63 rfl rfl ?_
     refine ai rfl ?_
     intro b hb
     refine aY (fun hb0=>?_) (fun hb0=>?_)
     ·have hb1:(L.getD a av).2.length=0:=hb hb0
      refine ai (ai (by decide) (by decide)) (ai (aH 1 rfl) ?_)
      refine ai (mxL (n:=L.length+1) (by omega) (by decide)) (ai (aH 1 rfl) ?_)
      refine ei (k+1) (ai (ai rfl rfl) (ai (ai (ai rfl (ai (ai rfl rfl) (ai (ai rfl rfl) (ai (ai (ai (ai (fun _=>rfl) (aO (by omega))) rfl) (ai (ai rfl (ai rfl (ai ?_ ?_))) (ai rfl (ai rfl (ai ?_ ?_))))) (ai (ai rfl (ai ?_ ?_)) trivial))))) rfl) (ai (ai (iL (by omega)) ?_) (iM (by omega)))))
      all_goals rw[e]
      ·rw[aaH];rfl
      ·exact aV L (aC c L a k) (show dD (bf c (L.getD a av).1 k).1=_ by rw[hcan])
      ·rw[aaH];rfl
      ·exact aW L (aC c L a k) (dA hb1 k)
      ·rw[aaH];rfl
      ·exact aU L (aC c L a k)
      ·rw[aaH];show L.length+1≤16384;omega
     ·refine ai (mxL (n:=0+(L.getD a av).2.length) (by omega) (by decide)) (ai (fun _ _=>rfl) ?_)
      refine ai (mxL (n:=0+(L.getD a av).2.length+1) (by omega) (by decide)) (ai (aH 1 rfl) ?_)
      refine ai (mxL (n:=L.length+1) (by omega) (by decide)) (ai (aH 1 rfl) ?_)
      refine ei (k+1) (ai (ai rfl rfl) (ai (ai (ai rfl (ai (ai rfl rfl) (ai (ai rfl rfl) (ai (ai (ai (ai (fun _=>rfl) (aO (by omega))) rfl) (ai (ai rfl (ai rfl (ai ?_ ?_))) (ai rfl (ai rfl (ai ?_ ?_))))) (ai (ai rfl (ai ?_ ?_)) trivial))))) rfl) (ai (ai (iL (by omega)) ?_) (iM (by omega)))))
      all_goals rw[e]
      ·rw[aaH];rfl
      ·exact aV L (aC c L a k) (show dD (bf c (L.getD a av).1 k).1=_ by rw[hcan])
      ·rw[aaH];rfl
      ·exact aW L (aC c L a k) (bV (L.getD a av).2 k)
      ·rw[aaH];rfl
      ·exact aU L (aC c L a k)
      ·rw[aaH];show L.length+1≤16384;omega
    refine ai ?_ trivial
    refine ai (by show a<L.length;exact hak) ?_
    refine ai (mxL (n:=L.length+1) (by omega) (by decide)) (ai (lt1 rfl) ?_)
    refine fA mixed aB Tryz.func63 rfl rfl ?_
    refine ai rfl ?_
    intro b hb
    refine aY (fun hb0=>?_) (fun hb0=>?_)
    ·have hb1:(L.getD a av).2.length=0:=hb hb0
     refine ai (ai (by decide) (by decide)) (ai (aH 1 rfl) ?_)
     refine ai (mxL (n:=L.length+1) (by omega) (by decide)) (ai (aH 1 rfl) ?_)
     refine ei (k+1) (ai (ai rfl rfl) (ai (ai (ai rfl (ai (ai rfl rfl) (ai (ai rfl rfl) (ai (ai (ai (ai (fun _=>rfl) (aO (by omega))) rfl) (ai (ai rfl (ai rfl (ai ?_ ?_))) (ai rfl (ai rfl (ai ?_ ?_))))) (ai (ai rfl (ai ?_ ?_)) trivial))))) rfl) (ai (ai (iL (by omega)) ?_) (iM (by omega)))))
     all_goals rw[e]
     ·rw[aaH];rfl
     ·exact aV L (aC c L a k) (show dD (bf c (L.getD a av).1 k).1=_ by rw[hcan])
     ·rw[aaH];rfl
     ·exact aW L (aC c L a k) (dA hb1 k)
     ·rw[aaH];rfl
     ·exact aU L (aC c L a k)
     ·rw[aaH];show L.length+1≤16384;omega
    ·refine ai (mxL (n:=0+(L.getD a av).2.length) (by omega) (by decide)) (ai (fun _ _=>rfl) ?_)
     refine ai (mxL (n:=0+(L.getD a av).2.length+1) (by omega) (by decide)) (ai (aH 1 rfl) ?_)
     refine ai (mxL (n:=L.length+1) (by omega) (by decide)) (ai (aH 1 rfl) ?_)
     refine ei (k+1) (ai (ai rfl rfl) (ai (ai (ai rfl (ai (ai rfl rfl) (ai (ai rfl rfl) (ai (ai (ai (ai (fun _=>rfl) (aO (by omega))) rfl) (ai (ai rfl (ai rfl (ai ?_ ?_))) (ai rfl (ai rfl (ai ?_ ?_))))) (ai (ai rfl (ai ?_ ?_)) trivial))))) rfl) (ai (ai (iL (by omega)) ?_) (iM (by omega)))))
     all_goals rw[e]
     ·rw[aaH];rfl
     ·exact aV L (aC c L a k) (show dD (bf c (L.getD a av).1 k).1=_ by rw[hcan])
     ·rw[aaH];rfl
     ·exact aW L (aC c L a k) (bV (L.getD a av).2 k)
     ·rw[aaH];rfl
     ·exact aU L (aC c L a k)
     ·rw[aaH];show L.length+1≤16384;omega
   ·refine ei _ (ai (vo) (ei ((c,(L.getD a av).1,k)) (ei [] (ai (a4 (ai (fun _=>Or.inl rfl) (ai nof (Or.inl rfl)))) (ai (by exact (ai (ai rfl (ai (ai rfl (fun _ _=>rfl)) (ai (ai rfl (fun _ _=>rfl)) (ai rfl (fun _ _=>rfl))))) (ai (ai rfl (fun _ _=>rfl)) rfl))) (ai trivial (ai (⟨hc,ho,hga.1,h2⟩) ?_)))))))
    refine aZ (b:=!(bf c (L.getD a av).1 k).2) rfl (fun h3=>?_) (fun h3=>?_)
    ·have h3:allM (L.getD a av).1 (oJ c k).fr=false:=by
      have h3:(bf c (L.getD a av).1 k).2=false:=by simpa using h3
      unfold bf at h3
      split at h3
      ·cases h3
      ·rename_i h;exact arJ.2 h
     have e:dB c l a (k+1)=L:=by rw[hst];unfold iY adds;rw[h3];simp
     refine ei (k+1) (ai (ai rfl rfl) (ai (ai (ai rfl (ai (ai rfl rfl) (ai (ai rfl rfl) (ai (ai (ai (ai (fun _=>rfl) (aO (by omega))) rfl) (ai (ai rfl (ai rfl (ai ?_ ?_))) (ai rfl (ai rfl (ai ?_ ?_))))) (ai (ai rfl (ai ?_ ?_)) trivial))))) rfl) (ai (ai (iL (by omega)) ?_) (iM (by omega)))))
     all_goals rw[e]
     ·exact fun _ _=>rfl
     ·exact fun k _=>bJ.rfl' _
     ·exact fun _=>rfl
     ·exact hkl
    have h3:allM (L.getD a av).1 (oJ c k).fr=true:=by
     have h3:(bf c (L.getD a av).1 k).2=true:=by simpa using h3
     unfold bf at h3
     split at h3
     ·assumption
     ·cases h3
    have hcan:(bf c (L.getD a av).1 k).1=(aC c L a k).1:=by unfold bf;exact congrArg Prod.fst (if_pos h3)
    have hkey:∀q,q<24→fT (bf c (L.getD a av).1 k).1 q=.val (.bool ((cu (aC c L a k).1).getD q false)):=fun q _=>by rw[hcan,sV];rfl
    refine ai (ai rfl rfl) (ei (cu (aC c L a k).1) (ai (ai (nX (by omega)) hkey) ?_))
    refine ei (bP (lK L (aC c L a k).1)) (ei (lK L (aC c L a k).1) (ai ?_ ?_))
    ·show (∀d',xO L (.bools (cu (aC c L a k).1))=some d'→_)∧(xO L (.bools (cu (aC c L a k).1))=none→_)
     rw[adn hln]
     cases lK L (aC c L a k).1
     ·exact ⟨fun d' h=>by simp at h,fun _=>⟨rfl,rfl⟩⟩
     ·exact ⟨fun d' h=>by simp at h;exact ⟨h.symm,rfl⟩,fun h=>by simp at h⟩
    refine aZ (b:=lK L (aC c L a k).1) rfl (fun h4=>?_) (fun h4=>?_)
    ·have e:dB c l a (k+1)=L:=by rw[hst];unfold iY adds;rw[h4];simp
     refine ei (k+1) (ai (ai rfl rfl) (ai (ai (ai rfl (ai (ai rfl rfl) (ai (ai rfl rfl) (ai (ai (ai (ai (fun _=>rfl) (aO (by omega))) rfl) (ai (ai rfl (ai rfl (ai ?_ ?_))) (ai rfl (ai rfl (ai ?_ ?_))))) (ai (ai rfl (ai ?_ ?_)) trivial))))) rfl) (ai (ai (iL (by omega)) ?_) (iM (by omega)))))
     all_goals rw[e]
     ·exact fun _ _=>rfl
     ·exact fun k _=>bJ.rfl' _
     ·exact fun _=>rfl
     ·exact hkl
    have hn:adds c L a k=true:=by unfold adds;rw[h3,h4];rfl
    have e:dB c l a (k+1)=L++[aC c L a k]:=by rw[hst];unfold iY;rw[if_pos hn]
    refine ah (p:=L.length=16384) (gW (by omega)) (fun h5=>?_) (fun h5=>?_)
    ·refine ai (ai (fun h=>absurd (show false=true from h) (by decide)) ?_) trivial
     show ak _ (wG c)
     rw[wG,hrun (by rw[e,aaH];show 16384<L.length+1;omega)]
     exact (ai rfl (ai rfl rfl))
    refine ai rfl (ei (cu (aC c L a k).1) (ai (ai (nX (by omega)) hkey) ?_))
    refine ei (L.length+1) (ai (ai (fun _=>rfl) (fun d hd=>absurd ((afm hln h4).symm.trans hd) (by simp))) ?_)
    refine ei (.one 0 (.one 1 (.one 4 (.one 5 (.one 6 (.one 7 (.one 10 (.alt 2 (.alt 3 (.one 8 (.altw 9 (.one 11 (.one 12 (.one 13 (.one 14 (.one 15 (.one 16 .done)))))) (.alt 11 (.wr 9 (.one 12 (.one 13 (.one 14 (.one 15 (.one 16 .done)))))) .stop))) (.alt 8 (.alt 3 (.altw 9 (.one 11 (.one 12 (.one 13 (.one 14 (.one 15 (.one 16 .done)))))) (.alt 11 (.wr 9 (.one 12 (.one 13 (.one 14 (.one 15 (.one 16 .done)))))) .stop)) (.alt 11 (.one 3 (.wr 9 (.one 12 (.one 13 (.one 14 (.one 15 (.one 16 .done))))))) .stop)) (.alt 11 (.alt 3 (.one 8 (.wr 9 (.one 12 (.one 13 (.one 14 (.one 15 (.one 16 .done))))))) (.alt 8 (.one 3 (.wr 9 (.one 12 (.one 13 (.one 14 (.one 15 (.one 16 .done))))))) .stop)) .stop))) (.alt 8 (.alt 2 (.alt 3 (.altw 9 (.one 11 (.one 12 (.one 13 (.one 14 (.one 15 (.one 16 .done)))))) (.alt 11 (.wr 9 (.one 12 (.one 13 (.one 14 (.one 15 (.one 16 .done)))))) .stop)) (.alt 11 (.one 3 (.wr 9 (.one 12 (.one 13 (.one 14 (.one 15 (.one 16 .done))))))) .stop)) (.alt 11 (.one 2 (.one 3 (.wr 9 (.one 12 (.one 13 (.one 14 (.one 15 (.one 16 .done)))))))) .stop)) (.alt 11 (.alt 2 (.alt 3 (.one 8 (.wr 9 (.one 12 (.one 13 (.one 14 (.one 15 (.one 16 .done))))))) (.alt 8 (.one 3 (.wr 9 (.one 12 (.one 13 (.one 14 (.one 15 (.one 16 .done))))))) .stop)) (.alt 8 (.one 2 (.one 3 (.wr 9 (.one 12 (.one 13 (.one 14 (.one 15 (.one 16 .done)))))))) .stop)) .stop)))))))))) (ai (by kernel_rfl) ?_)
    refine ai (ai (aaN _) (by show (a:Int)<(L.length:Int);omega)) ?_
    refine ai ?_ ?_
    ·refine ai ?_ ?_
     ·refine ai (mxL (n:=L.length+1) (by omega) (by decide)) (ai (lt1 rfl) ?_)
      refine ai (by show a<L.length;exact hak) ?_
      refine ai ?_ ?_
      ·refine fA mixed aB Tryz.func63 rfl rfl ?_
       refine ai rfl ?_
       intro b hb
       refine aY (fun hb0=>?_) (fun hb0=>?_)
       ·have hb1:(L.getD a av).2.length=0:=hb hb0
        refine ai (ai (by decide) (by decide)) (ai (aH 1 rfl) ?_)
        refine ai (mxL (n:=L.length+1) (by omega) (by decide)) (ai (aH 1 rfl) ?_)
        refine ei (k+1) (ai (ai rfl rfl) (ai (ai (ai rfl (ai (ai rfl rfl) (ai (ai rfl rfl) (ai (ai (ai (ai (fun _=>rfl) (aO (by omega))) rfl) (ai (ai rfl (ai rfl (ai ?_ ?_))) (ai rfl (ai rfl (ai ?_ ?_))))) (ai (ai rfl (ai ?_ ?_)) trivial))))) rfl) (ai (ai (iL (by omega)) ?_) (iM (by omega)))))
        all_goals rw[e]
        ·rw[aaH];rfl
        ·exact aV L (aC c L a k) (show dD (bf c (L.getD a av).1 k).1=_ by rw[hcan])
        ·rw[aaH];rfl
        ·exact aW L (aC c L a k) (dA hb1 k)
        ·rw[aaH];rfl
        ·exact aU L (aC c L a k)
        ·rw[aaH];show L.length+1≤16384;omega
       ·refine ai (mxL (n:=0+(L.getD a av).2.length) (by omega) (by decide)) (ai (fun _ _=>rfl) ?_)
        refine ai (mxL (n:=0+(L.getD a av).2.length+1) (by omega) (by decide)) (ai (aH 1 rfl) ?_)
        refine ai (mxL (n:=L.length+1) (by omega) (by decide)) (ai (aH 1 rfl) ?_)
        refine ei (k+1) (ai (ai rfl rfl) (ai (ai (ai rfl (ai (ai rfl rfl) (ai (ai rfl rfl) (ai (ai (ai (ai (fun _=>rfl) (aO (by omega))) rfl) (ai (ai rfl (ai rfl (ai ?_ ?_))) (ai rfl (ai rfl (ai ?_ ?_))))) (ai (ai rfl (ai ?_ ?_)) trivial))))) rfl) (ai (ai (iL (by omega)) ?_) (iM (by omega)))))
        all_goals rw[e]
        ·rw[aaH];rfl
        ·exact aV L (aC c L a k) (show dD (bf c (L.getD a av).1 k).1=_ by rw[hcan])
        ·rw[aaH];rfl
        ·exact aW L (aC c L a k) (bV (L.getD a av).2 k)
        ·rw[aaH];rfl
        ·exact aU L (aC c L a k)
        ·rw[aaH];show L.length+1≤16384;omega
      refine ai ?_ trivial
      refine fA mixed aB Tryz.func63 rfl rfl ?_
      refine ai rfl ?_
      intro b hb
      refine aY (fun hb0=>?_) (fun hb0=>?_)
      ·have hb1:(L.getD a av).2.length=0:=hb hb0
       refine ai (ai (by decide) (by decide)) (ai (aH 1 rfl) ?_)
       refine ai (mxL (n:=L.length+1) (by omega) (by decide)) (ai (aH 1 rfl) ?_)
       refine ei (k+1) (ai (ai rfl rfl) (ai (ai (ai rfl (ai (ai rfl rfl) (ai (ai rfl rfl) (ai (ai (ai (ai (fun _=>rfl) (aO (by omega))) rfl) (ai (ai rfl (ai rfl (ai ?_ ?_))) (ai rfl (ai rfl (ai ?_ ?_))))) (ai (ai rfl (ai ?_ ?_)) trivial))))) rfl) (ai (ai (iL (by omega)) ?_) (iM (by omega)))))
       all_goals rw[e]
       ·rw[aaH];rfl
       ·exact aV L (aC c L a k) (show dD (bf c (L.getD a av).1 k).1=_ by rw[hcan])
       ·rw[aaH];rfl
       ·exact aW L (aC c L a k) (dA hb1 k)
       ·rw[aaH];rfl
       ·exact aU L (aC c L a k)
       ·rw[aaH];show L.length+1≤16384;omega
      ·refine ai (mxL (n:=0+(L.getD a av).2.length) (by omega) (by decide)) (ai (fun _ _=>rfl) ?_)
       refine ai (mxL (n:=0+(L.getD a av).2.length+1) (by omega) (by decide)) (ai (aH 1 rfl) ?_)
       refine ai (mxL (n:=L.length+1) (by omega) (by decide)) (ai (aH 1 rfl) ?_)
       refine ei (k+1) (ai (ai rfl rfl) (ai (ai (ai rfl (ai (ai rfl rfl) (ai (ai rfl rfl) (ai (ai (ai (ai (fun _=>rfl) (aO (by omega))) rfl) (ai (ai rfl (ai rfl (ai ?_ ?_))) (ai rfl (ai rfl (ai ?_ ?_))))) (ai (ai rfl (ai ?_ ?_)) trivial))))) rfl) (ai (ai (iL (by omega)) ?_) (iM (by omega)))))
       all_goals rw[e]
       ·rw[aaH];rfl
       ·exact aV L (aC c L a k) (show dD (bf c (L.getD a av).1 k).1=_ by rw[hcan])
       ·rw[aaH];rfl
       ·exact aW L (aC c L a k) (bV (L.getD a av).2 k)
       ·rw[aaH];rfl
       ·exact aU L (aC c L a k)
       ·rw[aaH];show L.length+1≤16384;omega
     refine ai ?_ ?_
     ·refine ai (by show a<L.length;exact hak) ?_
      refine ai ?_ ?_
      ·refine ai (mxL (n:=L.length+1) (by omega) (by decide)) (ai (lt1 rfl) ?_)
       refine ai ?_ ?_
       ·refine fA mixed aB Tryz.func63 rfl rfl ?_
        refine ai rfl ?_
        intro b hb
        refine aY (fun hb0=>?_) (fun hb0=>?_)
        ·have hb1:(L.getD a av).2.length=0:=hb hb0
         refine ai (ai (by decide) (by decide)) (ai (aH 1 rfl) ?_)
         refine ai (mxL (n:=L.length+1) (by omega) (by decide)) (ai (aH 1 rfl) ?_)
         refine ei (k+1) (ai (ai rfl rfl) (ai (ai (ai rfl (ai (ai rfl rfl) (ai (ai rfl rfl) (ai (ai (ai (ai (fun _=>rfl) (aO (by omega))) rfl) (ai (ai rfl (ai rfl (ai ?_ ?_))) (ai rfl (ai rfl (ai ?_ ?_))))) (ai (ai rfl (ai ?_ ?_)) trivial))))) rfl) (ai (ai (iL (by omega)) ?_) (iM (by omega)))))
         all_goals rw[e]
         ·rw[aaH];rfl
         ·exact aV L (aC c L a k) (show dD (bf c (L.getD a av).1 k).1=_ by rw[hcan])
         ·rw[aaH];rfl
         ·exact aW L (aC c L a k) (dA hb1 k)
         ·rw[aaH];rfl
         ·exact aU L (aC c L a k)
         ·rw[aaH];show L.length+1≤16384;omega
        ·refine ai (mxL (n:=0+(L.getD a av).2.length) (by omega) (by decide)) (ai (fun _ _=>rfl) ?_)
         refine ai (mxL (n:=0+(L.getD a av).2.length+1) (by omega) (by decide)) (ai (aH 1 rfl) ?_)
         refine ai (mxL (n:=L.length+1) (by omega) (by decide)) (ai (aH 1 rfl) ?_)
         refine ei (k+1) (ai (ai rfl rfl) (ai (ai (ai rfl (ai (ai rfl rfl) (ai (ai rfl rfl) (ai (ai (ai (ai (fun _=>rfl) (aO (by omega))) rfl) (ai (ai rfl (ai rfl (ai ?_ ?_))) (ai rfl (ai rfl (ai ?_ ?_))))) (ai (ai rfl (ai ?_ ?_)) trivial))))) rfl) (ai (ai (iL (by omega)) ?_) (iM (by omega)))))
         all_goals rw[e]
         ·rw[aaH];rfl
         ·exact aV L (aC c L a k) (show dD (bf c (L.getD a av).1 k).1=_ by rw[hcan])
         ·rw[aaH];rfl
         ·exact aW L (aC c L a k) (bV (L.getD a av).2 k)
         ·rw[aaH];rfl
         ·exact aU L (aC c L a k)
         ·rw[aaH];show L.length+1≤16384;omega
       refine ai ?_ trivial
       refine fA mixed aB Tryz.func63 rfl rfl ?_
       refine ai rfl ?_
       intro b hb
       refine aY (fun hb0=>?_) (fun hb0=>?_)
       ·have hb1:(L.getD a av).2.length=0:=hb hb0
        refine ai (ai (by decide) (by decide)) (ai (aH 1 rfl) ?_)
        refine ai (mxL (n:=L.length+1) (by omega) (by decide)) (ai (aH 1 rfl) ?_)
        refine ei (k+1) (ai (ai rfl rfl) (ai (ai (ai rfl (ai (ai rfl rfl) (ai (ai rfl rfl) (ai (ai (ai (ai (fun _=>rfl) (aO (by omega))) rfl) (ai (ai rfl (ai rfl (ai ?_ ?_))) (ai rfl (ai rfl (ai ?_ ?_))))) (ai (ai rfl (ai ?_ ?_)) trivial))))) rfl) (ai (ai (iL (by omega)) ?_) (iM (by omega)))))
        all_goals rw[e]
        ·rw[aaH];rfl
        ·exact aV L (aC c L a k) (show dD (bf c (L.getD a av).1 k).1=_ by rw[hcan])
        ·rw[aaH];rfl
        ·exact aW L (aC c L a k) (dA hb1 k)
        ·rw[aaH];rfl
        ·exact aU L (aC c L a k)
        ·rw[aaH];show L.length+1≤16384;omega
       ·refine ai (mxL (n:=0+(L.getD a av).2.length) (by omega) (by decide)) (ai (fun _ _=>rfl) ?_)
        refine ai (mxL (n:=0+(L.getD a av).2.length+1) (by omega) (by decide)) (ai (aH 1 rfl) ?_)
        refine ai (mxL (n:=L.length+1) (by omega) (by decide)) (ai (aH 1 rfl) ?_)
        refine ei (k+1) (ai (ai rfl rfl) (ai (ai (ai rfl (ai (ai rfl rfl) (ai (ai rfl rfl) (ai (ai (ai (ai (fun _=>rfl) (aO (by omega))) rfl) (ai (ai rfl (ai rfl (ai ?_ ?_))) (ai rfl (ai rfl (ai ?_ ?_))))) (ai (ai rfl (ai ?_ ?_)) trivial))))) rfl) (ai (ai (iL (by omega)) ?_) (iM (by omega)))))
        all_goals rw[e]
        ·rw[aaH];rfl
        ·exact aV L (aC c L a k) (show dD (bf c (L.getD a av).1 k).1=_ by rw[hcan])
        ·rw[aaH];rfl
        ·exact aW L (aC c L a k) (bV (L.getD a av).2 k)
        ·rw[aaH];rfl
        ·exact aU L (aC c L a k)
        ·rw[aaH];show L.length+1≤16384;omega
      refine ai ?_ trivial
      refine ai (mxL (n:=L.length+1) (by omega) (by decide)) (ai (lt1 rfl) ?_)
      refine fA mixed aB Tryz.func63 rfl rfl ?_
      refine ai rfl ?_
      intro b hb
      refine aY (fun hb0=>?_) (fun hb0=>?_)
      ·have hb1:(L.getD a av).2.length=0:=hb hb0
       refine ai (ai (by decide) (by decide)) (ai (aH 1 rfl) ?_)
       refine ai (mxL (n:=L.length+1) (by omega) (by decide)) (ai (aH 1 rfl) ?_)
       refine ei (k+1) (ai (ai rfl rfl) (ai (ai (ai rfl (ai (ai rfl rfl) (ai (ai rfl rfl) (ai (ai (ai (ai (fun _=>rfl) (aO (by omega))) rfl) (ai (ai rfl (ai rfl (ai ?_ ?_))) (ai rfl (ai rfl (ai ?_ ?_))))) (ai (ai rfl (ai ?_ ?_)) trivial))))) rfl) (ai (ai (iL (by omega)) ?_) (iM (by omega)))))
       all_goals rw[e]
       ·rw[aaH];rfl
       ·exact aV L (aC c L a k) (show dD (bf c (L.getD a av).1 k).1=_ by rw[hcan])
       ·rw[aaH];rfl
       ·exact aW L (aC c L a k) (dA hb1 k)
       ·rw[aaH];rfl
       ·exact aU L (aC c L a k)
       ·rw[aaH];show L.length+1≤16384;omega
      ·refine ai (mxL (n:=0+(L.getD a av).2.length) (by omega) (by decide)) (ai (fun _ _=>rfl) ?_)
       refine ai (mxL (n:=0+(L.getD a av).2.length+1) (by omega) (by decide)) (ai (aH 1 rfl) ?_)
       refine ai (mxL (n:=L.length+1) (by omega) (by decide)) (ai (aH 1 rfl) ?_)
       refine ei (k+1) (ai (ai rfl rfl) (ai (ai (ai rfl (ai (ai rfl rfl) (ai (ai rfl rfl) (ai (ai (ai (ai (fun _=>rfl) (aO (by omega))) rfl) (ai (ai rfl (ai rfl (ai ?_ ?_))) (ai rfl (ai rfl (ai ?_ ?_))))) (ai (ai rfl (ai ?_ ?_)) trivial))))) rfl) (ai (ai (iL (by omega)) ?_) (iM (by omega)))))
       all_goals rw[e]
       ·rw[aaH];rfl
       ·exact aV L (aC c L a k) (show dD (bf c (L.getD a av).1 k).1=_ by rw[hcan])
       ·rw[aaH];rfl
       ·exact aW L (aC c L a k) (bV (L.getD a av).2 k)
       ·rw[aaH];rfl
       ·exact aU L (aC c L a k)
       ·rw[aaH];show L.length+1≤16384;omega
     refine ai ?_ trivial
     refine ai ?_ ?_
     ·refine ai (mxL (n:=L.length+1) (by omega) (by decide)) (ai (lt1 rfl) ?_)
      refine ai (by show a<L.length;exact hak) ?_
      refine fA mixed aB Tryz.func63 rfl rfl ?_
      refine ai rfl ?_
      intro b hb
      refine aY (fun hb0=>?_) (fun hb0=>?_)
      ·have hb1:(L.getD a av).2.length=0:=hb hb0
       refine ai (ai (by decide) (by decide)) (ai (aH 1 rfl) ?_)
       refine ai (mxL (n:=L.length+1) (by omega) (by decide)) (ai (aH 1 rfl) ?_)
       refine ei (k+1) (ai (ai rfl rfl) (ai (ai (ai rfl (ai (ai rfl rfl) (ai (ai rfl rfl) (ai (ai (ai (ai (fun _=>rfl) (aO (by omega))) rfl) (ai (ai rfl (ai rfl (ai ?_ ?_))) (ai rfl (ai rfl (ai ?_ ?_))))) (ai (ai rfl (ai ?_ ?_)) trivial))))) rfl) (ai (ai (iL (by omega)) ?_) (iM (by omega)))))
       all_goals rw[e]
       ·rw[aaH];rfl
       ·exact aV L (aC c L a k) (show dD (bf c (L.getD a av).1 k).1=_ by rw[hcan])
       ·rw[aaH];rfl
       ·exact aW L (aC c L a k) (dA hb1 k)
       ·rw[aaH];rfl
       ·exact aU L (aC c L a k)
       ·rw[aaH];show L.length+1≤16384;omega
      ·refine ai (mxL (n:=0+(L.getD a av).2.length) (by omega) (by decide)) (ai (fun _ _=>rfl) ?_)
       refine ai (mxL (n:=0+(L.getD a av).2.length+1) (by omega) (by decide)) (ai (aH 1 rfl) ?_)
       refine ai (mxL (n:=L.length+1) (by omega) (by decide)) (ai (aH 1 rfl) ?_)
       refine ei (k+1) (ai (ai rfl rfl) (ai (ai (ai rfl (ai (ai rfl rfl) (ai (ai rfl rfl) (ai (ai (ai (ai (fun _=>rfl) (aO (by omega))) rfl) (ai (ai rfl (ai rfl (ai ?_ ?_))) (ai rfl (ai rfl (ai ?_ ?_))))) (ai (ai rfl (ai ?_ ?_)) trivial))))) rfl) (ai (ai (iL (by omega)) ?_) (iM (by omega)))))
       all_goals rw[e]
       ·rw[aaH];rfl
       ·exact aV L (aC c L a k) (show dD (bf c (L.getD a av).1 k).1=_ by rw[hcan])
       ·rw[aaH];rfl
       ·exact aW L (aC c L a k) (bV (L.getD a av).2 k)
       ·rw[aaH];rfl
       ·exact aU L (aC c L a k)
       ·rw[aaH];show L.length+1≤16384;omega
     refine ai ?_ trivial
     refine ai (by show a<L.length;exact hak) ?_
     refine ai (mxL (n:=L.length+1) (by omega) (by decide)) (ai (lt1 rfl) ?_)
     refine fA mixed aB Tryz.func63 rfl rfl ?_
     refine ai rfl ?_
     intro b hb
     refine aY (fun hb0=>?_) (fun hb0=>?_)
     ·have hb1:(L.getD a av).2.length=0:=hb hb0
      refine ai (ai (by decide) (by decide)) (ai (aH 1 rfl) ?_)
      refine ai (mxL (n:=L.length+1) (by omega) (by decide)) (ai (aH 1 rfl) ?_)
      refine ei (k+1) (ai (ai rfl rfl) (ai (ai (ai rfl (ai (ai rfl rfl) (ai (ai rfl rfl) (ai (ai (ai (ai (fun _=>rfl) (aO (by omega))) rfl) (ai (ai rfl (ai rfl (ai ?_ ?_))) (ai rfl (ai rfl (ai ?_ ?_))))) (ai (ai rfl (ai ?_ ?_)) trivial))))) rfl) (ai (ai (iL (by omega)) ?_) (iM (by omega)))))
      all_goals rw[e]
      ·rw[aaH];rfl
      ·exact aV L (aC c L a k) (show dD (bf c (L.getD a av).1 k).1=_ by rw[hcan])
      ·rw[aaH];rfl
      ·exact aW L (aC c L a k) (dA hb1 k)
      ·rw[aaH];rfl
      ·exact aU L (aC c L a k)
      ·rw[aaH];show L.length+1≤16384;omega
     ·refine ai (mxL (n:=0+(L.getD a av).2.length) (by omega) (by decide)) (ai (fun _ _=>rfl) ?_)
      refine ai (mxL (n:=0+(L.getD a av).2.length+1) (by omega) (by decide)) (ai (aH 1 rfl) ?_)
      refine ai (mxL (n:=L.length+1) (by omega) (by decide)) (ai (aH 1 rfl) ?_)
      refine ei (k+1) (ai (ai rfl rfl) (ai (ai (ai rfl (ai (ai rfl rfl) (ai (ai rfl rfl) (ai (ai (ai (ai (fun _=>rfl) (aO (by omega))) rfl) (ai (ai rfl (ai rfl (ai ?_ ?_))) (ai rfl (ai rfl (ai ?_ ?_))))) (ai (ai rfl (ai ?_ ?_)) trivial))))) rfl) (ai (ai (iL (by omega)) ?_) (iM (by omega)))))
      all_goals rw[e]
      ·rw[aaH];rfl
      ·exact aV L (aC c L a k) (show dD (bf c (L.getD a av).1 k).1=_ by rw[hcan])
      ·rw[aaH];rfl
      ·exact aW L (aC c L a k) (bV (L.getD a av).2 k)
      ·rw[aaH];rfl
      ·exact aU L (aC c L a k)
      ·rw[aaH];show L.length+1≤16384;omega
    refine ai ?_ ?_
    ·refine ai (by show a<L.length;exact hak) ?_
     refine ai ?_ ?_
     ·refine ai ?_ ?_
      ·refine ai (mxL (n:=L.length+1) (by omega) (by decide)) (ai (lt1 rfl) ?_)
       refine ai ?_ ?_
       ·refine fA mixed aB Tryz.func63 rfl rfl ?_
        refine ai rfl ?_
        intro b hb
        refine aY (fun hb0=>?_) (fun hb0=>?_)
        ·have hb1:(L.getD a av).2.length=0:=hb hb0
         refine ai (ai (by decide) (by decide)) (ai (aH 1 rfl) ?_)
         refine ai (mxL (n:=L.length+1) (by omega) (by decide)) (ai (aH 1 rfl) ?_)
         refine ei (k+1) (ai (ai rfl rfl) (ai (ai (ai rfl (ai (ai rfl rfl) (ai (ai rfl rfl) (ai (ai (ai (ai (fun _=>rfl) (aO (by omega))) rfl) (ai (ai rfl (ai rfl (ai ?_ ?_))) (ai rfl (ai rfl (ai ?_ ?_))))) (ai (ai rfl (ai ?_ ?_)) trivial))))) rfl) (ai (ai (iL (by omega)) ?_) (iM (by omega)))))
         all_goals rw[e]
         ·rw[aaH];rfl
         ·exact aV L (aC c L a k) (show dD (bf c (L.getD a av).1 k).1=_ by rw[hcan])
         ·rw[aaH];rfl
         ·exact aW L (aC c L a k) (dA hb1 k)
         ·rw[aaH];rfl
         ·exact aU L (aC c L a k)
         ·rw[aaH];show L.length+1≤16384;omega
        ·refine ai (mxL (n:=0+(L.getD a av).2.length) (by omega) (by decide)) (ai (fun _ _=>rfl) ?_)
         refine ai (mxL (n:=0+(L.getD a av).2.length+1) (by omega) (by decide)) (ai (aH 1 rfl) ?_)
         refine ai (mxL (n:=L.length+1) (by omega) (by decide)) (ai (aH 1 rfl) ?_)
         refine ei (k+1) (ai (ai rfl rfl) (ai (ai (ai rfl (ai (ai rfl rfl) (ai (ai rfl rfl) (ai (ai (ai (ai (fun _=>rfl) (aO (by omega))) rfl) (ai (ai rfl (ai rfl (ai ?_ ?_))) (ai rfl (ai rfl (ai ?_ ?_))))) (ai (ai rfl (ai ?_ ?_)) trivial))))) rfl) (ai (ai (iL (by omega)) ?_) (iM (by omega)))))
         all_goals rw[e]
         ·rw[aaH];rfl
         ·exact aV L (aC c L a k) (show dD (bf c (L.getD a av).1 k).1=_ by rw[hcan])
         ·rw[aaH];rfl
         ·exact aW L (aC c L a k) (bV (L.getD a av).2 k)
         ·rw[aaH];rfl
         ·exact aU L (aC c L a k)
         ·rw[aaH];show L.length+1≤16384;omega
       refine ai ?_ trivial
       refine fA mixed aB Tryz.func63 rfl rfl ?_
       refine ai rfl ?_
       intro b hb
       refine aY (fun hb0=>?_) (fun hb0=>?_)
       ·have hb1:(L.getD a av).2.length=0:=hb hb0
        refine ai (ai (by decide) (by decide)) (ai (aH 1 rfl) ?_)
        refine ai (mxL (n:=L.length+1) (by omega) (by decide)) (ai (aH 1 rfl) ?_)
        refine ei (k+1) (ai (ai rfl rfl) (ai (ai (ai rfl (ai (ai rfl rfl) (ai (ai rfl rfl) (ai (ai (ai (ai (fun _=>rfl) (aO (by omega))) rfl) (ai (ai rfl (ai rfl (ai ?_ ?_))) (ai rfl (ai rfl (ai ?_ ?_))))) (ai (ai rfl (ai ?_ ?_)) trivial))))) rfl) (ai (ai (iL (by omega)) ?_) (iM (by omega)))))
        all_goals rw[e]
        ·rw[aaH];rfl
        ·exact aV L (aC c L a k) (show dD (bf c (L.getD a av).1 k).1=_ by rw[hcan])
        ·rw[aaH];rfl
        ·exact aW L (aC c L a k) (dA hb1 k)
        ·rw[aaH];rfl
        ·exact aU L (aC c L a k)
        ·rw[aaH];show L.length+1≤16384;omega
       ·refine ai (mxL (n:=0+(L.getD a av).2.length) (by omega) (by decide)) (ai (fun _ _=>rfl) ?_)
        refine ai (mxL (n:=0+(L.getD a av).2.length+1) (by omega) (by decide)) (ai (aH 1 rfl) ?_)
        refine ai (mxL (n:=L.length+1) (by omega) (by decide)) (ai (aH 1 rfl) ?_)
        refine ei (k+1) (ai (ai rfl rfl) (ai (ai (ai rfl (ai (ai rfl rfl) (ai (ai rfl rfl) (ai (ai (ai (ai (fun _=>rfl) (aO (by omega))) rfl) (ai (ai rfl (ai rfl (ai ?_ ?_))) (ai rfl (ai rfl (ai ?_ ?_))))) (ai (ai rfl (ai ?_ ?_)) trivial))))) rfl) (ai (ai (iL (by omega)) ?_) (iM (by omega)))))
        all_goals rw[e]
        ·rw[aaH];rfl
        ·exact aV L (aC c L a k) (show dD (bf c (L.getD a av).1 k).1=_ by rw[hcan])
        ·rw[aaH];rfl
        ·exact aW L (aC c L a k) (bV (L.getD a av).2 k)
        ·rw[aaH];rfl
        ·exact aU L (aC c L a k)
        ·rw[aaH];show L.length+1≤16384;omega
      refine ai ?_ trivial
      refine ai (mxL (n:=L.length+1) (by omega) (by decide)) (ai (lt1 rfl) ?_)
      refine fA mixed aB Tryz.func63 rfl rfl ?_
      refine ai rfl ?_
      intro b hb
      refine aY (fun hb0=>?_) (fun hb0=>?_)
      ·have hb1:(L.getD a av).2.length=0:=hb hb0
       refine ai (ai (by decide) (by decide)) (ai (aH 1 rfl) ?_)
       refine ai (mxL (n:=L.length+1) (by omega) (by decide)) (ai (aH 1 rfl) ?_)
       refine ei (k+1) (ai (ai rfl rfl) (ai (ai (ai rfl (ai (ai rfl rfl) (ai (ai rfl rfl) (ai (ai (ai (ai (fun _=>rfl) (aO (by omega))) rfl) (ai (ai rfl (ai rfl (ai ?_ ?_))) (ai rfl (ai rfl (ai ?_ ?_))))) (ai (ai rfl (ai ?_ ?_)) trivial))))) rfl) (ai (ai (iL (by omega)) ?_) (iM (by omega)))))
       all_goals rw[e]
       ·rw[aaH];rfl
       ·exact aV L (aC c L a k) (show dD (bf c (L.getD a av).1 k).1=_ by rw[hcan])
       ·rw[aaH];rfl
       ·exact aW L (aC c L a k) (dA hb1 k)
       ·rw[aaH];rfl
       ·exact aU L (aC c L a k)
       ·rw[aaH];show L.length+1≤16384;omega
      ·refine ai (mxL (n:=0+(L.getD a av).2.length) (by omega) (by decide)) (ai (fun _ _=>rfl) ?_)
       refine ai (mxL (n:=0+(L.getD a av).2.length+1) (by omega) (by decide)) (ai (aH 1 rfl) ?_)
       refine ai (mxL (n:=L.length+1) (by omega) (by decide)) (ai (aH 1 rfl) ?_)
       refine ei (k+1) (ai (ai rfl rfl) (ai (ai (ai rfl (ai (ai rfl rfl) (ai (ai rfl rfl) (ai (ai (ai (ai (fun _=>rfl) (aO (by omega))) rfl) (ai (ai rfl (ai rfl (ai ?_ ?_))) (ai rfl (ai rfl (ai ?_ ?_))))) (ai (ai rfl (ai ?_ ?_)) trivial))))) rfl) (ai (ai (iL (by omega)) ?_) (iM (by omega)))))
       all_goals rw[e]
       ·rw[aaH];rfl
       ·exact aV L (aC c L a k) (show dD (bf c (L.getD a av).1 k).1=_ by rw[hcan])
       ·rw[aaH];rfl
       ·exact aW L (aC c L a k) (bV (L.getD a av).2 k)
       ·rw[aaH];rfl
       ·exact aU L (aC c L a k)
       ·rw[aaH];show L.length+1≤16384;omega
     refine ai ?_ trivial
     refine ai (mxL (n:=L.length+1) (by omega) (by decide)) (ai (lt1 rfl) ?_)
     refine fA mixed aB Tryz.func63 rfl rfl ?_
     refine ai rfl ?_
     intro b hb
     refine aY (fun hb0=>?_) (fun hb0=>?_)
     ·have hb1:(L.getD a av).2.length=0:=hb hb0
      refine ai (ai (by decide) (by decide)) (ai (aH 1 rfl) ?_)
      refine ai (mxL (n:=L.length+1) (by omega) (by decide)) (ai (aH 1 rfl) ?_)
      refine ei (k+1) (ai (ai rfl rfl) (ai (ai (ai rfl (ai (ai rfl rfl) (ai (ai rfl rfl) (ai (ai (ai (ai (fun _=>rfl) (aO (by omega))) rfl) (ai (ai rfl (ai rfl (ai ?_ ?_))) (ai rfl (ai rfl (ai ?_ ?_))))) (ai (ai rfl (ai ?_ ?_)) trivial))))) rfl) (ai (ai (iL (by omega)) ?_) (iM (by omega)))))
      all_goals rw[e]
      ·rw[aaH];rfl
      ·exact aV L (aC c L a k) (show dD (bf c (L.getD a av).1 k).1=_ by rw[hcan])
      ·rw[aaH];rfl
      ·exact aW L (aC c L a k) (dA hb1 k)
      ·rw[aaH];rfl
      ·exact aU L (aC c L a k)
      ·rw[aaH];show L.length+1≤16384;omega
     ·refine ai (mxL (n:=0+(L.getD a av).2.length) (by omega) (by decide)) (ai (fun _ _=>rfl) ?_)
      refine ai (mxL (n:=0+(L.getD a av).2.length+1) (by omega) (by decide)) (ai (aH 1 rfl) ?_)
      refine ai (mxL (n:=L.length+1) (by omega) (by decide)) (ai (aH 1 rfl) ?_)
      refine ei (k+1) (ai (ai rfl rfl) (ai (ai (ai rfl (ai (ai rfl rfl) (ai (ai rfl rfl) (ai (ai (ai (ai (fun _=>rfl) (aO (by omega))) rfl) (ai (ai rfl (ai rfl (ai ?_ ?_))) (ai rfl (ai rfl (ai ?_ ?_))))) (ai (ai rfl (ai ?_ ?_)) trivial))))) rfl) (ai (ai (iL (by omega)) ?_) (iM (by omega)))))
      all_goals rw[e]
      ·rw[aaH];rfl
      ·exact aV L (aC c L a k) (show dD (bf c (L.getD a av).1 k).1=_ by rw[hcan])
      ·rw[aaH];rfl
      ·exact aW L (aC c L a k) (bV (L.getD a av).2 k)
      ·rw[aaH];rfl
      ·exact aU L (aC c L a k)
      ·rw[aaH];show L.length+1≤16384;omega
    refine ai ?_ trivial
    refine ai ?_ ?_
    ·refine ai ?_ ?_
     ·refine ai (mxL (n:=L.length+1) (by omega) (by decide)) (ai (lt1 rfl) ?_)
      refine ai (by show a<L.length;exact hak) ?_
      refine fA mixed aB Tryz.func63 rfl rfl ?_
      refine ai rfl ?_
      intro b hb
      refine aY (fun hb0=>?_) (fun hb0=>?_)
      ·have hb1:(L.getD a av).2.length=0:=hb hb0
       refine ai (ai (by decide) (by decide)) (ai (aH 1 rfl) ?_)
       refine ai (mxL (n:=L.length+1) (by omega) (by decide)) (ai (aH 1 rfl) ?_)
       refine ei (k+1) (ai (ai rfl rfl) (ai (ai (ai rfl (ai (ai rfl rfl) (ai (ai rfl rfl) (ai (ai (ai (ai (fun _=>rfl) (aO (by omega))) rfl) (ai (ai rfl (ai rfl (ai ?_ ?_))) (ai rfl (ai rfl (ai ?_ ?_))))) (ai (ai rfl (ai ?_ ?_)) trivial))))) rfl) (ai (ai (iL (by omega)) ?_) (iM (by omega)))))
       all_goals rw[e]
       ·rw[aaH];rfl
       ·exact aV L (aC c L a k) (show dD (bf c (L.getD a av).1 k).1=_ by rw[hcan])
       ·rw[aaH];rfl
       ·exact aW L (aC c L a k) (dA hb1 k)
       ·rw[aaH];rfl
       ·exact aU L (aC c L a k)
       ·rw[aaH];show L.length+1≤16384;omega
      ·refine ai (mxL (n:=0+(L.getD a av).2.length) (by omega) (by decide)) (ai (fun _ _=>rfl) ?_)
       refine ai (mxL (n:=0+(L.getD a av).2.length+1) (by omega) (by decide)) (ai (aH 1 rfl) ?_)
       refine ai (mxL (n:=L.length+1) (by omega) (by decide)) (ai (aH 1 rfl) ?_)
       refine ei (k+1) (ai (ai rfl rfl) (ai (ai (ai rfl (ai (ai rfl rfl) (ai (ai rfl rfl) (ai (ai (ai (ai (fun _=>rfl) (aO (by omega))) rfl) (ai (ai rfl (ai rfl (ai ?_ ?_))) (ai rfl (ai rfl (ai ?_ ?_))))) (ai (ai rfl (ai ?_ ?_)) trivial))))) rfl) (ai (ai (iL (by omega)) ?_) (iM (by omega)))))
       all_goals rw[e]
       ·rw[aaH];rfl
       ·exact aV L (aC c L a k) (show dD (bf c (L.getD a av).1 k).1=_ by rw[hcan])
       ·rw[aaH];rfl
       ·exact aW L (aC c L a k) (bV (L.getD a av).2 k)
       ·rw[aaH];rfl
       ·exact aU L (aC c L a k)
       ·rw[aaH];show L.length+1≤16384;omega
     refine ai ?_ trivial
     refine ai (by show a<L.length;exact hak) ?_
     refine ai (mxL (n:=L.length+1) (by omega) (by decide)) (ai (lt1 rfl) ?_)
     refine fA mixed aB Tryz.func63 rfl rfl ?_
     refine ai rfl ?_
     intro b hb
     refine aY (fun hb0=>?_) (fun hb0=>?_)
     ·have hb1:(L.getD a av).2.length=0:=hb hb0
      refine ai (ai (by decide) (by decide)) (ai (aH 1 rfl) ?_)
      refine ai (mxL (n:=L.length+1) (by omega) (by decide)) (ai (aH 1 rfl) ?_)
      refine ei (k+1) (ai (ai rfl rfl) (ai (ai (ai rfl (ai (ai rfl rfl) (ai (ai rfl rfl) (ai (ai (ai (ai (fun _=>rfl) (aO (by omega))) rfl) (ai (ai rfl (ai rfl (ai ?_ ?_))) (ai rfl (ai rfl (ai ?_ ?_))))) (ai (ai rfl (ai ?_ ?_)) trivial))))) rfl) (ai (ai (iL (by omega)) ?_) (iM (by omega)))))
      all_goals rw[e]
      ·rw[aaH];rfl
      ·exact aV L (aC c L a k) (show dD (bf c (L.getD a av).1 k).1=_ by rw[hcan])
      ·rw[aaH];rfl
      ·exact aW L (aC c L a k) (dA hb1 k)
      ·rw[aaH];rfl
      ·exact aU L (aC c L a k)
      ·rw[aaH];show L.length+1≤16384;omega
     ·refine ai (mxL (n:=0+(L.getD a av).2.length) (by omega) (by decide)) (ai (fun _ _=>rfl) ?_)
      refine ai (mxL (n:=0+(L.getD a av).2.length+1) (by omega) (by decide)) (ai (aH 1 rfl) ?_)
      refine ai (mxL (n:=L.length+1) (by omega) (by decide)) (ai (aH 1 rfl) ?_)
      refine ei (k+1) (ai (ai rfl rfl) (ai (ai (ai rfl (ai (ai rfl rfl) (ai (ai rfl rfl) (ai (ai (ai (ai (fun _=>rfl) (aO (by omega))) rfl) (ai (ai rfl (ai rfl (ai ?_ ?_))) (ai rfl (ai rfl (ai ?_ ?_))))) (ai (ai rfl (ai ?_ ?_)) trivial))))) rfl) (ai (ai (iL (by omega)) ?_) (iM (by omega)))))
      all_goals rw[e]
      ·rw[aaH];rfl
      ·exact aV L (aC c L a k) (show dD (bf c (L.getD a av).1 k).1=_ by rw[hcan])
      ·rw[aaH];rfl
      ·exact aW L (aC c L a k) (bV (L.getD a av).2 k)
      ·rw[aaH];rfl
      ·exact aU L (aC c L a k)
      ·rw[aaH];show L.length+1≤16384;omega
    refine ai ?_ trivial
    refine ai (by show a<L.length;exact hak) ?_
    refine ai (mxL (n:=L.length+1) (by omega) (by decide)) (ai (lt1 rfl) ?_)
    refine fA mixed aB Tryz.func63 rfl rfl ?_
    refine ai rfl ?_
    intro b hb
    refine aY (fun hb0=>?_) (fun hb0=>?_)
    ·have hb1:(L.getD a av).2.length=0:=hb hb0
     refine ai (ai (by decide) (by decide)) (ai (aH 1 rfl) ?_)
     refine ai (mxL (n:=L.length+1) (by omega) (by decide)) (ai (aH 1 rfl) ?_)
     refine ei (k+1) (ai (ai rfl rfl) (ai (ai (ai rfl (ai (ai rfl rfl) (ai (ai rfl rfl) (ai (ai (ai (ai (fun _=>rfl) (aO (by omega))) rfl) (ai (ai rfl (ai rfl (ai ?_ ?_))) (ai rfl (ai rfl (ai ?_ ?_))))) (ai (ai rfl (ai ?_ ?_)) trivial))))) rfl) (ai (ai (iL (by omega)) ?_) (iM (by omega)))))
     all_goals rw[e]
     ·rw[aaH];rfl
     ·exact aV L (aC c L a k) (show dD (bf c (L.getD a av).1 k).1=_ by rw[hcan])
     ·rw[aaH];rfl
     ·exact aW L (aC c L a k) (dA hb1 k)
     ·rw[aaH];rfl
     ·exact aU L (aC c L a k)
     ·rw[aaH];show L.length+1≤16384;omega
    ·refine ai (mxL (n:=0+(L.getD a av).2.length) (by omega) (by decide)) (ai (fun _ _=>rfl) ?_)
     refine ai (mxL (n:=0+(L.getD a av).2.length+1) (by omega) (by decide)) (ai (aH 1 rfl) ?_)
     refine ai (mxL (n:=L.length+1) (by omega) (by decide)) (ai (aH 1 rfl) ?_)
     refine ei (k+1) (ai (ai rfl rfl) (ai (ai (ai rfl (ai (ai rfl rfl) (ai (ai rfl rfl) (ai (ai (ai (ai (fun _=>rfl) (aO (by omega))) rfl) (ai (ai rfl (ai rfl (ai ?_ ?_))) (ai rfl (ai rfl (ai ?_ ?_))))) (ai (ai rfl (ai ?_ ?_)) trivial))))) rfl) (ai (ai (iL (by omega)) ?_) (iM (by omega)))))
     all_goals rw[e]
     ·rw[aaH];rfl
     ·exact aV L (aC c L a k) (show dD (bf c (L.getD a av).1 k).1=_ by rw[hcan])
     ·rw[aaH];rfl
     ·exact aW L (aC c L a k) (bV (L.getD a av).2 k)
     ·rw[aaH];rfl
     ·exact aU L (aC c L a k)
     ·rw[aaH];show L.length+1≤16384;omega
  ·obtain rfl:k=c.trs.length:=by omega
   refine ei ((a+1,dB c l a c.trs.length)) (ai (ai rfl rfl) (ai (ai ?_ rfl) (ai ?_ ?_)))
   ·refine (ai rfl (ai (ai rfl rfl) (ai (ai rfl rfl) (ai (ai (ai (ai (fun _=>rfl) (aO (by omega))) rfl) (ai (ai rfl (ai rfl (ai rfl (fun _ _=>rfl)))) (ai rfl (ai rfl (ai rfl ?_))))) (ai (ai rfl (ai rfl (fun _=>rfl))) trivial)))))
    exact fun k _=>bJ.rfl' _
   ·exact ⟨by show a+1≤(dB c l a c.trs.length).length;rw[ht,aaH];omega,hkl,⟨hgk,hways⟩,(af5 h1 hkl).symm.trans (by rw[←hr,show 16385-a=16385-(a+1)+1 by omega])⟩
   ·show 16385-(a+1)<16385-a;omega
 ·have e:lH c=some l:=by rw[←hr];exact ae6 (by omega)
  refine ai (ai (fun h=>absurd (show false=true from h) (by decide)) ?_) trivial
  show ak _ (wG c)
  rw[wG,e]
  exact (ai (ai rfl (fun _ _=>rfl)) (ai (ai rfl (fun _ _=>rfl)) rfl))
def jP (c:aS):Int:=if bE c=0 then (match lH c with | some _=>0 | none=>12) else bE c
def dR (c:aS):List Mk:=if bE c=0 then (match lH c with | some l=>l | none=>[]) else []
def uD (c:aS):PV:=.tup [af8 (dR c),amX (dR c),iP (jP c)]
theorem am5 {c:aS} (h:bE c=0):wG c=uD c:=by
 unfold wG uD dR jP
 rw[if_pos h,if_pos h]
 cases lH c<;>rfl
theorem uM:aK Tryz.prog 60 (iC (fun c:aS=>[jy c]) gD uD):=by
 refine aX (Tb:=tab) mixed aB Tryz.func60 rfl rfl ?_
 rintro (c:aS) hpre
 refine ai (ai rfl (ai rfl rfl)) ?_
 refine ei _ (ai (akw) (ei (c) (ei [] (ai (a4 (ai (fun _=>Or.inl rfl) (ai nof (Or.inl rfl)))) (ai (by exact (ai rfl (ai (ai rfl (fun _ _=>rfl)) (ai (ai rfl (fun _ _=>rfl)) (ai rfl (fun _ _=>rfl)))))) (ai trivial (ai (hpre) ?_)))))))
 refine bn (p:=bE c=0) (bM (by omega)) (fun h1=>?_) (fun h1=>?_)
 ·have e1:jP c=bE c:=if_neg h1
  have e2:dR c=[]:=if_neg h1
  refine ai (ai (fun h=>absurd (show false=true from h) (by decide)) ?_) trivial
  show ak _ (uD c)
  rw[uD,e1,e2]
  exact (ai rfl (ai rfl rfl))
 refine ei _ (ai ((jJ ajs c ⟨h1,hpre⟩ (r:=uD c) (am5 h1))) (ei (()) (ei [] (ai (a4 (ai (fun _=>Or.inl rfl) (ai nof (Or.inl rfl)))) (ai (by exact (ai rfl (ai (ai rfl (fun _ _=>rfl)) (ai (ai rfl (fun _ _=>rfl)) (ai rfl (fun _ _=>rfl)))))) (ai trivial (ai (trivial) ?_)))))))
 refine ai (ai (fun h=>absurd (show false=true from h) (by decide)) ?_) trivial
 show ak _ (uD c)
 rw[uD]
 exact (ai (ai rfl (fun _ _=>rfl)) (ai (ai rfl (fun _ _=>rfl)) rfl))
theorem qL {c:aS} (h:jP c=0):bE c=0∧lH c=some (dR c):=by
 unfold jP at h
 split at h
 ·rename_i h1
  refine ⟨h1,?_⟩
  unfold dR;rw[if_pos h1]
  cases e:lH c with
  | none=>rw[e] at h;cases h
  | some l=>rfl
 ·rename_i h1;exact absurd h h1
theorem afp {c:aS}:∀{f:Nat} {l r:List Mk} {a:Nat},a≤l.length→l.length≤16384→mh c l→uL a l→oo c f l a=some r→mh c r∧r.length≤16384∧uL 16384 r
 | 0,l,r,a,ha,hl,hg,hw,h=>by
  obtain rfl:=Option.some.inj h
  exact ⟨hg,hl,fun y hy=>by have:=hw y hy;omega⟩
 | f+1,l,r,a,ha,hl,hg,hw,h=>by
  unfold oo at h
  split at h
  ·obtain rfl:=Option.some.inj h
   exact ⟨hg,hl,fun y hy=>by have:=hw y hy;omega⟩
  ·rename_i h1
   split at h
   ·cases h
   ·rename_i h2
    obtain ⟨t,ht⟩:=qc c l a c.trs.length
    exact afp (by rw[ht,aaH];omega) (by omega) (good_row hg (by omega) (afK _)) (aao (by omega) hw _) h
theorem om {c:aS} (h:jP c=0):mh c (dR c)∧(dR c).length≤16384∧uL 16384 (dR c):=
 afp (adO _) (by show 1≤16384;decide) (abq c) (fun y hy=>by simp only[mk1,agp] at hy;subst hy;exact adO _) (qL h).2
def eU (c:aS) (i:Nat) (m:List Bool):Bool:=allM m (oJ c i).fr
theorem alC (c:aS) (m:List Bool) (i:Nat):(bf c m i).2=eU c i m:=by
 unfold bf
 split
 ·rename_i h;exact h.symm
 ·rename_i h;exact (arJ.2 h).symm
def alL (c:aS) (i:Nat) (m:List Bool):Prop:=bE c=0∧gD c∧m.length=c.sts.length∧i<c.trs.length
theorem amY:aK Tryz.prog 102 { A:=aS×Nat×List Bool,args:=fun a=>[sJ a.2.2,.p false (.pt (chK a.1) 0),.own 0 0],objs:=fun a=>[.cells 3 [iA a.2.1]],pre:=fun a=>alL a.1 a.2.1 a.2.2,res:=fun a=>bP (eU a.1 a.2.1 a.2.2),objs':=fun _=>[],fresh:=true,ro:=1 }:=by
 refine aX (Tb:=tab) mixed aB Tryz.func102 rfl rfl ?_
 rintro ⟨c,i,m⟩ hpre
 refine ai (ai rfl (ai rfl rfl)) ?_
 obtain ⟨hc,ho,hm,hi⟩:=hpre
 refine ei _ (ai ((jJ vo (c,m,i) ⟨hc,ho,hm,hi⟩ (r:=.tup [sZ (bf c m i).1,bP (eU c i m)]) (by show uN c m i=_;unfold uN;rw[alC]))) (ei (()) (ei [] (ai (a4 (ai (fun _=>Or.inl rfl) (ai nof (Or.inl rfl)))) (ai (by exact (ai (ai rfl (ai (ai rfl (fun _ _=>rfl)) (ai (ai rfl (fun _ _=>rfl)) (ai rfl (fun _ _=>rfl))))) (ai (ai rfl (fun _ _=>rfl)) rfl))) (ai trivial (ai (trivial) ?_)))))))
 refine ai (ai (fun _=>trivial) ?_) trivial
 exact rfl
def aib (c:aS) (i:Nat) (l:List Mk):Prop:=bE c=0∧gD c∧i<c.trs.length∧l.length≤1000000∧∀y∈l,y.1.length=c.sts.length
theorem aos:aK Tryz.prog 154 { A:=aS×Nat×List Mk,args:=fun a=>[.p false (af8 a.2.2),.fn 102 [.p false (.pt (chK a.1) 0),.own 0 0]],objs:=fun a=>[.cells 3 [iA a.2.1]],pre:=fun a=>aib a.1 a.2.1 a.2.2,res:=fun a=>iP (jv (fun y=>eU a.1 a.2.1 y.1) a.2.2),objs':=fun _=>[],fresh:=true,ro:=1 }:=by
 refine aX (Tb:=tab) mixed aB Tryz.func154 rfl rfl ?_
 rintro ⟨c,i,l⟩ hpre
 refine ai (ai rfl (ai rfl rfl)) ?_
 obtain ⟨hc,ho,hi,hl,hx⟩:=hpre
 have hl:l.length≤1000000:=hl
 refine ei (bC.inv { X:=Nat,up:=fun k=>[(8,.s (iA k))],uo:=fun k=>[],inv:=fun k=>k≤l.length∧(∀y∈l.take k,eU c i y.1=false),meas:=fun k=>l.length-k,x0:=0 }) ?_
 refine ai (ai (ai (by exact (a4 (ai rfl rfl))) (ai (by exact (ai (ai (fun _=>rfl) (iE (by simp only[zz,reduceCtorEq];rfl))) rfl)) (by exact trivial))) rfl) (ai (ai (adO _) ?_) ?_)
 ·exact fun y hy=>absurd hy (by simp)
 intro (k:Nat) ⟨hk,hall⟩
 refine ah (p:=k<l.length) (au (by dsimp only;omega)) (fun h1=>?_) (fun h1=>?_)
 ·refine ai (ai (aaN _) (iN (n:=l.length) (by omega))) (ai rfl ?_)
  refine ei (fT (l.getD k av).1) (ai (abJ _) ?_)
  refine ei _ (ai (amY) (ei ((c,i,(l.getD k av).1)) (ei [0] (ai (a4 (ai (fun _=>Or.inl rfl) (ai nof (Or.inl rfl)))) (ai (by exact (ai (ai rfl (fun _ _=>rfl)) (ai (ai rfl rfl) (ai rfl rfl)))) (ai (by exact (ai rfl rfl)) (ai (⟨hc,ho,hx _ (aa5 (bG av h1)),hi⟩) ?_)))))))
  refine aZ (b:=eU c i (l.getD k av).1) rfl (fun h2=>?_) (fun h2=>?_)
  ·refine ai (ai (fun _=>trivial) ?_) trivial
   show ak _ (iP (jv (fun y=>eU c i y.1) l))
   rw[pV (d:=av) h1 h2 hall]
   exact rfl
  refine ei (k+1) (ai (ai rfl rfl) (ai (ai (ai rfl (ai (ai rfl rfl) (ai (ai rfl rfl) (ai (ai (ai (fun _=>rfl) (aO (by omega))) rfl) trivial)))) rfl) (ai (ai (iL (by omega)) ?_) (iM (by omega)))))
  intro y hy
  rw[aP av h1] at hy
  rcases ahT.1 hy with hy | hy
  ·exact hall y hy
  ·simp only[agp] at hy;subst hy;exact h2
 ·obtain rfl:k=l.length:=by omega
  rw[agn] at hall
  refine ai (ai (fun _=>trivial) ?_) trivial
  show ak _ (iP (jv (fun y=>eU c i y.1) l))
  rw[rW hall]
  exact rfl
theorem aoC:aK Tryz.prog 103 { A:=aS×Nat×List Mk,args:=fun a=>[.p false (af8 a.2.2),.fn 102 [.p false (.pt (chK a.1) 0),.own 0 0]],objs:=fun a=>[.cells 3 [iA a.2.1]],pre:=fun a=>aib a.1 a.2.1 a.2.2,res:=fun a=>bP (a.2.2.any fun y=>eU a.1 a.2.1 y.1),objs':=fun _=>[],fresh:=true,ro:=1 }:=by
 refine aX (Tb:=tab) mixed aB Tryz.func103 rfl rfl ?_
 rintro ⟨c,i,l⟩ hpre
 refine ai (ai rfl (ai rfl rfl)) ?_
 refine ei _ (ai (aos) (ei ((c,i,l)) (ei [0] (ai (a4 (ai (fun _=>Or.inl rfl) (ai nof (Or.inl rfl)))) (ai (by exact (ai (ai rfl (fun _ _=>rfl)) (ai rfl (ai (ai rfl rfl) (ai rfl rfl))))) (ai (by exact (ai rfl rfl)) (ai (hpre) ?_)))))))
 refine ai (ai (fun _=>trivial) ?_) trivial
 show ak _ (bP (l.any fun y=>eU c i y.1))
 rw[(pO (fun y=>eU c i y.1) l).symm]
 exact rfl
def jC (c:aS) (i:Nat):Bool:=!((dR c).any fun y=>eU c i y.1)
def qz (c:aS):List Int:=if jP c=0 then jQ (jC c) c.trs.length else []
def l9 (c:aS):PV:=.tup [lT (qz c),iP (jP c)]
theorem aoG:aK Tryz.prog 31 (iC (fun c:aS=>[jy c]) gD l9):=by
 refine jo [3000001] ?_
 refine aX (Tb:=tab) mixed aB Tryz.func31 rfl rfl ?_
 rintro (c:aS) hpre
 refine ai (ai rfl (ai rfl rfl)) ?_
 have ho:gD c:=hpre
 refine ei _ (ai (uM) (ei (c) (ei [] (ai (a4 (ai (fun _=>Or.inl rfl) (ai nof (Or.inl rfl)))) (ai (by exact (ai rfl (ai (ai rfl (fun _ _=>rfl)) (ai (ai rfl (fun _ _=>rfl)) (ai rfl (fun _ _=>rfl)))))) (ai trivial (ai (ho) ?_)))))))
 refine bn (p:=jP c=0) (bM (by omega)) (fun h1=>?_) (fun h1=>?_)
 ·refine ai (ai (fun h=>absurd (show false=true from h) (by decide)) ?_) trivial
  show ak _ (l9 c)
  rw[l9,qz,if_neg h1]
  exact (ai rfl rfl)
 have hA:l9 c=.tup [lT (jQ (jC c) c.trs.length),iP 0]:=by unfold l9 qz;rw[if_pos h1,h1]
 obtain ⟨hc,hx⟩:=qL h1
 obtain ⟨hg,hl,hw⟩:=om h1
 have h32:=(gI hc).2.2.2.1
 refine ei (bC.inv { X:=Nat,up:=fun k=>[(22,.s (iA k)),(7,isR (jQ (jC c) k))],uo:=fun k=>[],inv:=fun k=>k≤c.trs.length∧(True),meas:=fun k=>c.trs.length-k,x0:=0 }) ?_
 refine ai (ai (ai (by exact (a4 (ai rfl rfl))) (ai (by exact (ai (ai (ai (fun _=>rfl) (iE (by simp only[zz,reduceCtorEq];rfl))) rfl) rfl)) (by exact trivial))) rfl) (ai (ai (adO _) ?_) ?_)
 ·trivial
 intro (k:Nat) ⟨hk,_⟩
 have hfl:=wO (jC c) k
 refine ah (p:=k<c.trs.length) (au (by omega)) (fun h2=>?_) (fun h2=>?_)
 ·refine ei _ (ai (aoC) (ei ((c,k,dR c)) (ei [2] (ai (a4 (ai (fun _=>Or.inl rfl) (ai nof (Or.inl rfl)))) (ai (by exact (ai (ai rfl (fun _ _=>rfl)) (ai rfl (ai (ai rfl rfl) (ai rfl rfl))))) (ai (by exact (ai rfl rfl)) (ai (⟨hc,ho,h2,by show (dR c).length≤1000000;omega,fun y hy=>(hg y hy).1⟩) ?_)))))))
  refine aZ (b:=!((dR c).any fun y=>eU c k y.1)) rfl (fun h3=>?_) (fun h3=>?_)
  ·have e:jQ (jC c) (k+1)=jQ (jC c) k++[(k:Int)]:=by rw[jQ,if_pos (show jC c k=true from h3)]
   refine ai (mxL (n:=(jQ (jC c) k).length+1) (by omega) (by decide)) (ai (aH 1 rfl) ?_)
   refine ei (k+1) (ai (ai rfl rfl) (ai (ai (ai rfl (ai (ai rfl rfl) (ai (ai rfl rfl) (ai (ai (ai (ai (fun _=>rfl) (aO (by omega))) rfl) (ai rfl (ai rfl (ai ?_ ?_)))) trivial)))) rfl) (ai (ai (iL (by omega)) trivial) (iM (by omega)))))
   ·rw[e,aaH];rfl
   ·rw[e];exact aiI _ _
  ·have e:jQ (jC c) (k+1)=jQ (jC c) k:=by rw[jQ,if_neg (show ¬jC c k=true by unfold jC;rw[h3];decide)]
   refine ei (k+1) (ai (ai rfl rfl) (ai (ai (ai rfl (ai (ai rfl rfl) (ai (ai rfl rfl) (ai (ai (ai (ai (fun _=>rfl) (aO (by omega))) rfl) (ai rfl (ai rfl (ai ?_ ?_)))) trivial)))) rfl) (ai (ai (iL (by omega)) trivial) (iM (by omega)))))
   ·rw[e]
   ·rw[e];exact fun _ _=>rfl
 ·obtain rfl:k=c.trs.length:=by omega
  refine ai (ai (fun h=>absurd (show false=true from h) (by decide)) ?_) trivial
  show ak _ (l9 c)
  rw[hA]
  exact (ai (ai rfl (fun _ _=>rfl)) rfl)
abbrev Bst := List Int × Bool
def wH (c:aS) (y:Mk) (k:Nat):Bool:=allM y.1 (oJ c k).fr&&xZ c y.1 k
def jB (c:aS) (y:Mk) (s:Bst) (k:Nat):Bst:=if wH c y k then (if !s.2||decide (cmpL (y.2++[(k:Int)]) s.1<0) then (y.2++[(k:Int)],true) else s) else s
def dx (c:aS) (y:Mk) (s:Bst):Nat→Bst
 | 0=>s
 | k+1=>jB c y (dx c y s k) k
def uR (c:aS):List Mk→Bst→Bst
 | [],s=>s
 | y :: l,s=>if s.2&&decide (s.1.length<y.2.length+1) then s else uR c l (dx c y s c.trs.length)
def ru (c:aS):Bst:=uR c (dR c) ([],false)
def wB (c:aS):PV:=if jP c=0 then .tup [bP (!(ru c).2),lT (ru c).1,iP 0] else .tup [bP false,lT [],iP (jP c)]
theorem aaq (l:List Int) (k:Nat):∀j,j<0+l.length+1→bL (0+l.length) (bL 0 (bg 1 []) (fun j=>[iP (l.getD j 0)])) (bg 1 [iP (k:Int)]) j=[iP ((l++[(k:Int)]).getD j 0)]:=fun j hj=>
 aal (a:=l) (b:=[(k:Int)]) (agW _) (fun j hj=>abM (n:=l.length) j (by omega)) (fun j hj=>by
  have hj:j<1:=hj
  obtain rfl:j=0:=by omega
  rfl) j (by rw[aaH];show j<l.length+1;omega)
theorem aov:aK Tryz.prog 13 (iC (fun c:aS=>[jy c]) gD wB):=by
 refine jo [63] ?_
 refine aX (Tb:=tab) mixed aB Tryz.func13 rfl rfl ?_
 rintro (c:aS) hpre
 refine ai (ai rfl (ai rfl rfl)) ?_
 have ho:gD c:=hpre
 refine ei _ (ai (uM) (ei (c) (ei [] (ai (a4 (ai (fun _=>Or.inl rfl) (ai nof (Or.inl rfl)))) (ai (by exact (ai rfl (ai (ai rfl (fun _ _=>rfl)) (ai (ai rfl (fun _ _=>rfl)) (ai rfl (fun _ _=>rfl)))))) (ai trivial (ai (ho) ?_)))))))
 refine bn (p:=jP c=0) (bM (by omega)) (fun h1=>?_) (fun h1=>?_)
 ·refine ai (ai (fun h=>absurd (show false=true from h) (by decide)) ?_) trivial
  show ak _ (wB c)
  rw[wB,if_neg h1]
  exact (ai rfl (ai rfl rfl))
 have hA:wB c=.tup [bP (!(ru c).2),lT (ru c).1,iP 0]:=by unfold wB;rw[if_pos h1]
 obtain ⟨hc,hx⟩:=qL h1
 obtain ⟨hg,hl,hw⟩:=om h1
 have h32:=(gI hc).2.2.2.1
 have hS:ru c=uR c (dR c) ([],false):=rfl
 generalize dR c=L at *
 refine ei (bC.inv { X:=Nat×Bst,up:=fun x=>[(27,.s (iA x.1)),(8,isR x.2.1),(9,.s (.p false (bP x.2.2)))],uo:=fun _=>[],inv:=fun x=>x.1≤L.length∧ru c=uR c (L.drop x.1) x.2,meas:=fun x=>L.length-x.1,x0:=(0,([],false)) }) ?_
 refine ai (ai (ai (by exact (a4 (ai rfl rfl))) (ai ?_ ?_)) ?_) (ai ?_ ?_)
 ·exact (ai (ai (ai (fun _=>rfl) (iE (by simp only[zz,reduceCtorEq];rfl))) rfl) (ai rfl (ai (ai (fun _=>rfl) rfl) rfl)))
 ·exact trivial
 ·rfl
 ·exact ⟨adO _,hS⟩
 rintro ⟨a,s⟩ ⟨hal,hs⟩
 have hal:a≤L.length:=hal
 have hs:ru c=uR c (L.drop a) s:=hs
 refine ah (p:=a<L.length) (au (by omega)) (fun h2=>?_) (fun h2=>?_)
 ·refine ai (ai (aaN _) (iN (n:=L.length) (by omega))) (ai rfl ?_)
  refine ei (fT (L.getD a av).1) (ai (abJ _) ?_)
  have hy:=aa5 (bG av h2)
  have hd:L.drop a=L.getD a av :: L.drop (a+1):=by
   rw[anq h2,aaK,aaL h2];rfl
  have hga:=hg _ hy
  have hwa:=hw _ hy
  rw[hd] at hs
  refine aZ (b:=s.2) rfl (fun h3=>?_) (fun h3=>?_)
  ·refine ai (ai (aaN _) (iN (n:=L.length) (by omega))) (ai rfl ?_)
   refine ah (p:=s.1.length<(L.getD a av).2.length+1) (by exact au (show (s.1.length:Int)<IntKind.i64.wrap (((L.getD a av).2.length:Int)+1)↔_ by rw[show IntKind.i64.wrap (((L.getD a av).2.length:Int)+1)=((L.getD a av).2.length:Int)+1 from aO (by omega)];omega)) (fun h4=>?_) (fun h4=>?_)
   ·have e:ru c=s:=by rw[hs,uR,if_pos (by rw[h3,decide_eq_true h4];rfl)]
    refine ai (ai (fun h=>absurd (show false=true from h) (by decide)) ?_) trivial
    show ak _ (wB c)
    rw[hA,e]
    exact (ai rfl (ai (ai rfl (fun _ _=>rfl)) rfl))
   ·have hs2:ru c=uR c (L.drop (a+1)) (dx c (L.getD a av) s c.trs.length):=by rw[hs,uR,if_neg (by rw[decide_eq_false h4];simp)]
    refine ei (bC.inv { X:=Nat,up:=fun k=>[(47,.s (iA k)),(8,isR (dx c (L.getD a av) s k).1),(9,.s (.p false (bP (dx c (L.getD a av) s k).2)))],uo:=fun k=>[],inv:=fun k=>k≤c.trs.length∧(True),meas:=fun k=>c.trs.length-k,x0:=0 }) ?_
    refine ai (ai (ai (by exact (a4 (ai rfl rfl))) (ai ?_ ?_)) rfl) (ai (ai (adO _) ?_) ?_)
    ·exact (ai (ai (ai (fun _=>rfl) (iE (by simp only[zz,reduceCtorEq];rfl))) rfl) (ai (ai rfl (ai rfl (ai rfl (fun _ _=>rfl)))) (ai (ai nof rfl) rfl)))
    ·exact trivial
    ·trivial
    intro (k:Nat) ⟨hk,_⟩
    have hst:dx c (L.getD a av) s (k+1)=jB c (L.getD a av) (dx c (L.getD a av) s k) k:=rfl
    refine ah (p:=k<c.trs.length) (au (by omega)) (fun h5=>?_) (fun h5=>?_)
    ·refine ei _ (ai ((jJ vo (c,(L.getD a av).1,k) ⟨hc,ho,hga.1,h5⟩ (r:=.tup [sZ (bf c (L.getD a av).1 k).1,bP (eU c k (L.getD a av).1)]) (by show uN c (L.getD a av).1 k=_;unfold uN;rw[alC]))) (ei (()) (ei [] (ai (a4 (ai (fun _=>Or.inl rfl) (ai nof (Or.inl rfl)))) (ai (by exact (ai (ai rfl (ai (ai rfl (fun _ _=>rfl)) (ai (ai rfl (fun _ _=>rfl)) (ai rfl (fun _ _=>rfl))))) (ai (ai rfl (fun _ _=>rfl)) rfl))) (ai trivial (ai (trivial) ?_)))))))
     refine aZ (b:=!eU c k (L.getD a av).1) rfl (fun h6=>?_) (fun h6=>?_)
     ·have h6:allM (L.getD a av).1 (oJ c k).fr=false:=by simpa [eU] using h6
      have e:dx c (L.getD a av) s (k+1)=dx c (L.getD a av) s k:=by rw[hst];unfold jB;rw[if_neg (by unfold wH;rw[h6];simp)]
      refine ei (k+1) (ai (ai rfl rfl) (ai (ai (ai rfl (ai (ai rfl rfl) (ai (ai rfl rfl) (ai (ai (ai (ai (fun _=>rfl) (aO (by omega))) rfl) (ai (ai rfl (ai rfl (ai ?_ ?_))) (ai (ai nof ?_) rfl))) trivial)))) rfl) (ai (ai (iL (by omega)) trivial) (iM (by omega)))))
      all_goals rw[e]
      ·exact fun _ _=>rfl
      ·exact rfl
     have h6:allM (L.getD a av).1 (oJ c k).fr=true:=by simpa [eU] using h6
     refine ei _ (ai (aed) (ei ((c,(L.getD a av).1,k)) (ei [] (ai (a4 (ai (fun _=>Or.inl rfl) (ai nof (Or.inl rfl)))) (ai (by exact (ai (ai rfl (ai (ai rfl (fun _ _=>rfl)) (ai (ai rfl (fun _ _=>rfl)) (ai rfl (fun _ _=>rfl))))) (ai (ai rfl (fun _ _=>rfl)) rfl))) (ai trivial (ai (⟨hc,ho,h5⟩) ?_)))))))
     refine aZ (b:=!xZ c (L.getD a av).1 k) rfl (fun h7=>?_) (fun h7=>?_)
     ·have h7:xZ c (L.getD a av).1 k=false:=by simpa using h7
      have e:dx c (L.getD a av) s (k+1)=dx c (L.getD a av) s k:=by rw[hst];unfold jB;rw[if_neg (by unfold wH;rw[h7];simp)]
      refine ei (k+1) (ai (ai rfl rfl) (ai (ai (ai rfl (ai (ai rfl rfl) (ai (ai rfl rfl) (ai (ai (ai (ai (fun _=>rfl) (aO (by omega))) rfl) (ai (ai rfl (ai rfl (ai ?_ ?_))) (ai (ai nof ?_) rfl))) trivial)))) rfl) (ai (ai (iL (by omega)) trivial) (iM (by omega)))))
      all_goals rw[e]
      ·exact fun _ _=>rfl
      ·exact rfl
     have h7:xZ c (L.getD a av).1 k=true:=by simpa using h7
     have hbad:wH c (L.getD a av) k=true:=by unfold wH;rw[h6,h7];rfl
     refine ai (ai (aaN _) (iN (n:=L.length) (by omega))) (ai rfl ?_)
     have hcl:((L.getD a av).2++[(k:Int)]).length≤1000000:=by rw[aaH];show (L.getD a av).2.length+1≤_;omega
     refine fA mixed aB Tryz.func63 rfl rfl ?_
     refine ai rfl ?_
     intro b hb
     refine aY (fun hb0=>?_) (fun hb0=>?_)
     ·have hb1:(L.getD a av).2.length=0:=hb hb0
      have hb2:=ape.1 hb1
      refine ai (ai (by decide) (by decide)) (ai (aH 1 rfl) ?_)
      refine aZ (b:=!(dx c (L.getD a av) s k).2) rfl (fun h8=>?_) (fun h8=>?_)
      ·have e:dx c (L.getD a av) s (k+1)=((L.getD a av).2++[(k:Int)],true):=by rw[hst];unfold jB;rw[if_pos hbad,if_pos (by rw[h8];rfl)]
       refine ei (k+1) (ai (ai rfl rfl) (ai (ai (ai rfl (ai (ai rfl rfl) (ai (ai rfl rfl) (ai (ai (ai (ai (fun _=>rfl) (aO (by omega))) rfl) (ai (ai rfl (ai rfl (ai ?_ ?_))) (ai (ai (fun _=>rfl) ?_) rfl))) trivial)))) rfl) (ai (ai (iL (by omega)) trivial) (iM (by omega)))))
       all_goals rw[e]
       ·(rw[hb2];first | done | rfl)
       ·(rw[hb2];intro j hj;have hj:j<1:=hj;obtain rfl:j=0:=(by omega);rfl)
       ·exact rfl
      refine ei _ (ai (aaB) (ei (((L.getD a av).2++[(k:Int)],(dx c (L.getD a av) s k).1)) (ei [] (ai (ai rfl (ai rfl (ai rfl (ai rfl (ai (fun _=>Or.inl rfl) (ai (fun _=>ai rfl rfl) (Or.inl rfl))))))) (ai ?_ (ai (by exact trivial) (ai (hcl) ?_)))))))
      ·refine (ai (ai ?_ ?_) (ai rfl (fun _ _=>rfl)))
       ·(rw[hb2];first | done | rfl)
       ·(rw[hb2];intro j hj;have hj:j<1:=hj;obtain rfl:j=0:=(by omega);rfl)
      refine ah (p:=cmpL ((L.getD a av).2++[(k:Int)]) (dx c (L.getD a av) s k).1<0) (au Iff.rfl) (fun h9=>?_) (fun h9=>?_)
      ·have e:dx c (L.getD a av) s (k+1)=((L.getD a av).2++[(k:Int)],true):=by rw[hst];unfold jB;rw[if_pos hbad,if_pos (by rw[decide_eq_true h9];simp)]
       refine ei (k+1) (ai (ai rfl rfl) (ai (ai (ai rfl (ai (ai rfl rfl) (ai (ai rfl rfl) (ai (ai (ai (ai (fun _=>rfl) (aO (by omega))) rfl) (ai (ai rfl (ai rfl (ai ?_ ?_))) (ai (ai (fun _=>rfl) ?_) rfl))) trivial)))) rfl) (ai (ai (iL (by omega)) trivial) (iM (by omega)))))
       all_goals rw[e]
       ·(rw[hb2];first | done | rfl)
       ·(rw[hb2];intro j hj;have hj:j<1:=hj;obtain rfl:j=0:=(by omega);rfl)
       ·exact rfl
      ·have e:dx c (L.getD a av) s (k+1)=dx c (L.getD a av) s k:=by rw[hst];unfold jB;rw[if_pos hbad,if_neg (by rw[h8,decide_eq_false h9];simp)]
       refine ei (k+1) (ai (ai rfl rfl) (ai (ai (ai rfl (ai (ai rfl rfl) (ai (ai rfl rfl) (ai (ai (ai (ai (fun _=>rfl) (aO (by omega))) rfl) (ai (ai rfl (ai rfl (ai ?_ ?_))) (ai (ai nof ?_) rfl))) trivial)))) rfl) (ai (ai (iL (by omega)) trivial) (iM (by omega)))))
       all_goals rw[e]
       ·exact fun _ _=>rfl
       ·exact rfl
     ·refine ai (mxL (n:=0+(L.getD a av).2.length) (by omega) (by decide)) (ai (fun _ _=>rfl) ?_)
      refine ai (mxL (n:=0+(L.getD a av).2.length+1) (by omega) (by decide)) (ai (aH 1 rfl) ?_)
      refine aZ (b:=!(dx c (L.getD a av) s k).2) rfl (fun h8=>?_) (fun h8=>?_)
      ·have e:dx c (L.getD a av) s (k+1)=((L.getD a av).2++[(k:Int)],true):=by rw[hst];unfold jB;rw[if_pos hbad,if_pos (by rw[h8];rfl)]
       refine ei (k+1) (ai (ai rfl rfl) (ai (ai (ai rfl (ai (ai rfl rfl) (ai (ai rfl rfl) (ai (ai (ai (ai (fun _=>rfl) (aO (by omega))) rfl) (ai (ai rfl (ai rfl (ai ?_ ?_))) (ai (ai (fun _=>rfl) ?_) rfl))) trivial)))) rfl) (ai (ai (iL (by omega)) trivial) (iM (by omega)))))
       all_goals rw[e]
       ·(rw[aaH];exact congrArg (·+1) (agW _))
       ·exact aaq _ _
       ·exact rfl
      refine ei _ (ai (aaB) (ei (((L.getD a av).2++[(k:Int)],(dx c (L.getD a av) s k).1)) (ei [] (ai (ai rfl (ai rfl (ai rfl (ai rfl (ai (fun _=>Or.inl rfl) (ai (fun _=>ai rfl rfl) (Or.inl rfl))))))) (ai ?_ (ai (by exact trivial) (ai (hcl) ?_)))))))
      ·refine (ai (ai ?_ ?_) (ai rfl (fun _ _=>rfl)))
       ·(rw[aaH];exact congrArg (·+1) (agW _))
       ·exact aaq _ _
      refine ah (p:=cmpL ((L.getD a av).2++[(k:Int)]) (dx c (L.getD a av) s k).1<0) (au Iff.rfl) (fun h9=>?_) (fun h9=>?_)
      ·have e:dx c (L.getD a av) s (k+1)=((L.getD a av).2++[(k:Int)],true):=by rw[hst];unfold jB;rw[if_pos hbad,if_pos (by rw[decide_eq_true h9];simp)]
       refine ei (k+1) (ai (ai rfl rfl) (ai (ai (ai rfl (ai (ai rfl rfl) (ai (ai rfl rfl) (ai (ai (ai (ai (fun _=>rfl) (aO (by omega))) rfl) (ai (ai rfl (ai rfl (ai ?_ ?_))) (ai (ai (fun _=>rfl) ?_) rfl))) trivial)))) rfl) (ai (ai (iL (by omega)) trivial) (iM (by omega)))))
       all_goals rw[e]
       ·(rw[aaH];exact congrArg (·+1) (agW _))
       ·exact aaq _ _
       ·exact rfl
      ·have e:dx c (L.getD a av) s (k+1)=dx c (L.getD a av) s k:=by rw[hst];unfold jB;rw[if_pos hbad,if_neg (by rw[h8,decide_eq_false h9];simp)]
       refine ei (k+1) (ai (ai rfl rfl) (ai (ai (ai rfl (ai (ai rfl rfl) (ai (ai rfl rfl) (ai (ai (ai (ai (fun _=>rfl) (aO (by omega))) rfl) (ai (ai rfl (ai rfl (ai ?_ ?_))) (ai (ai nof ?_) rfl))) trivial)))) rfl) (ai (ai (iL (by omega)) trivial) (iM (by omega)))))
       all_goals rw[e]
       ·exact fun _ _=>rfl
       ·exact rfl
    ·obtain rfl:k=c.trs.length:=by omega
     refine ei ((a+1,dx c (L.getD a av) s c.trs.length)) (ai (ai rfl rfl) (ai (ai ?_ rfl) (ai ?_ ?_)))
     ·exact (ai rfl (ai (ai rfl rfl) (ai (ai rfl rfl) (ai (ai (ai (ai (fun _=>rfl) (aO (by omega))) rfl) (ai (ai rfl (ai rfl (ai rfl (fun _ _=>rfl)))) (ai (ai nof rfl) rfl))) trivial))))
     ·exact ⟨h2,hs2⟩
     ·show L.length-(a+1)<L.length-a;omega
  ·have hs2:ru c=uR c (L.drop (a+1)) (dx c (L.getD a av) s c.trs.length):=by rw[hs,uR,if_neg (by rw[h3];simp)]
   refine ei (bC.inv { X:=Nat,up:=fun k=>[(47,.s (iA k)),(8,isR (dx c (L.getD a av) s k).1),(9,.s (.p false (bP (dx c (L.getD a av) s k).2)))],uo:=fun k=>[],inv:=fun k=>k≤c.trs.length∧(True),meas:=fun k=>c.trs.length-k,x0:=0 }) ?_
   refine ai (ai (ai (by exact (a4 (ai rfl rfl))) (ai ?_ ?_)) rfl) (ai (ai (adO _) ?_) ?_)
   ·exact (ai (ai (ai (fun _=>rfl) (iE (by simp only[zz,reduceCtorEq];rfl))) rfl) (ai (ai rfl (ai rfl (ai rfl (fun _ _=>rfl)))) (ai (ai nof rfl) rfl)))
   ·exact trivial
   ·trivial
   intro (k:Nat) ⟨hk,_⟩
   have hst:dx c (L.getD a av) s (k+1)=jB c (L.getD a av) (dx c (L.getD a av) s k) k:=rfl
   refine ah (p:=k<c.trs.length) (au (by omega)) (fun h5=>?_) (fun h5=>?_)
   ·refine ei _ (ai ((jJ vo (c,(L.getD a av).1,k) ⟨hc,ho,hga.1,h5⟩ (r:=.tup [sZ (bf c (L.getD a av).1 k).1,bP (eU c k (L.getD a av).1)]) (by show uN c (L.getD a av).1 k=_;unfold uN;rw[alC]))) (ei (()) (ei [] (ai (a4 (ai (fun _=>Or.inl rfl) (ai nof (Or.inl rfl)))) (ai (by exact (ai (ai rfl (ai (ai rfl (fun _ _=>rfl)) (ai (ai rfl (fun _ _=>rfl)) (ai rfl (fun _ _=>rfl))))) (ai (ai rfl (fun _ _=>rfl)) rfl))) (ai trivial (ai (trivial) ?_)))))))
    refine aZ (b:=!eU c k (L.getD a av).1) rfl (fun h6=>?_) (fun h6=>?_)
    ·have h6:allM (L.getD a av).1 (oJ c k).fr=false:=by simpa [eU] using h6
     have e:dx c (L.getD a av) s (k+1)=dx c (L.getD a av) s k:=by rw[hst];unfold jB;rw[if_neg (by unfold wH;rw[h6];simp)]
     refine ei (k+1) (ai (ai rfl rfl) (ai (ai (ai rfl (ai (ai rfl rfl) (ai (ai rfl rfl) (ai (ai (ai (ai (fun _=>rfl) (aO (by omega))) rfl) (ai (ai rfl (ai rfl (ai ?_ ?_))) (ai (ai nof ?_) rfl))) trivial)))) rfl) (ai (ai (iL (by omega)) trivial) (iM (by omega)))))
     all_goals rw[e]
     ·exact fun _ _=>rfl
     ·exact rfl
    have h6:allM (L.getD a av).1 (oJ c k).fr=true:=by simpa [eU] using h6
    refine ei _ (ai (aed) (ei ((c,(L.getD a av).1,k)) (ei [] (ai (a4 (ai (fun _=>Or.inl rfl) (ai nof (Or.inl rfl)))) (ai (by exact (ai (ai rfl (ai (ai rfl (fun _ _=>rfl)) (ai (ai rfl (fun _ _=>rfl)) (ai rfl (fun _ _=>rfl))))) (ai (ai rfl (fun _ _=>rfl)) rfl))) (ai trivial (ai (⟨hc,ho,h5⟩) ?_)))))))
    refine aZ (b:=!xZ c (L.getD a av).1 k) rfl (fun h7=>?_) (fun h7=>?_)
    ·have h7:xZ c (L.getD a av).1 k=false:=by simpa using h7
     have e:dx c (L.getD a av) s (k+1)=dx c (L.getD a av) s k:=by rw[hst];unfold jB;rw[if_neg (by unfold wH;rw[h7];simp)]
     refine ei (k+1) (ai (ai rfl rfl) (ai (ai (ai rfl (ai (ai rfl rfl) (ai (ai rfl rfl) (ai (ai (ai (ai (fun _=>rfl) (aO (by omega))) rfl) (ai (ai rfl (ai rfl (ai ?_ ?_))) (ai (ai nof ?_) rfl))) trivial)))) rfl) (ai (ai (iL (by omega)) trivial) (iM (by omega)))))
     all_goals rw[e]
     ·exact fun _ _=>rfl
     ·exact rfl
    have h7:xZ c (L.getD a av).1 k=true:=by simpa using h7
    have hbad:wH c (L.getD a av) k=true:=by unfold wH;rw[h6,h7];rfl
    refine ai (ai (aaN _) (iN (n:=L.length) (by omega))) (ai rfl ?_)
    have hcl:((L.getD a av).2++[(k:Int)]).length≤1000000:=by rw[aaH];show (L.getD a av).2.length+1≤_;omega
    refine fA mixed aB Tryz.func63 rfl rfl ?_
    refine ai rfl ?_
    intro b hb
    refine aY (fun hb0=>?_) (fun hb0=>?_)
    ·have hb1:(L.getD a av).2.length=0:=hb hb0
     have hb2:=ape.1 hb1
     refine ai (ai (by decide) (by decide)) (ai (aH 1 rfl) ?_)
     refine aZ (b:=!(dx c (L.getD a av) s k).2) rfl (fun h8=>?_) (fun h8=>?_)
     ·have e:dx c (L.getD a av) s (k+1)=((L.getD a av).2++[(k:Int)],true):=by rw[hst];unfold jB;rw[if_pos hbad,if_pos (by rw[h8];rfl)]
      refine ei (k+1) (ai (ai rfl rfl) (ai (ai (ai rfl (ai (ai rfl rfl) (ai (ai rfl rfl) (ai (ai (ai (ai (fun _=>rfl) (aO (by omega))) rfl) (ai (ai rfl (ai rfl (ai ?_ ?_))) (ai (ai (fun _=>rfl) ?_) rfl))) trivial)))) rfl) (ai (ai (iL (by omega)) trivial) (iM (by omega)))))
      all_goals rw[e]
      ·(rw[hb2];first | done | rfl)
      ·(rw[hb2];intro j hj;have hj:j<1:=hj;obtain rfl:j=0:=(by omega);rfl)
      ·exact rfl
     refine ei _ (ai (aaB) (ei (((L.getD a av).2++[(k:Int)],(dx c (L.getD a av) s k).1)) (ei [] (ai (ai rfl (ai rfl (ai rfl (ai rfl (ai (fun _=>Or.inl rfl) (ai (fun _=>ai rfl rfl) (Or.inl rfl))))))) (ai ?_ (ai (by exact trivial) (ai (hcl) ?_)))))))
     ·refine (ai (ai ?_ ?_) (ai rfl (fun _ _=>rfl)))
      ·(rw[hb2];first | done | rfl)
      ·(rw[hb2];intro j hj;have hj:j<1:=hj;obtain rfl:j=0:=(by omega);rfl)
     refine ah (p:=cmpL ((L.getD a av).2++[(k:Int)]) (dx c (L.getD a av) s k).1<0) (au Iff.rfl) (fun h9=>?_) (fun h9=>?_)
     ·have e:dx c (L.getD a av) s (k+1)=((L.getD a av).2++[(k:Int)],true):=by rw[hst];unfold jB;rw[if_pos hbad,if_pos (by rw[decide_eq_true h9];simp)]
      refine ei (k+1) (ai (ai rfl rfl) (ai (ai (ai rfl (ai (ai rfl rfl) (ai (ai rfl rfl) (ai (ai (ai (ai (fun _=>rfl) (aO (by omega))) rfl) (ai (ai rfl (ai rfl (ai ?_ ?_))) (ai (ai (fun _=>rfl) ?_) rfl))) trivial)))) rfl) (ai (ai (iL (by omega)) trivial) (iM (by omega)))))
      all_goals rw[e]
      ·(rw[hb2];first | done | rfl)
      ·(rw[hb2];intro j hj;have hj:j<1:=hj;obtain rfl:j=0:=(by omega);rfl)
      ·exact rfl
     ·have e:dx c (L.getD a av) s (k+1)=dx c (L.getD a av) s k:=by rw[hst];unfold jB;rw[if_pos hbad,if_neg (by rw[h8,decide_eq_false h9];simp)]
      refine ei (k+1) (ai (ai rfl rfl) (ai (ai (ai rfl (ai (ai rfl rfl) (ai (ai rfl rfl) (ai (ai (ai (ai (fun _=>rfl) (aO (by omega))) rfl) (ai (ai rfl (ai rfl (ai ?_ ?_))) (ai (ai nof ?_) rfl))) trivial)))) rfl) (ai (ai (iL (by omega)) trivial) (iM (by omega)))))
      all_goals rw[e]
      ·exact fun _ _=>rfl
      ·exact rfl
    ·refine ai (mxL (n:=0+(L.getD a av).2.length) (by omega) (by decide)) (ai (fun _ _=>rfl) ?_)
     refine ai (mxL (n:=0+(L.getD a av).2.length+1) (by omega) (by decide)) (ai (aH 1 rfl) ?_)
     refine aZ (b:=!(dx c (L.getD a av) s k).2) rfl (fun h8=>?_) (fun h8=>?_)
     ·have e:dx c (L.getD a av) s (k+1)=((L.getD a av).2++[(k:Int)],true):=by rw[hst];unfold jB;rw[if_pos hbad,if_pos (by rw[h8];rfl)]
      refine ei (k+1) (ai (ai rfl rfl) (ai (ai (ai rfl (ai (ai rfl rfl) (ai (ai rfl rfl) (ai (ai (ai (ai (fun _=>rfl) (aO (by omega))) rfl) (ai (ai rfl (ai rfl (ai ?_ ?_))) (ai (ai (fun _=>rfl) ?_) rfl))) trivial)))) rfl) (ai (ai (iL (by omega)) trivial) (iM (by omega)))))
      all_goals rw[e]
      ·(rw[aaH];exact congrArg (·+1) (agW _))
      ·exact aaq _ _
      ·exact rfl
     refine ei _ (ai (aaB) (ei (((L.getD a av).2++[(k:Int)],(dx c (L.getD a av) s k).1)) (ei [] (ai (ai rfl (ai rfl (ai rfl (ai rfl (ai (fun _=>Or.inl rfl) (ai (fun _=>ai rfl rfl) (Or.inl rfl))))))) (ai ?_ (ai (by exact trivial) (ai (hcl) ?_)))))))
     ·refine (ai (ai ?_ ?_) (ai rfl (fun _ _=>rfl)))
      ·(rw[aaH];exact congrArg (·+1) (agW _))
      ·exact aaq _ _
     refine ah (p:=cmpL ((L.getD a av).2++[(k:Int)]) (dx c (L.getD a av) s k).1<0) (au Iff.rfl) (fun h9=>?_) (fun h9=>?_)
     ·have e:dx c (L.getD a av) s (k+1)=((L.getD a av).2++[(k:Int)],true):=by rw[hst];unfold jB;rw[if_pos hbad,if_pos (by rw[decide_eq_true h9];simp)]
      refine ei (k+1) (ai (ai rfl rfl) (ai (ai (ai rfl (ai (ai rfl rfl) (ai (ai rfl rfl) (ai (ai (ai (ai (fun _=>rfl) (aO (by omega))) rfl) (ai (ai rfl (ai rfl (ai ?_ ?_))) (ai (ai (fun _=>rfl) ?_) rfl))) trivial)))) rfl) (ai (ai (iL (by omega)) trivial) (iM (by omega)))))
      all_goals rw[e]
      ·(rw[aaH];exact congrArg (·+1) (agW _))
      ·exact aaq _ _
      ·exact rfl
     ·have e:dx c (L.getD a av) s (k+1)=dx c (L.getD a av) s k:=by rw[hst];unfold jB;rw[if_pos hbad,if_neg (by rw[h8,decide_eq_false h9];simp)]
      refine ei (k+1) (ai (ai rfl rfl) (ai (ai (ai rfl (ai (ai rfl rfl) (ai (ai rfl rfl) (ai (ai (ai (ai (fun _=>rfl) (aO (by omega))) rfl) (ai (ai rfl (ai rfl (ai ?_ ?_))) (ai (ai nof ?_) rfl))) trivial)))) rfl) (ai (ai (iL (by omega)) trivial) (iM (by omega)))))
      all_goals rw[e]
      ·exact fun _ _=>rfl
      ·exact rfl
   ·obtain rfl:k=c.trs.length:=by omega
    refine ei ((a+1,dx c (L.getD a av) s c.trs.length)) (ai (ai rfl rfl) (ai (ai ?_ rfl) (ai ?_ ?_)))
    ·exact (ai rfl (ai (ai rfl rfl) (ai (ai rfl rfl) (ai (ai (ai (ai (fun _=>rfl) (aO (by omega))) rfl) (ai (ai rfl (ai rfl (ai rfl (fun _ _=>rfl)))) (ai (ai nof rfl) rfl))) trivial))))
    ·exact ⟨h2,hs2⟩
    ·show L.length-(a+1)<L.length-a;omega
 ·have e:ru c=s:=by rw[hs,ar1 (by omega)];rfl
  refine ai (ai (fun h=>absurd (show false=true from h) (by decide)) ?_) trivial
  show ak _ (wB c)
  rw[hA,e]
  exact (ai rfl (ai (ai rfl (fun _ _=>rfl)) rfl))
def ai5 (c:aS):PV:=.tup [ajz (dR c),iP (jP c)]
theorem akF {c:aS} (h:bE c=0):aa7 c=ai5 c:=by
 unfold aa7 ai5 dR jP
 rw[if_pos h,if_pos h]
 cases lH c<;>rfl
theorem ahV {c:aS} (h:¬bE c=0):jP c=bE c:=if_neg h
theorem amy:aK Tryz.prog 32 (iC (fun c:aS=>[jy c]) gD l9):=by
 refine aX (Tb:=tab) mixed aB Tryz.func32 rfl rfl ?_
 rintro (c:aS) hpre
 refine ai (ai rfl (ai rfl rfl)) ?_
 have ho:gD c:=hpre
 refine ei _ (ai (aas) (ei (c) (ei [] (ai (a4 (ai (fun _=>Or.inl rfl) (ai nof (Or.inl rfl)))) (ai (by exact (ai rfl (ai (ai rfl (fun _ _=>rfl)) (ai (ai rfl (fun _ _=>rfl)) (ai rfl (fun _ _=>rfl)))))) (ai trivial (ai (ho) ?_)))))))
 refine bn (p:=bE c=0) (bM (by omega)) (fun h0=>?_) (fun h0=>?_)
 ·have e:=ahV h0
  refine ai (ai (fun h=>absurd (show false=true from h) (by decide)) ?_) trivial
  show ak _ (l9 c)
  rw[l9,qz,e,if_neg h0]
  exact (ai rfl rfl)
 refine ei _ (ai ((jJ aaI c ⟨h0,ho⟩ (r:=ai5 c) (akF h0))) (ei (()) (ei [] (ai (a4 (ai (fun _=>Or.inl rfl) (ai nof (Or.inl rfl)))) (ai (by exact (ai rfl (ai (ai rfl (fun _ _=>rfl)) (ai (ai rfl (fun _ _=>rfl)) (ai rfl (fun _ _=>rfl)))))) (ai trivial (ai (trivial) ?_)))))))
 refine bn (p:=jP c=0) (bM (by omega)) (fun h1=>?_) (fun h1=>?_)
 ·refine ai (ai (fun h=>absurd (show false=true from h) (by decide)) ?_) trivial
  show ak _ (l9 c)
  rw[l9,qz,if_neg h1]
  exact (ai rfl rfl)
 have hA:l9 c=.tup [lT (jQ (jC c) c.trs.length),iP 0]:=by unfold l9 qz;rw[if_pos h1,h1]
 obtain ⟨hc,hx⟩:=qL h1
 obtain ⟨hg,hl,hw⟩:=om h1
 have h32:=(gI hc).2.2.2.1
 refine ei (bC.inv { X:=Nat,up:=fun k=>[(8,.s (iA k)),(7,isR (jQ (jC c) k))],uo:=fun k=>[],inv:=fun k=>k≤c.trs.length∧(True),meas:=fun k=>c.trs.length-k,x0:=0 }) ?_
 refine ai (ai (ai (by exact (a4 (ai rfl rfl))) (ai (by exact (ai (ai (ai (fun _=>rfl) (iE (by simp only[zz,reduceCtorEq];rfl))) rfl) rfl)) (by exact trivial))) rfl) (ai (ai (adO _) ?_) ?_)
 ·trivial
 intro (k:Nat) ⟨hk,_⟩
 have hfl:=wO (jC c) k
 refine ah (p:=k<c.trs.length) (au (by omega)) (fun h2=>?_) (fun h2=>?_)
 ·obtain ⟨q1,q2,q3⟩:=kZ hc h2
  have hto:=pX ho h2
  refine ei (bC.inv { X:=Nat,up:=fun j=>[(10,.s (iA j)),(9,.s (.p false (bP (((dR c).take j).any fun y=>eU c k y.1))))],uo:=fun j=>[],inv:=fun j=>j≤(dR c).length∧(True),meas:=fun j=>(dR c).length-j,x0:=0 }) ?_
  refine ai (ai (ai (by exact (a4 (ai rfl rfl))) (ai (by exact (ai (ai (ai (fun _=>rfl) (iE (by simp only[zz,reduceCtorEq];rfl))) rfl) (ai (ai (fun _=>rfl) rfl) rfl))) (by exact trivial))) rfl) (ai (ai (adO _) ?_) ?_)
  ·trivial
  intro (j:Nat) ⟨hj,_⟩
  refine ah (p:=j<(dR c).length) (au (by omega)) (fun h4=>?_) (fun h4=>?_)
  ·have hst:(((dR c).take (j+1)).any fun y=>eU c k y.1)=((((dR c).take j).any fun y=>eU c k y.1)||eU c k ((dR c).getD j av).1):=by
    rw[aP av h4,List.any_append,asx,List.any_nil,asw]
   have hgj:=hg _ (aa5 (bG av h4))
   refine ei (.seq [0,1,2,3,4,5,6,7,8,9,10,11,12,13,14]) (ai (by kernel_rfl) ?_)
   refine aZ (b:=((dR c).take j).any fun y=>eU c k y.1) rfl (fun h5=>?_) (fun h5=>?_)
   ·refine ei (j+1) (ai (ai rfl rfl) (ai (ai (ai rfl (ai (ai rfl rfl) (ai (ai rfl rfl) (ai (ai (ai (ai (fun _=>rfl) (aO (by omega))) rfl) (ai (ai (fun _=>rfl) ?_) rfl)) trivial)))) rfl) (ai (ai (iL (by omega)) trivial) (iM (by omega)))))
    rw[hst,h5];rfl
   ·refine ai (ai (aaN _) (iN (n:=c.trs.length) (by omega))) (ai rfl ?_)
    refine ai (ai (aaN _) (iN (n:=(dR c).length) (by omega))) (ai rfl ?_)
    refine ei _ (ai (afE) (ei ((oJ c k,((dR c).getD j av).1)) (ei [] (ai (a4 (ai (fun _=>Or.inl rfl) (ai nof (Or.inl rfl)))) (ai (by exact (ai (ai (ai rfl (fun _ _=>rfl)) (ai (ai rfl (fun _ _=>rfl)) (ai (iE (by simp only[zz,reduceCtorEq];rfl)) (ai (iE (by simp only[zz,reduceCtorEq];rfl)) (ai rfl (fun _ _=>rfl)))))) (ai rfl (fun _ _=>rfl)))) (ai trivial (ai (⟨by show gL ((dR c).getD j av).1.length _;rw[hgj.1];exact q1.2,hto.1⟩) ?_)))))))
    refine ei (j+1) (ai (ai rfl rfl) (ai (ai (ai rfl (ai (ai rfl rfl) (ai (ai rfl rfl) (ai (ai (ai (ai (fun _=>rfl) (aO (by omega))) rfl) (ai (ai (fun _=>rfl) ?_) rfl)) trivial)))) rfl) (ai (ai (iL (by omega)) trivial) (iM (by omega)))))
    rw[hst,h5];rfl
  ·obtain rfl:j=(dR c).length:=by omega
   rw[agn]
   refine aZ (b:=!((dR c).any fun y=>eU c k y.1)) rfl (fun h3=>?_) (fun h3=>?_)
   ·have e:jQ (jC c) (k+1)=jQ (jC c) k++[(k:Int)]:=by rw[jQ,if_pos (show jC c k=true from h3)]
    refine ai (mxL (n:=(jQ (jC c) k).length+1) (by omega) (by decide)) (ai (aH 1 rfl) ?_)
    refine ei (k+1) (ai (ai rfl rfl) (ai (ai (ai rfl (ai (ai rfl rfl) (ai (ai rfl rfl) (ai (ai (ai (ai (fun _=>rfl) (aO (by omega))) rfl) (ai rfl (ai rfl (ai ?_ ?_)))) trivial)))) rfl) (ai (ai (iL (by omega)) trivial) (iM (by omega)))))
    ·rw[e,aaH];rfl
    ·rw[e];exact aiI _ _
   ·have e:jQ (jC c) (k+1)=jQ (jC c) k:=by rw[jQ,if_neg (show ¬jC c k=true by unfold jC;rw[h3];decide)]
    refine ei (k+1) (ai (ai rfl rfl) (ai (ai (ai rfl (ai (ai rfl rfl) (ai (ai rfl rfl) (ai (ai (ai (ai (fun _=>rfl) (aO (by omega))) rfl) (ai rfl (ai rfl (ai ?_ ?_)))) trivial)))) rfl) (ai (ai (iL (by omega)) trivial) (iM (by omega)))))
    ·rw[e]
    ·rw[e];exact fun _ _=>rfl
 ·obtain rfl:k=c.trs.length:=by omega
  refine ai (ai (fun h=>absurd (show false=true from h) (by decide)) ?_) trivial
  show ak _ (l9 c)
  rw[hA]
  exact (ai (ai rfl (fun _ _=>rfl)) rfl)
end Go.Sx.Pe
namespace Go.Proofs
open Go.Shelf
def Tryz.wS:Go.Shelf.Ren:=⟨fun | 6=>99 | 15=>153 | 14=>152 | 28=>192 | 29=>193 | 20=>184 | 21=>185 | 22=>186 | 23=>187 | 24=>188 | 25=>189 | 26=>190 | 27=>191 | 46=>210 | 47=>211 | 48=>212 | 49=>213 | 50=>214 | 57=>225 | n=>n,fun | 22=>62 | 24=>72 | 25=>169 | 3=>3 | 39=>214 | 0=>0 | 53=>250 | 55=>252 | 4=>4 | 46=>244 | 45=>243 | 50=>101 | 5=>5 | 9=>9 | 66=>265 | 70=>269 | 76=>282 | 77=>283 | n=>n,fun | n=>n⟩
theorem Tryz.ajZ : Go.Proofs.SlLaysF.n6 Tryz.prog Tryz.wS := {
  mixed := by kernel_rfl
  f6 := ⟨Tryz.f99.name, by decide, Tryz.func99.trans (congrArg some (by kernel_rfl))⟩
  f14 := ⟨Tryz.f152.name, by decide, Tryz.func152.trans (congrArg some (by kernel_rfl))⟩
  f15 := Tryz.func153.trans (congrArg some (by kernel_rfl))
  f20 := ⟨Tryz.f184.name, by decide, Tryz.func184.trans (congrArg some (by kernel_rfl))⟩
  f21 := ⟨Tryz.f185.name, by decide, Tryz.func185.trans (congrArg some (by kernel_rfl))⟩
  f22 := ⟨Tryz.f186.name, by decide, Tryz.func186.trans (congrArg some (by kernel_rfl))⟩
  f23 := ⟨Tryz.f187.name, by decide, Tryz.func187.trans (congrArg some (by kernel_rfl))⟩
  f24 := ⟨Tryz.f188.name, by decide, Tryz.func188.trans (congrArg some (by kernel_rfl))⟩
  f25 := ⟨Tryz.f189.name, by decide, Tryz.func189.trans (congrArg some (by kernel_rfl))⟩
  f26 := ⟨Tryz.f190.name, by decide, Tryz.func190.trans (congrArg some (by kernel_rfl))⟩
  f27 := ⟨Tryz.f191.name, by decide, Tryz.func191.trans (congrArg some (by kernel_rfl))⟩
  f28 := Tryz.func192.trans (congrArg some (by kernel_rfl))
  f29 := Tryz.func193.trans (congrArg some (by kernel_rfl))
  f46 := ⟨Tryz.f210.name, by decide, Tryz.func210.trans (congrArg some (by kernel_rfl))⟩
  f47 := Tryz.func211.trans (congrArg some (by kernel_rfl))
  f48 := Tryz.func212.trans (congrArg some (by kernel_rfl))
  f49 := ⟨Tryz.f213.name, by decide, Tryz.func213.trans (congrArg some (by kernel_rfl))⟩
  f50 := ⟨Tryz.f214.name, by decide, Tryz.func214.trans (congrArg some (by kernel_rfl))⟩
  f57 := ⟨Tryz.f225.name, by decide, Tryz.func225.trans (congrArg some (by kernel_rfl))⟩
  t0 := Tryz.underlying0
  a0 := Tryz.isAgg0
  z0 := Tryz.sizeOf0
  v0 := Tryz.zeroValue0
  t3 := Tryz.underlying3
  a3 := Tryz.isAgg3
  z3 := Tryz.sizeOf3
  v3 := Tryz.zeroValue3
  t4 := Tryz.underlying4
  a4 := Tryz.isAgg4
  z4 := Tryz.sizeOf4
  v4 := Tryz.zeroValue4
  t5 := Tryz.underlying5
  a5 := Tryz.isAgg5
  z5 := Tryz.sizeOf5
  v5 := Tryz.zeroValue5
  t9 := Tryz.underlying9
  a9 := Tryz.isAgg9
  z9 := Tryz.sizeOf9
  v9 := Tryz.zeroValue9
  t22 := Tryz.underlying62
  a22 := Tryz.isAgg62
  z22 := Tryz.sizeOf62
  v22 := Tryz.zeroValue62
  a24 := Tryz.isAgg72
  z24 := Tryz.sizeOf72
  t25 := Tryz.underlying169
  a25 := Tryz.isAgg169
  z25 := Tryz.sizeOf169
  v25 := Tryz.zeroValue169
  t39 := Tryz.underlying214
  a39 := Tryz.isAgg214
  z39 := Tryz.sizeOf214
  v39 := Tryz.zeroValue214
  t45 := Tryz.underlying243
  a45 := Tryz.isAgg243
  z45 := Tryz.sizeOf243
  v45 := Tryz.zeroValue243
  t46 := Tryz.underlying244
  a46 := Tryz.isAgg244
  z46 := Tryz.sizeOf244
  v46 := Tryz.zeroValue244
  t50 := Tryz.underlying101
  a50 := Tryz.isAgg101
  z50 := Tryz.sizeOf101
  v50 := Tryz.zeroValue101
  t53 := Tryz.underlying250
  a53 := Tryz.isAgg250
  z53 := Tryz.sizeOf250
  v53 := Tryz.zeroValue250
  t55 := Tryz.underlying252
  a55 := Tryz.isAgg252
  z55 := Tryz.sizeOf252
  v55 := Tryz.zeroValue252
  t66 := Tryz.underlying265
  a66 := Tryz.isAgg265
  z66 := Tryz.sizeOf265
  v66 := Tryz.zeroValue265
  t70 := Tryz.underlying269
  a70 := Tryz.isAgg269
  z70 := Tryz.sizeOf269
  v70 := Tryz.zeroValue269
  t76 := Tryz.underlying282
  a76 := Tryz.isAgg282
  z76 := Tryz.sizeOf282
  v76 := Tryz.zeroValue282
  t77 := Tryz.underlying283
  a77 := Tryz.isAgg283
  z77 := Tryz.sizeOf283
  v77 := Tryz.zeroValue283 }
end Go.Proofs
namespace Go.Sx.Pe
open Go Go.Proofs Go.Sx.Pn Go.RowKit Go.Shelf
def BS (w:World) (v:Value) (l:List Bool):Prop:=∃p c,v=.slice p l.length c∧∀k,k<l.length→∃bb o,p=some ⟨bb,o,none⟩∧w.cell? ⟨bb,o+k,none⟩=some (.bool (l.getD k false))
theorem aht (a b:List Bool) (v1 v2:Value) (w:World) (hab:a.length=b.length) (hl:a.length≤1000000) (h1:BS w v1 a) (h2:BS w v2 b) :
  Calls Tryz.prog 100 #[v1,v2] w fun e w'=>e=.returned (.int .i64 (gT a b))∧w'=w:=by
 obtain ⟨p1,c1,rfl,g1⟩:=h1
 obtain ⟨p2,c2,rfl,g2⟩:=h2
 rw[←hab] at g2 ⊢
 have g1:=Lib.hid g1
 have g2:=Lib.hid g2
 go_enter Tryz.func100,Tryz.ntmps100
 go_wp2_with (fail)
 go_loop [9] (fun i=>∃k:Nat,k≤a.length∧i=.int .i64 k∧a.take k=b.take k) (fun i=>a.length-(Proofs.intOf i).toNat)
 case atStart=>exact ⟨0,adO _,rfl,rfl⟩
 case round=>
  obtain ⟨k,hk,rfl,hall⟩:=hrel
  have hall:=Lib.hid hall
  by_cases hlt:k<a.length
  ·obtain ⟨x1,o1,rfl,e1⟩:=g1.out k hlt
   obtain ⟨x2,o2,hp2,e2⟩:=g2.out k hlt
   have he:=Lib.hid (ah3 hab hlt hall.out)
   have hs:=Lib.hid (wu false hlt (by omega) hall.out)
   obtain ⟨ba,hba⟩:∃x,a.getD k false=x:=⟨_,rfl⟩
   obtain ⟨bb,hbb⟩:∃x,b.getD k false=x:=⟨_,rfl⟩
   rw[hba] at e1
   rw[hbb] at e2
   replace hba:=Lib.hid hba
   replace hbb:=Lib.hid hbb
   subst hp2
   cases ba<;>cases bb
   ·go_wp2_with (fail)
    go_round
    case rel=>exact ⟨k+1,by omega,by go_num,hs.out (hba.out.trans hbb.out.symm)⟩
    case measure=>simp[Proofs.intOf];omega
   ·have hr:gT a b=-1:=by rw[he.out (by rw[hba.out,hbb.out];decide),hbb.out];rfl
    have hr:=Lib.hid hr
    go_wp2_with (fail)
    go_ret
    exact ⟨by first | rfl | (rw[hr.out];rfl),rfl⟩
   ·have hr:gT a b=1:=by rw[he.out (by rw[hba.out,hbb.out];decide),hbb.out];rfl
    have hr:=Lib.hid hr
    go_wp2_with (fail)
    go_ret
    exact ⟨by first | rfl | (rw[hr.out];rfl),rfl⟩
   ·go_wp2_with (fail)
    go_round
    case rel=>exact ⟨k+1,by omega,by go_num,hs.out (hba.out.trans hbb.out.symm)⟩
    case measure=>simp[Proofs.intOf];omega
  ·obtain rfl:k=a.length:=by omega
   have hr:gT a b=0:=adf (by have:=hall.out;rw[agn,hab,agn] at this;exact this)
   have hr:=Lib.hid hr
   go_wp2_with (fail)
   go_ret
   exact ⟨by first | rfl | (rw[hr.out];rfl),rfl⟩
end Go.Sx.Pe
namespace Go.Sx.Pe
open Go Go.Proofs Go.Sx.Pn
theorem yh:∀a b:List Bool,gT b a=-gT a b
 | [],[]=>rfl
 | [],_ :: _=>rfl
 | _ :: _,[]=>rfl
 | x :: a,y :: b=>by
  have ih:=yh a b
  cases x<;>cases y<;>simp[gT,ih]
theorem aek:∀{a b:List Bool},a.length=b.length→gT a b=0→a=b
 | [],[],_,_=>rfl
 | [],_ :: _,h,_=>by simp at h
 | _ :: _,[],h,_=>by simp at h
 | x :: a,y :: b,h,e=>by
  have ih:=aek (a:=a) (b:=b) (by simpa using h)
  cases x<;>cases y<;>simp[gT] at e<;>rw[ih e]
theorem vR:∀{a b c:List Bool},a.length=b.length→b.length=c.length→gT a b<0→gT b c<0→gT a c<0
 | [],[],_,_,_,h,_=>by simp[gT] at h
 | [],_ :: _,_,h,_,_,_=>by simp at h
 | _ :: _,[],_,h,_,_,_=>by simp at h
 | _ :: _,_ :: _,[],_,h,_,_=>by simp at h
 | x :: a,y :: b,z :: c,h1,h2,h,k=>by
  have ih:=vR (a:=a) (b:=b) (c:=c) (by simpa using h1) (by simpa using h2)
  cases x<;>cases y<;>cases z<;>simp[gT] at h k ⊢<;>exact ih h k
def oF (a b:List Bool):Prop:=gT a b<0
theorem aik {n:Nat} {a b:List Bool} (ha:a.length=n) (hb:b.length=n) (h:¬oF a b):oF b a∨a=b:=by
 unfold oF at *
 by_cases e:gT a b=0
 ·exact .inr (aek (ha.trans hb.symm) e)
 ·left;rw[yh a b];omega
theorem ajJ (a:List Bool):¬oF a a:=by unfold oF;rw[adf rfl];decide
theorem als {a b:List Bool} (h:oF a b):¬oF b a:=by unfold oF at *;rw[yh a b];omega
theorem acF {n:Nat} {a b c:List Bool} (ha:a.length=n) (hb:b.length=n) (hc:c.length=n) (h:¬oF a b) (k:¬oF b c):¬oF a c:=by
 intro h3
 rcases aik ha hb h with h | rfl
 ·exact k (vR (hb.trans ha.symm) (ha.trans hc.symm) h h3)
 ·exact k h3
theorem af0 (a b:List Bool):rA a b=true↔oF a b:=by
 unfold rA oF
 rw[beq_iff_eq]
 have:gT a b=-1∨gT a b=0∨gT a b=1:=by
  induction a generalizing b with
  | nil=>exact .inr (.inl (by cases b<;>rfl))
  | cons x a ih=>
   cases b with
   | nil=>exact .inr (.inl rfl)
   | cons y b=>
    rw[gT]
    split
    ·exact ih b
    ·split
     ·exact .inl rfl
     ·exact .inr (.inr rfl)
 omega
def posR (A:List (List Bool)) (x:List Bool):Nat→Nat
 | 0=>0
 | k+1=>if rA x (A.getD k []) then posR A x k else k+1
def rowAt (A:List (List Bool)) (x:List Bool) (k:Nat):List (List Bool):=A.take k++x :: A.drop k
def abp (A:List (List Bool)) (x:List Bool):List (List Bool):=rowAt A x (posR A x A.length)
def iy (l:List (List Bool)):List (List Bool):=l.foldl abp []
theorem zi (l:List (List Bool)) (x:List Bool):iy (l++[x])=abp (iy l) x:=by unfold iy;rw[aq5];rfl
theorem abN (A:List (List Bool)) (x:List Bool) (k:Nat):(rowAt A x k).Perm (x :: A):=by
 unfold rowAt
 refine List.perm_middle.trans ?_
 rw[arO]
theorem agJ {α:Type} {p:List α→Prop} (h0:p []) (hs:∀l x,p l→p (l++[x])) (l:List α):p l:=by
 rw[←List.reverse_reverse l]
 induction l.reverse with
 | nil=>exact h0
 | cons x l ih=>rw[List.reverse_cons];exact hs _ _ ih
theorem qQ (l:List (List Bool)):(iy l).Perm l:=by
 refine agJ (p:=fun l=>(iy l).Perm l) .nil (fun l x ih=>?_) l
 rw[zi]
 refine (abN _ _ _).trans ?_
 refine (ih.cons x).trans ?_
 exact (List.perm_append_singleton x l).symm
theorem afk (l:List (List Bool)):(iy l).length=l.length:=(qQ l).length_eq
def yU (l:List (List Bool)):Prop:=l.Pairwise fun a b=>¬oF b a
theorem ahO (A:List (List Bool)) (x:List Bool):∀k,posR A x k≤k
 | 0=>afK _
 | k+1=>by
  rw[posR];split
  ·have:=ahO A x k;omega
  ·exact afK _
theorem aiq (A:List (List Bool)) (x:List Bool):∀k j,posR A x k≤j→j<k→oF x (A.getD j [])
 | 0,j,_,h=>by omega
 | k+1,j,h1,h2=>by
  rw[posR] at h1
  split at h1
  ·rename_i h
   by_cases e:j=k
   ·subst e;exact (af0 _ _).1 h
   ·exact aiq A x k j h1 (by omega)
  ·omega
theorem ah6 (A:List (List Bool)) (x:List Bool):∀k,0<posR A x k→¬oF x (A.getD (posR A x k-1) [])
 | 0,h=>by simp[posR] at h
 | k+1,h=>by
  rw[posR] at h ⊢
  split
  ·rename_i hb;rw[if_pos hb] at h;exact ah6 A x k h
  ·rename_i hb
   exact fun hl=>hb ((af0 _ _).2 hl)
theorem amn {n:Nat} {A:List (List Bool)} {x:List Bool} (hx:x.length=n) (hA:∀y∈A,y.length=n) (h:yU A):yU (abp A x):=by
 have hp:=ahO A x A.length
 have hlo:=ah6 A x A.length
 have hhi:=aiq A x A.length
 unfold abp rowAt
 generalize posR A x A.length=p at *
 have hs:yU (A.take p++A.drop p):=by rw[arO];exact h
 obtain ⟨s1,s2,s3⟩:=List.pairwise_append.1 hs
 have hd:∀y∈A.drop p,oF x y:=fun y hy=>by
  obtain ⟨i,hi,rfl⟩:=apP hy
  rw[apW] at hi
  have:=hhi (p+i) (by omega) (by omega)
  rw[List.getElem_drop]
  rwa [aaK,aaL (by omega)] at this
 have ht:∀y∈A.take p,¬oF x y:=fun y hy=>by
  obtain ⟨i,hi,rfl⟩:=apP hy
  rw[ah0] at hi
  rw[List.getElem_take]
  have h0:=hlo (by omega)
  rw[aaK,aaL (by omega)] at h0
  by_cases e:i=p-1
  ·subst e;exact h0
  ·have h1:=asj.1 h i (p-1) (by omega) (by omega) (by omega)
   exact acF hx (hA _ (ar0 _)) (hA _ (ar0 _)) h0 h1
 refine List.pairwise_append.2 ⟨s1,asJ.2 ⟨fun y hy=>als (hd y hy),s2⟩,fun a ha b hb=>?_⟩
 rcases aif.1 hb with rfl | hb
 ·exact ht a ha
 ·exact s3 a ha b hb
theorem amd {n:Nat} {l:List (List Bool)} (hl:∀y∈l,y.length=n):yU (iy l):=by
 refine agJ (p:=fun l=>(∀y∈l,y.length=n)→yU (iy l)) (fun _=>List.Pairwise.nil) (fun l x ih hl=>?_) l hl
 rw[zi]
 refine amn (n:=n) (hl x (by simp)) (fun y hy=>hl y ?_) (ih fun y hy=>hl y (by simp[hy]))
 have:=(qQ l).mem_iff.1 hy
 simp[this]
theorem acy {n:Nat}:∀{a b:List (List Bool)},a.Perm b→(∀y∈a,y.length=n)→yU a→yU b→a=b
 | [],b,h,_,_,_=>by rw[List.nil_perm.1 h]
 | x :: a,[],h,_,_,_=>by have:=h.length_eq;simp at this
 | x :: a,y :: b,h,hn,ha,hb=>by
  obtain ⟨a1,a2⟩:=asJ.1 ha
  obtain ⟨b1,b2⟩:=asJ.1 hb
  have e:x=y:=by
   rcases aif.1 (h.mem_iff.1 (anl ..)) with e | hx
   ·exact e
   ·rcases aif.1 (h.mem_iff.2 (anl ..)) with e | hy
    ·exact e.symm
    ·have h1:=b1 x hx
     have h2:=a1 y hy
     rcases aik (n:=n) (hn x (anl ..)) (hn y (anp _ hy)) h1 with h3 | h3
     ·exact absurd h3 h2
     ·exact h3
  subst e
  rw[acy ((List.perm_cons x).1 h) (fun y hy=>hn y (anp _ hy)) a2 b2]
end Go.Sx.Pe
namespace Go.Sx.Pe
open Go Go.Proofs Go.Sx.Pn Go.RowKit Go.Sort
theorem anh {E:Env} {W:World} (hm:ace E.mem W) {v:Value} {l:List Bool} (h:aN E.mem v (iX l)):BS W v l:=by
 unfold iX at h
 cases hl:l with
 | nil=>
  subst hl
  cases h with
  | nil=>exact ⟨none,0,rfl,fun k hk=>absurd hk (akv _)⟩
  | emp a cap=>exact ⟨_,_,rfl,fun k hk=>absurd hk (akv _)⟩
  | seq b o n cap sz f cs u hm' hcap hmax hl' hc he=>exact ⟨_,_,rfl,fun k hk=>absurd hk (akv _)⟩
 | cons x t=>
  rw[←hl]
  have hpos:0<l.length:=by rw[hl];simp
  generalize hn:l.length=n at h hpos
  cases h with
  | nil=>exact absurd hpos (Nat.lt_irrefl _)
  | emp a cap=>exact absurd hpos (Nat.lt_irrefl _)
  | seq b o _ cap sz f cs u hm' hcap hmax hl' hc he=>
   refine ⟨some ⟨b,o,none⟩,cap,by rw[hn],fun k hk=>⟨b,o,rfl,?_⟩⟩
   have hk:k<n:=by omega
   obtain ⟨T,fr,hw⟩:=hm _ _ hm'
   have hs:sz=1:=(hl' k hk).symm
   subst hs
   have h1:=hc k 0 _ hk rfl
   have h2:=he k 0 _ hk rfl
   rw[h2.aL,anw,aqZ] at h1
   simp only[World.cell?,hw]
   exact h1.1
def rD (l:List (List Bool)):Ob:=.row 72 1 l.length (fun k=>[iX (l.getD k [])])
def apm (n:Nat) (l:List (List Bool)):Prop:=l.length≤1000000000∧∀x∈l,x.length=n
def anI (n:Nat):Spec:={ A:=List (List Bool),args:=fun _=>[.row 0,.fn 100 []],objs:=fun l=>[rD l],pre:=apm n,res:=fun _=>.tup [],objs':=fun l=>[rD (iy l)],fresh:=true,ro:=0 }
theorem alc (n : Nat) (hn : n ≤ 1000000) : aK Tryz.prog 99 (anI n) := by
  refine ⟨⟨Tryz.f99, Tryz.func99, rfl, rfl⟩, fun (l : List (List Bool)) hpre E vs w _ hh hA => ?_⟩
  obtain ⟨hbig, hlen⟩ := hpre
  have hbig : l.length ≤ 1000000000 := hbig
  have hob : (iw [rD l]).obj 0 = some (.row 72 1 l.length (fun k => [iX (l.getD k [])])) := rfl
  obtain ⟨hs1, hs2⟩ := hA
  obtain ⟨v, fv, rfl⟩ : ∃ v fv, vs = #[v, fv] := by
    have h1 : vs.size = 2 := hs1
    exact ⟨vs[0]'(by omega), vs[1]'(by omega), by
      apply Array.ext
      · simp [h1]
      · intro i hi hi2
        match i, hi2 with
        | 0, _ => rfl
        | 1, _ => rfl⟩
  have hv := hs2 0 v (.row 0) rfl rfl
  have hf := hs2 1 fv (.fn 100 []) rfl rfl
  obtain rfl : fv = .func (.func 100) #[] #[] := by
    cases hf with
    | fn _ us _ hl he => 
      have : us = #[] := Array.eq_empty_of_size_eq_zero (by simpa using hl)
      rw [this]
  have hR := hh.ob 0 _ hob
  have hrep := hR
  cases hv with
  | row _ _ hd0 hsl =>
  cases hR with
  | row _ _ _ _ v' xs u hhd hw hmax hl hc he =>
  rw [hd0] at hhd
  obtain rfl := Option.some.inj hhd
  have hnone : ∀ (p : Option Addr) (cap : Nat), Calls Tryz.prog 99 #[.slice p 0 cap, .func (.func 100) #[] #[]] w fun e w' => e = .returned (.tuple #[]) ∧ w' = w := fun p cap =>
    AnyF.slices_SortFunc_none (P := Tryz.prog) (ρ := Tryz.wS) { Tryz.ajZ with } p cap _ w
  by_cases h0 : l = []
  · subst h0
    have hw2 := hw.2
    obtain ⟨p, cap, rfl⟩ : ∃ p cap, v = .slice p 0 cap := by
      rcases hw2 with ⟨rfl, _⟩ | ⟨g, cap, cur, rfl, _⟩
      · exact ⟨_, _, rfl⟩
      · exact ⟨_, _, rfl⟩
    refine (hnone p cap).mono ?_
    rintro e w' ⟨rfl, rfl⟩
    exact ⟨.tuple #[], E, rfl, .tup _ _ rfl (fun k u s hu => by simp at hu), hh⟩
  have hpos : 0 < l.length := asg.2 h0
  rcases hw.2 with ⟨rfl, hn0⟩ | ⟨g, cap, cur, rfl, _⟩
  · exact absurd hn0 (by omega)
  obtain ⟨_, cur, u', hA⟩ := hrep.jN hd0
  -- the elements, with what they stand for
  let α : Type := { p : Value × List Bool // p.2.length = n ∧ p.1.oneCell' = true ∧ aN E.mem p.1 (iX p.2) }
  have hel : ∀ j, j < l.length → cur[j]? = some (u' j 0) ∧ (u' j 0).oneCell' = true ∧ aN E.mem (u' j 0) (iX (l.getD j [])) := fun j hj => by
    have c1 := hA.hc j 0 (iX (l.getD j [])) hj rfl
    have c2 := hA.he j 0 (iX (l.getD j [])) hj rfl
    rw [anw, aqZ] at c1
    exact ⟨c1.1, c1.2, c2⟩
  have mem : ∀ j, j < l.length → (l.getD j []).length = n := fun j hj => hlen _ (aa5 (bG [] hj))
  let el : Fin l.length → α := fun j => ⟨(u' j 0, l.getD j []), mem j j.2, (hel j j.2).2.1, (hel j j.2).2.2⟩
  haveI : Inhabited α := ⟨el ⟨0, hpos⟩⟩
  let enc : α → Value := fun x => x.1.1
  have h1 : ∀ a, (enc a).oneCell' = true := fun a => a.2.2.1
  let d : Array α := Array.ofFn el
  have hds : d.size = l.length := Array.size_ofFn
  have hdat : ∀ j (hj : j < l.length), d[j]! = el ⟨j, hj⟩ := fun j hj => by
    rw [getElem!_pos d j (by rw [hds]; exact hj)]
    simp [d]
  let cf : α → α → Int := fun x y => gT x.1.2 y.1.2
  have hlt : ∀ x y : α, ltOf cf x y = true ↔ oF x.1.2 y.1.2 := fun x y => by
    show decide (gT x.1.2 y.1.2 < 0) = true ↔ _
    rw [decide_eq_true_iff]; rfl
  have hltf : ∀ x y : α, ltOf cf x y = false ↔ ¬ oF x.1.2 y.1.2 := fun x y => by rw [← hlt, Bool.not_eq_true]
  have hO : SWO (ltOf cf) := {
    irrefl := fun x => (hltf x x).2 (ajJ _)
    trans := fun x y z h k => (hlt x z).2 (vR (x.2.1.trans y.2.1.symm) (y.2.1.trans z.2.1.symm) ((hlt x y).1 h) ((hlt y z).1 k))
    ntrans := fun x y z h k => (hltf x z).2 (acF x.2.1 y.2.1 z.2.1 ((hltf x y).1 h) ((hltf y z).1 k)) }
  have hg : g < w.heap.size := (aaT.1 hA.heap).1
  have hnc := hA.hn
  have hsz := hA.size
  -- the world with another order
  have hW : ∀ (m : Nat) (os : Array Obj) (dk : Array α), dk.size = l.length → bq (kC w E [rD l] 0) E ((iw [rD l]).bW 0 (some (rD (dk.toList.map fun x => x.1.2)))) (sortWorld enc w g 0 m dk os) := by
    intro m os dk hdk
    have hw1 : (putRow enc (Sort.ahead w m) g 0 dk).heap[g]? = some (.cells (putCells enc 0 dk cur) 72 (0, 0)) := by
      show (w.heap.modify g (onCells _))[g]? = _
      rw [aqe, if_pos rfl, hA.heap]; rfl
    have hw2 : ∀ k, k ≠ g → (putRow enc (Sort.ahead w m) g 0 dk).heap[k]? = w.heap[k]? := fun k hk => by
      show (w.heap.modify g (onCells _))[k]? = _
      rw [aqe, if_neg fun e => hk e.symm]
    have hbang : ∀ k, k < l.length → (dk.toList.map fun x : α => x.1.2).getD k [] = (dk[k]!).1.2 := fun k hk => by
      rw [aaK, aiL, aej, acX (by omega), getElem!_pos dk k (by omega)]; rfl
    have hlm : (dk.toList.map fun x : α => x.1.2).length = l.length := by rw [anb, alg, hdk]
    have hat : ∀ j, j < l.length → (putCells enc 0 dk cur)[j]? = some (enc dk[j]!) := fun j hj => by
      rw [ahC, if_pos (by omega), if_pos (by omega)]
    have hh2 : bq (kC w E [rD l] 0) E ((iw [rD l]).bW 0 (some (rD (dk.toList.map fun x => x.1.2)))) (putRow enc (Sort.ahead w m) g 0 dk) := by
      refine hh.write (i := 0) (b := g) hob (by simp [Env.blk, hd0, aF]) (afK _)
        (.row 72 1 _ _ _ ((putCells enc 0 dk cur).toList.take (l.length * 1)) (fun j _ => enc dk[j]!) hd0 ?_ (by rw [hlm]; exact hA.hmax) (fun j _ => rfl) ?_ ?_) rfl rfl rfl (by simp) hw2
      · rw [hlm]
        refine ⟨?_, .inr ⟨g, cap, _, rfl, adO _, hw1, hA.hn, hA.hcap, by rw [xG]; exact hA.size, rfl⟩⟩
        have h3 : (putCells enc 0 dk cur).toList.length = cap * 1 := by rw [alg, xG]; exact hA.size
        rw [ah0, h3]
        omega
      · intro j k s hj hs
        rw [hlm] at hj
        have hk : k = 0 := by
          have := (aaS.1 hs).1
          simpa using this
        subst hk
        rw [aj8, if_pos (by omega), aej, anw, aqZ]
        exact ⟨hat j hj, h1 _⟩
      · intro j k s hj hs
        rw [hlm] at hj
        have hk : k = 0 := by
          have := (aaS.1 hs).1
          simpa using this
        subst hk
        simp only [aso, Option.some.injEq] at hs
        subst hs
        rw [hbang j hj]
        exact (dk[j]!).2.2.2
    exact hh2.below (w' := sortWorld enc w g 0 m dk os) ⟨rfl, rfl, rfl, by simp [sortWorld], fun k hk => by
      show (_ ++ os)[k]? = _
      rw [ana hk]⟩
  have hcmp : CmpLays1 Tryz.prog 100 #[] enc cf g 0 d.size w := CmpReads.lays fun m os dk hdk x y => by
    have hm := (hW m os dk (by rw [hdk, hds])).mem
    refine (aht x.1.2 y.1.2 x.1.1 y.1.1 _ (x.2.1.trans y.2.1.symm) (by rw [x.2.1]; exact hn) (anh hm x.2.2.2) (anh hm y.2.2.2)).mono ?_
    rintro e w' ⟨rfl, rfl⟩
    exact ⟨rfl, 0, rfl⟩
  have hH : Holds enc w g 0 d := fun j hj => by
    have hj : j < l.length := by omega
    refine ⟨?_, ?_⟩
    · simp only [World.cell?, hA.heap, agW]
      rw [hdat j hj]; exact (hel j hj).1
    · simp [World.frozen?, hA.heap]
  have hsort := Any.slices_SortFunc (P := Tryz.prog) (ρ := Tryz.wS) Tryz.ajZ enc h1 cf hO 100 #[] g 0 cap d w (enters_of Tryz.func100 (by kernel_rfl) rfl) hcmp hH hg (by omega)
  rw [hds] at hsort
  refine Calls.mono hsort ?_
  rintro e w' ⟨rfl, d', m, os, hp, hs, rfl⟩
  have hd's : d'.size = l.length := hp.1.trans hds
  have hl' : (d'.toList.map fun x : α => x.1.2) = iy l := by
    have hpd : d'.toList.Perm d.toList := by
      have := hp.2.2
      rwa [show d'.extract 0 l.length = d' by rw [← hd's]; simp, show d.extract 0 l.length = d by rw [← hds]; simp] at this
    have hdl : (d.toList.map fun x : α => x.1.2) = l := by
      apply List.ext_getElem?
      intro k
      rw [aiL, aej]
      by_cases hk : k < l.length
      · rw [acX (by omega), aaL hk]
        simp only [d, Array.getElem_ofFn, ang, Option.some.injEq]
        show l.getD k [] = _
        rw [aaK, aaL hk]; rfl
      · rw [alr (by omega), aqW (by omega)]; rfl
    have hperm : (d'.toList.map fun x : α => x.1.2).Perm l := by
      have := hpd.map fun x : α => x.1.2
      rwa [hdl] at this
    refine acy (n := n) (hperm.trans (qQ l).symm) (fun y hy => hlen y (hperm.mem_iff.1 hy)) ?_ (amd hlen)
    unfold yU
    rw [List.pairwise_map, asj]
    intro i j hi hj hij
    have hi : i < d'.size := by simpa using hi
    have hj : j < d'.size := by simpa using hj
    have := hs i j (adO _) hij (by omega)
    rw [hltf, getElem!_pos d' i hi, getElem!_pos d' j hj] at this
    exact this
  have hfin := hW m os d' hd's
  rw [hl'] at hfin
  refine ⟨.tuple #[], E, rfl, .tup _ _ rfl (fun k u s hu => by simp at hu), ?_⟩
  have key : ∀ (st : St), (∀ i o, st.obj i = some o → ((iw [rD l]).bW 0 (some (rD (iy l)))).obj i = some o) → st.no = 1 → st.k = none → bq (kC w E [rD l] 0) E st (sortWorld enc w g 0 m d' os) := fun st ho hno hk => by
    have hkk := hfin.kk
    exact ⟨fun i o h => hfin.ob i o (ho i o h), fun i j o o' b h1 h2 => hfin.sep i j o o' b (ho i o h1) (ho j o' h2), fun i o b h => hfin.own i o b (ho i o h), hfin.mem, hfin.mem0, hfin.memnew, fun i hi => hfin.new i (by rw [hno] at hi; exact hi), hfin.base, hfin.fr, hfin.hd0, by rw [hno]; exact hfin.mno, hfin.mkh, by rw [hk]; exact hkk⟩
  refine key _ (fun i o ho => ?_) rfl rfl
  have e1 : St.obj ⟨[], [(0, some (rD (iy l)))], 1, none⟩ i = some o := ho
  rw [kS (no := 1) (c := none)] at e1
  have e2 := kS (iw [rD l]).fr (iw [rD l]).ob 1 1 (c := none) (c' := none) 0 (some (rD (iy l))) i
  refine Eq.trans e2 ?_
  by_cases hi : 0 = i
  · rw [if_pos hi] at e1 ⊢; exact e1
  · rw [if_neg hi] at e1
    simp [St.obj, look] at e1
end Go.Sx.Pe
namespace Go.Sx.Pe
open Go Go.Proofs Go.Sx.Pn
def bbP (l:List (List Bool)):PV:=.seq l.length (fun k=>[iX (l.getD k [])])
def bbR (l:List (List Bool)):LV:=.rw 72 1 l.length (fun k=>[iX (l.getD k [])])
def eH (c:aS):List (List Bool):=(dR c).map (·.1)
def jS (c:aS):PV:=.tup [bbP (iy (eH c)),iP (jP c)]
theorem ahU (a:List (List Bool)) (x:List Bool):∀k,k<a.length+1→bL a.length (fun k=>[iX (a.getD k [])]) (bg 1 [iX x]) k=[iX ((a++[x]).getD k [])]:=by
 intro k hk
 unfold bL
 by_cases h:k<a.length
 ·rw[if_pos h]
  show [iX (a.getD k [])]=_
  rw[aaK,aaK,aeB h]
 ·obtain rfl:k=a.length:=by omega
  rw[if_neg h,aqV,aaK,aeD (afK _),aqV];rfl
theorem amc:aK Tryz.prog 98 (bR (fun a:aS×List Bool=>[jy a.1,sJ a.2]) (fun a=>a.1.sts.length≤24∧a.2.length=a.1.sts.length) (fun a=>iX a.2)):=by
 refine ⟨ahY.1,fun ⟨c,m⟩ hp E vs w hg hh hA=>?_⟩
 obtain ⟨h1,h2⟩:=hp
 have h1:c.sts.length≤24:=h1
 have h2:m.length=c.sts.length:=h2
 have e1:sJ (cu m)=sJ m:=by unfold sJ sZ;rw[aau]
 have key:=ahY.2 (c,cu m) ⟨h1,nX (by omega)⟩ E vs w hg hh (by
  show jX E vs [jy c,sJ (cu m)]
  rw[e1];exact hA)
 refine key.mono fun e w' ⟨v,E',h3,h4,h5⟩=>⟨v,E',h3,?_,h5⟩
 have e2:(cu m).take c.sts.length=m:=by unfold cu;rw[←h2,List.take_left'];rfl
 show aN _ v (iX m)
 rw[←e2];exact h4
theorem uX:aK Tryz.prog 29 (iC (fun c:aS=>[jy c]) gD jS):=by
 refine aX (Tb:=tab) mixed aB Tryz.func29 rfl rfl ?_
 rintro (c:aS) hpre
 refine ai (ai rfl (ai rfl rfl)) ?_
 have ho:gD c:=hpre
 refine ei _ (ai (uM) (ei (c) (ei [] (ai (a4 (ai (fun _=>Or.inl rfl) (ai nof (Or.inl rfl)))) (ai (by exact (ai rfl (ai (ai rfl (fun _ _=>rfl)) (ai (ai rfl (fun _ _=>rfl)) (ai rfl (fun _ _=>rfl)))))) (ai trivial (ai (ho) ?_)))))))
 refine bn (p:=jP c=0) (bM (by omega)) (fun h1=>?_) (fun h1=>?_)
 ·have e:eH c=[]:=by
   unfold eH dR
   unfold jP at h1
   split
   ·rename_i h
    rw[if_pos h] at h1
    cases ee:lH c with
    | none=>rfl
    | some l=>rw[ee] at h1;exact absurd rfl h1
   ·rfl
  refine ai (ai (fun h=>absurd (show false=true from h) (by decide)) ?_) trivial
  show ak _ (jS c)
  rw[jS,e]
  exact (ai rfl rfl)
 obtain ⟨hc,hx⟩:=qL h1
 obtain ⟨hg,hl,hw⟩:=om h1
 have h24:=(gI hc).2.2.1.2
 have hA:jS c=.tup [bbP (iy (eH c)),iP 0]:=by unfold jS;rw[h1]
 have hml:(eH c).length=(dR c).length:=anb _
 have htk:∀k,k<(dR c).length→(eH c).take (k+1)=(eH c).take k++[((dR c).getD k av).1]:=fun k hk=>by
  rw[aP [] (by omega)]
  congr 2
  unfold eH
  rw[aaK,aaK,aiL,aaL hk];rfl
 refine ei (bC.inv { X:=Nat,up:=fun k=>[(21,.s (iA k)),(7,bbR ((eH c).take k))],uo:=fun k=>[],inv:=fun k=>k≤(dR c).length∧(True),meas:=fun k=>(dR c).length-k,x0:=0 }) ?_
 refine ai (ai (ai (by exact (a4 (ai rfl rfl))) (ai (by exact (ai (ai (ai (fun _=>rfl) (iE (by simp only[zz,reduceCtorEq];rfl))) rfl) rfl)) (by exact trivial))) rfl) (ai (ai (adO _) ?_) ?_)
 ·trivial
 intro (k:Nat) ⟨hk,_⟩
 have hkl:((eH c).take k).length=k:=by rw[ah0];omega
 refine ah (p:=k<(dR c).length) (au (by omega)) (fun h2=>?_) (fun h2=>?_)
 ·refine ai (ai (aaN _) (iN (n:=(dR c).length) (by omega))) (ai rfl ?_)
  refine ei (fT ((dR c).getD k av).1) (ai (abJ _) ?_)
  have hgk:=hg _ (aa5 (bG av h2))
  refine ei _ (ai (amc) (ei ((c,((dR c).getD k av).1)) (ei [] (ai (a4 (ai (fun _=>Or.inl rfl) (ai nof (Or.inl rfl)))) (ai (by exact (ai (ai rfl (ai (ai rfl (fun _ _=>rfl)) (ai (ai rfl (fun _ _=>rfl)) (ai rfl (fun _ _=>rfl))))) (ai rfl (fun _ _=>rfl)))) (ai trivial (ai (⟨h24,hgk.1⟩) ?_)))))))
  refine ai (mxL (n:=((eH c).take k).length+1) (by omega) (by decide)) (ai (aH 1 rfl) ?_)
  refine ei (k+1) (ai (ai rfl rfl) (ai (ai (ai rfl (ai (ai rfl rfl) (ai (ai rfl rfl) (ai (ai (ai (ai (fun _=>rfl) (aO (by omega))) rfl) (ai rfl (ai rfl (ai ?_ ?_)))) trivial)))) rfl) (ai (ai (iL (by omega)) trivial) (iM (by omega)))))
  ·rw[htk k h2,aaH];rfl
  ·rw[htk k h2];exact ahU _ _
 ·obtain rfl:k=(dR c).length:=by omega
  rw[show (eH c).take (dR c).length=eH c from arL (by omega)]
  refine ei _ (ai (alc c.sts.length (by omega)) (ei (eH c) (ei [1] (ai (ai rfl (ai rfl (ai rfl (ai rfl (ai nof (ai nof (Or.inl rfl))))))) (ai (by exact (ai rfl (ai rfl trivial))) (ai (by exact (ai rfl (ai rfl (ai rfl (fun _ _=>rfl))))) (ai (⟨by show (eH c).length≤1000000000;omega,fun x hx=>by obtain ⟨y,hy,rfl⟩:=aq0.1 hx;exact (hg y hy).1⟩) ?_)))))))
  refine ai (ai (fun h=>absurd (show false=true from h) (by decide)) ?_) trivial
  show ak _ (jS c)
  rw[hA]
  exact (ai (ai rfl (fun _ _=>rfl)) rfl)
def aqE:Spec:=bR (fun a:List (Int)×List (Int)=>[isA a.1,isA a.2]) (fun a=>a.1.length≤1000000) (fun a=>bP (decide (a.1=a.2)))
theorem aoH:aK Tryz.prog 59 aqE:=by
 refine aX (Tb:=tab) mixed aB Tryz.func59 rfl rfl ?_
 rintro (a:List (Int)×List (Int)) hpre
 refine ai (ai rfl (ai rfl rfl)) ?_
 have hl:a.1.length≤1000000:=hpre
 refine bn (p:=a.1.length=a.2.length) (bM (by omega)) (fun h1=>?_) (fun h1=>?_)
 ·refine ai (ai (fun _=>trivial) ?_) trivial
  show ak _ (bP (decide (a.1=a.2)))
  rw[decide_eq_false (fun h=>h1 (congrArg List.length h))]
  exact rfl
 refine ei (bC.inv { X:=Nat,up:=fun k=>[(13,.s (iA k))],uo:=fun k=>[],inv:=fun k=>k≤a.1.length∧(a.1.take k=a.2.take k),meas:=fun k=>a.1.length-k,x0:=0 }) ?_
 refine ai (ai (ai (by exact (a4 (ai rfl rfl))) (ai (by exact (ai (ai (fun _=>rfl) (iE (by simp only[zz,reduceCtorEq];rfl))) rfl)) (by exact trivial))) rfl) (ai (ai (adO _) ?_) ?_)
 ·rfl
 intro (k:Nat) ⟨hk,hall⟩
 refine ah (p:=k<a.1.length) (au (by omega)) (fun h4=>?_) (fun h4=>?_)
 ·refine ei (.seq [0,1,2,3,4,5,6,7,8]) (ai (by kernel_rfl) ?_)
  refine ai (ai (aaN _) (iN (n:=a.1.length) (by omega))) (ai rfl ?_)
  refine ai (ai (aaN _) (iN (n:=a.2.length) (by omega))) (ai rfl ?_)
  refine bn (p:=a.1.getD k 0=a.2.getD k 0) (by exact bne_iff_ne) (fun h5=>?_) (fun h5=>?_)
  ·refine ai (ai (fun _=>trivial) ?_) trivial
   show ak _ (bP (decide (a.1=a.2)))
   rw[decide_eq_false (fun h=>h5 (by rw[h]))]
   exact rfl
  refine ei (k+1) (ai (ai rfl rfl) (ai (ai (ai rfl (ai (ai rfl rfl) (ai (ai rfl rfl) (ai (ai (ai (fun _=>rfl) (aO (by omega))) rfl) trivial)))) rfl) (ai (ai (iL (by omega)) ?_) (iM (by omega)))))
  exact wu 0 h4 (by omega) hall h5
 ·obtain rfl:k=a.1.length:=by omega
  rw[agn,h1,agn] at hall
  refine ai (ai (fun _=>trivial) ?_) trivial
  show ak _ (bP (decide (a.1=a.2)))
  rw[decide_eq_true hall]
  exact rfl
theorem agr (f:Nat→List PV) (k:Nat) {g:Nat→List PV} (hg:g 0=f k):∀j,j<k+1→bL k f g j=f j:=by
 intro j hj
 unfold bL
 by_cases h:j<k
 ·rw[if_pos h]
 ·obtain rfl:j=k:=by omega
  rw[if_neg h,aqV,hg]
def alA (c:aS):Prop:=c.sts.length≤1000000∧c.trs.length≤1000000
def stF (c:aS) (k:Nat):List PV:=stK (c.sts.getD k st0)
def trF (c:aS) (k:Nat):List PV:=trK (c.trs.getD k aM)
theorem aag:aK Tryz.prog 14 (iC (fun c:aS=>[jy c]) alA (fun c=>uJ c)):=by
 refine aX (Tb:=tab) mixed aB Tryz.func14 rfl rfl ?_
 rintro (c:aS) hpre
 refine ai (ai rfl (ai rfl rfl)) ?_
 obtain ⟨hs,ht⟩:=hpre
 have hs:c.sts.length≤1000000:=hs
 have ht:c.trs.length≤1000000:=ht
 refine ei (bC.inv { X:=Nat,up:=fun k=>[(16,.s (iA k))],uo:=fun k=>[⟨2,36,[.s (iA c.act),.s (.p false (ssP c.ins)),.rw 89 2 k (stF c),.s aby]⟩],inv:=fun k=>k≤c.sts.length∧(True),meas:=fun k=>c.sts.length-k,x0:=0 }) ?_
 refine ai (ai (ai (by exact (a4 (ai rfl rfl))) (ai ?_ ?_)) rfl) (ai (ai (adO _) ?_) ?_)
 ·exact (ai (ai (fun _=>rfl) (iE (by simp only[zz,reduceCtorEq];rfl))) rfl)
 ·exact (ai (ai (ai (ai nof rfl) rfl) (ai (ai (ai nof (ai rfl (fun _ _=>rfl))) rfl) (ai rfl (ai (ai nof rfl) rfl)))) trivial)
 ·trivial
 intro (k:Nat) ⟨hk,_⟩
 refine ah (p:=k<c.sts.length) (au (by omega)) (fun h1=>?_) (fun h1=>?_)
 ·refine ai (ai (aaN _) (iN (n:=c.sts.length) (by omega))) (ai rfl ?_)
  refine ai (mxL (n:=k+1) (by omega) (by decide)) (ai (lt1 rfl) ?_)
  refine ei (k+1) (ai (ai rfl rfl) (ai (ai (ai rfl (ai (ai rfl rfl) (ai (ai rfl rfl) (ai (ai (ai (fun _=>rfl) (aO (by omega))) rfl) (ai (ai (ai (ai nof rfl) rfl) (ai (ai (ai nof (ai rfl (fun _ _=>rfl))) rfl) (ai (ai rfl (ai rfl (ai rfl ?_))) (ai (ai nof rfl) rfl)))) trivial))))) rfl) (ai (ai (iL (by omega)) trivial) (iM (by omega)))))
  exact agr (stF c) k rfl
 obtain rfl:k=c.sts.length:=by omega
 refine ei (bC.inv { X:=Nat,up:=fun k=>[(34,.s (iA k))],uo:=fun k=>[⟨2,36,[.s (iA c.act),.s (.p false (ssP c.ins)),.rw 89 2 c.sts.length (stF c),.rw 123 5 k (trF c)]⟩],inv:=fun k=>k≤c.trs.length∧(True),meas:=fun k=>c.trs.length-k,x0:=0 }) ?_
 refine ai (ai (ai (by exact (a4 (ai rfl rfl))) (ai ?_ ?_)) rfl) (ai (ai (adO _) ?_) ?_)
 ·exact (ai (ai (fun _=>rfl) (iE (by simp only[zz,reduceCtorEq];rfl))) rfl)
 ·exact (ai (ai (ai (ai nof rfl) rfl) (ai (ai (ai nof (ai rfl (fun _ _=>rfl))) rfl) (ai (ai rfl (ai rfl (ai rfl (fun _ _=>rfl)))) rfl))) trivial)
 ·trivial
 intro (k:Nat) ⟨hk,_⟩
 refine ah (p:=k<c.trs.length) (au (by omega)) (fun h1=>?_) (fun h1=>?_)
 ·refine ai (ai (aaN _) (iN (n:=c.trs.length) (by omega))) (ai rfl ?_)
  refine ai (mxL (n:=k+1) (by omega) (by decide)) (ai (lt1 rfl) ?_)
  refine ei (k+1) (ai (ai rfl rfl) (ai (ai (ai rfl (ai (ai rfl rfl) (ai (ai rfl rfl) (ai (ai (ai (fun _=>rfl) (aO (by omega))) rfl) (ai (ai (ai (ai nof rfl) rfl) (ai (ai (ai nof (ai rfl (fun _ _=>rfl))) rfl) (ai (ai rfl (ai rfl (ai rfl (fun _ _=>rfl)))) (ai rfl (ai rfl (ai rfl ?_)))))) trivial))))) rfl) (ai (ai (iL (by omega)) trivial) (iM (by omega)))))
  exact agr (trF c) k rfl
 obtain rfl:k=c.trs.length:=by omega
 refine ai (ai (fun h=>absurd (show false=true from h) (by decide)) ?_) trivial
 show ak _ (uJ c)
 rw[show uJ c=.agg [iP c.act,ssP c.ins,.seq c.sts.length (stF c),.seq c.trs.length (trF c)] from rfl]
 exact (ai rfl (ai (ai rfl (fun _ _=>rfl)) (ai (ai rfl (fun _ _=>rfl)) (ai rfl (fun _ _=>rfl)))))
def bbA (l:List (List Bool)):SV:=.p false (bbP l)
def afr (l:List (List Bool)):Prop:=l.length≤1000000∧∀m∈l,m.length≤1000000
theorem ab2:aK Tryz.prog 33 (bR (fun a:List (List Bool)×List (List Bool)=>[bbA a.1,bbA a.2]) (fun a=>afr a.1) (fun a=>bP (decide (a.1=a.2)))):=by
 refine aX (Tb:=tab) mixed aB Tryz.func33 rfl rfl ?_
 rintro (a:List (List Bool)×List (List Bool)) hpre
 refine ai (ai rfl (ai rfl rfl)) ?_
 obtain ⟨hl,hm⟩:=hpre
 have hl:a.1.length≤1000000:=hl
 refine bn (p:=a.1.length=a.2.length) (bM (by omega)) (fun h1=>?_) (fun h1=>?_)
 ·refine ai (ai (fun _=>trivial) ?_) trivial
  show ak _ (bP (decide (a.1=a.2)))
  rw[decide_eq_false (fun h=>h1 (congrArg List.length h))]
  exact rfl
 refine ei (bC.inv { X:=Nat,up:=fun k=>[(5,.s (iA k))],uo:=fun k=>[],inv:=fun k=>k≤a.1.length∧(a.1.take k=a.2.take k),meas:=fun k=>a.1.length-k,x0:=0 }) ?_
 refine ai (ai (ai (by exact (a4 (ai rfl rfl))) (ai (by exact (ai (ai (fun _=>rfl) (iE (by simp only[zz,reduceCtorEq];rfl))) rfl)) (by exact trivial))) rfl) (ai (ai (adO _) ?_) ?_)
 ·rfl
 intro (k:Nat) ⟨hk,hall⟩
 refine ah (p:=k<a.1.length) (au (by omega)) (fun h4=>?_) (fun h4=>?_)
 ·refine ei (.seq [0,1,2,3,4,5,6,7,8,9]) (ai (by kernel_rfl) ?_)
  refine ai (ai (aaN _) (iN (n:=a.1.length) (by omega))) (ai rfl ?_)
  refine ai (ai (aaN _) (iN (n:=a.2.length) (by omega))) (ai rfl ?_)
  refine ei _ (ai (agO) (ei ((a.1.getD k [],a.2.getD k [])) (ei [] (ai (a4 (ai (fun _=>Or.inl rfl) (ai nof (Or.inl rfl)))) (ai (by exact (ai (ai rfl (fun _ _=>rfl)) (ai rfl (fun _ _=>rfl)))) (ai trivial (ai (hm _ (aa5 (bG [] h4))) ?_)))))))
  refine bn (p:=a.1.getD k []=a.2.getD k []) (by (show (!decide (a.1.getD k []=a.2.getD k []))=true↔_;simp)) (fun h5=>?_) (fun h5=>?_)
  ·refine ai (ai (fun _=>trivial) ?_) trivial
   show ak _ (bP (decide (a.1=a.2)))
   rw[decide_eq_false (fun h=>h5 (by rw[h]))]
   exact rfl
  refine ei (k+1) (ai (ai rfl rfl) (ai (ai (ai rfl (ai (ai rfl rfl) (ai (ai rfl rfl) (ai (ai (ai (fun _=>rfl) (aO (by omega))) rfl) trivial)))) rfl) (ai (ai (iL (by omega)) ?_) (iM (by omega)))))
  exact wu [] h4 (by omega) hall h5
 ·obtain rfl:k=a.1.length:=by omega
  rw[agn,h1,agn] at hall
  refine ai (ai (fun _=>trivial) ?_) trivial
  show ak _ (bP (decide (a.1=a.2)))
  rw[decide_eq_true hall]
  exact rfl
def qh (t:jA):Bool:=decide (t.fr.length≤40)&&(decide (t.to.length≤40)&&kY t.wh)
def jr (c:aS):Bool:=(decide (c.ins.length≤40)&&(decide (c.sts.length≤60)&&decide (c.trs.length≤60)))&&((c.ins.all fun t=>decide (t.length≤100))&&((c.sts.all fun x=>decide (x.st.length≤40))&&((c.trs.all qh)&&((decide (c.sts.length≤7)&&decide (c.trs.length≤9))||decide (¬bE c=0)))))
theorem wI {c:aS} (h:¬(c.ins.length≤40∧c.sts.length≤60∧c.trs.length≤60)):jr c=false:=by
 unfold jr
 rw[←asE,←asE,decide_eq_false h,aoT]
theorem alQ {c:aS} (h:∃x∈c.ins,¬x.length≤100):jr c=false:=by
 obtain ⟨x,hx,h⟩:=h
 unfold jr
 rw[show (c.ins.all fun t=>decide (t.length≤100))=false from aqU.2 ⟨x,hx,by simpa using h⟩,aoT,apT]
theorem afq {c:aS} (h:∃x∈c.sts,¬x.st.length≤40):jr c=false:=by
 obtain ⟨x,hx,h⟩:=h
 unfold jr
 rw[show (c.sts.all fun x=>decide (x.st.length≤40))=false from aqU.2 ⟨x,hx,by simpa using h⟩,aoT,apT,apT]
theorem vX {c:aS} (h:∃x∈c.trs,qh x=false):jr c=false:=by
 obtain ⟨x,hx,h⟩:=h
 unfold jr
 rw[show c.trs.all qh=false from aqU.2 ⟨x,hx,by rw[h];decide⟩,aoT,apT,apT,apT]
theorem amk {c:aS} (h1:c.ins.length≤40∧c.sts.length≤60∧c.trs.length≤60) (h2:∀x∈c.ins,x.length≤100) (h3:∀x∈c.sts,x.st.length≤40) (h4:∀x∈c.trs,qh x=true):jr c=((decide (c.sts.length≤7)&&decide (c.trs.length≤9))||decide (¬bE c=0)):=by
 unfold jr
 rw[←asE,←asE,decide_eq_true h1,ahX,show (c.ins.all fun t=>decide (t.length≤100))=true from akN.2 fun x hx=>decide_eq_true (h2 x hx),ahX,show (c.sts.all fun x=>decide (x.st.length≤40))=true from akN.2 fun x hx=>decide_eq_true (h3 x hx),ahX,akN.2 h4,ahX]
theorem am4 {t:jA} (h:qh t=true):t.fr.length≤40∧t.to.length≤40∧kY t.wh=true:=by
 unfold qh at h
 rw[afI,afI] at h
 exact ⟨of_decide_eq_true h.1,of_decide_eq_true h.2.1,h.2.2⟩
theorem afT {c:aS} (h1:c.ins.length≤40∧c.sts.length≤60∧c.trs.length≤60) (h3:∀x∈c.sts,x.st.length≤40) (h4:∀x∈c.trs,qh x=true):gD c:=by
 refine ⟨fun s hs=>?_,fun t ht=>?_⟩
 ·have:=h3 s hs;omega
 ·obtain ⟨h5,h6,h7⟩:=am4 (h4 t ht)
  have:=akm h7
  exact ⟨by omega,by omega,by omega⟩
theorem aqi (x:Int):decide (¬x=0)=(x != 0):=by
 by_cases h:x=0
 ·subst h;rfl
 ·rw[decide_eq_true h];exact (bne_iff_ne.2 h).symm
theorem amw:aK Tryz.prog 11 (bR (fun c:aS=>[jy c]) (fun _=>True) (fun c=>bP (jr c))):=by
 refine aX (Tb:=tab) mixed aB Tryz.func11 rfl rfl ?_
 rintro (c:aS) hpre
 refine ai (ai rfl (ai rfl rfl)) ?_
 refine ah (p:=40<c.ins.length) (au (by omega)) (fun h1=>?_) (fun h1=>?_)
 ·refine ai (ai (fun _=>trivial) ?_) trivial
  show ak _ (bP (jr c))
  rw[wI (fun h=>absurd h.1 (by omega))]
  exact rfl
 refine ah (p:=60<c.sts.length) (au (by omega)) (fun h2=>?_) (fun h2=>?_)
 ·refine ai (ai (fun _=>trivial) ?_) trivial
  show ak _ (bP (jr c))
  rw[wI (fun h=>absurd h.2.1 (by omega))]
  exact rfl
 refine ah (p:=60<c.trs.length) (au (by omega)) (fun h3=>?_) (fun h3=>?_)
 ·refine ai (ai (fun _=>trivial) ?_) trivial
  show ak _ (bP (jr c))
  rw[wI (fun h=>absurd h.2.2 (by omega))]
  exact rfl
 have hs1:c.ins.length≤40∧c.sts.length≤60∧c.trs.length≤60:=⟨by omega,by omega,by omega⟩
 refine ei (bC.inv { X:=Nat,up:=fun k=>[(3,.s (iA k))],uo:=fun k=>[],inv:=fun k=>k≤c.ins.length∧(∀y∈c.ins.take k,y.length≤100),meas:=fun k=>c.ins.length-k,x0:=0 }) ?_
 refine ai (ai (ai (by exact (a4 (ai rfl rfl))) (ai (by exact (ai (ai (fun _=>rfl) (iE (by simp only[zz,reduceCtorEq];rfl))) rfl)) (by exact trivial))) rfl) (ai (ai (adO _) ?_) ?_)
 ·exact fun y hy=>absurd hy (by simp)
 intro (k:Nat) ⟨hk,hall⟩
 refine ah (p:=k<c.ins.length) (au (by omega)) (fun h4=>?_) (fun h4=>?_)
 ·refine ai (ai (aaN _) (iN (n:=c.ins.length) (by omega))) (ai rfl ?_)
  have hz:=dI (c.ins.getD k [])
  refine ah (p:=100<(c.ins.getD k []).length) (by exact au (by show (100:Int)<((strOf (c.ins.getD k [])).size:Int)↔_;rw[hz];omega)) (fun h5=>?_) (fun h5=>?_)
  ·refine ai (ai (fun _=>trivial) ?_) trivial
   show ak _ (bP (jr c))
   rw[alQ ⟨_,aa5 (bG [] h4),by omega⟩]
   exact rfl
  refine ei (k+1) (ai (ai rfl rfl) (ai (ai (ai rfl (ai (ai rfl rfl) (ai (ai rfl rfl) (ai (ai (ai (fun _=>rfl) (aO (by omega))) rfl) trivial)))) rfl) (ai (ai (iL (by omega)) ?_) (iM (by omega)))))
  intro y hy
  rw[aP [] h4] at hy
  rcases ahT.1 hy with hy | hy
  ·exact hall y hy
  ·simp only[agp] at hy;subst hy;omega
 obtain rfl:k=c.ins.length:=by omega
 rw[agn] at hall
 have hins:=hall
 clear hall
 refine ei (bC.inv { X:=Nat,up:=fun k=>[(4,.s (iA k))],uo:=fun k=>[],inv:=fun k=>k≤c.sts.length∧(∀y∈c.sts.take k,y.st.length≤40),meas:=fun k=>c.sts.length-k,x0:=0 }) ?_
 refine ai (ai (ai (by exact (a4 (ai rfl rfl))) (ai (by exact (ai (ai (fun _=>rfl) (iE (by simp only[zz,reduceCtorEq];rfl))) rfl)) (by exact trivial))) rfl) (ai (ai (adO _) ?_) ?_)
 ·exact fun y hy=>absurd hy (by simp)
 intro (k:Nat) ⟨hk,hall⟩
 refine ah (p:=k<c.sts.length) (au (by omega)) (fun h4=>?_) (fun h4=>?_)
 ·refine ai (ai (aaN _) (iN (n:=c.sts.length) (by omega))) (ai rfl ?_)
  refine ah (p:=40<(c.sts.getD k st0).st.length) (by simp only[zz,reduceCtorEq];omega) (fun h5=>?_) (fun h5=>?_)
  ·refine ai (ai (fun _=>trivial) ?_) trivial
   show ak _ (bP (jr c))
   rw[afq ⟨_,aa5 (bG st0 h4),by omega⟩]
   exact rfl
  refine ei (k+1) (ai (ai rfl rfl) (ai (ai (ai rfl (ai (ai rfl rfl) (ai (ai rfl rfl) (ai (ai (ai (fun _=>rfl) (aO (by omega))) rfl) trivial)))) rfl) (ai (ai (iL (by omega)) ?_) (iM (by omega)))))
  intro y hy
  rw[aP st0 h4] at hy
  rcases ahT.1 hy with hy | hy
  ·exact hall y hy
  ·simp only[agp] at hy;subst hy;omega
 obtain rfl:k=c.sts.length:=by omega
 rw[agn] at hall
 have hsts:=hall
 clear hall
 refine ei (bC.inv { X:=Nat,up:=fun k=>[(5,.s (iA k))],uo:=fun k=>[],inv:=fun k=>k≤c.trs.length∧(∀y∈c.trs.take k,qh y=true),meas:=fun k=>c.trs.length-k,x0:=0 }) ?_
 refine ai (ai (ai (by exact (a4 (ai rfl rfl))) (ai (by exact (ai (ai (fun _=>rfl) (iE (by simp only[zz,reduceCtorEq];rfl))) rfl)) (by exact trivial))) rfl) (ai (ai (adO _) ?_) ?_)
 ·exact fun y hy=>absurd hy (by simp)
 intro (k:Nat) ⟨hk,hall⟩
 refine ah (p:=k<c.trs.length) (au (by omega)) (fun h4=>?_) (fun h4=>?_)
 ·refine ai (ai (aaN _) (iN (n:=c.trs.length) (by omega))) (ai rfl ?_)
  refine ah (p:=40<(c.trs.getD k aM).fr.length) (by simp only[zz,reduceCtorEq];omega) (fun h5=>?_) (fun h5=>?_)
  ·refine ai (ai (fun _=>trivial) ?_) trivial
   show ak _ (bP (jr c))
   rw[vX ⟨_,aa5 (bG aM h4),by unfold qh;rw[decide_eq_false (by omega),aoT]⟩]
   exact rfl
  refine ah (p:=40<(c.trs.getD k aM).to.length) (by simp only[zz,reduceCtorEq];omega) (fun h6=>?_) (fun h6=>?_)
  ·refine ai (ai (fun _=>trivial) ?_) trivial
   show ak _ (bP (jr c))
   rw[vX ⟨_,aa5 (bG aM h4),by unfold qh;rw[decide_eq_false (p:=(c.trs.getD k aM).to.length≤40) (by omega),aoT,apT]⟩]
   exact rfl
  refine ei _ (ai (ao6) (ei ((c.trs.getD k aM).wh) (ei [] (ai (a4 (ai (fun _=>Or.inl rfl) (ai nof (Or.inl rfl)))) (ai (by exact (ai (iE (by simp only[zz,reduceCtorEq])) (ai (iE (by simp only[zz,reduceCtorEq])) (ai rfl (fun _ _=>rfl))))) (ai trivial (ai (trivial) ?_)))))))
  refine aZ (b:=!kY (c.trs.getD k aM).wh) rfl (fun h7=>?_) (fun h7=>?_)
  ·have h7:kY (c.trs.getD k aM).wh=false:=by simpa using h7
   refine ai (ai (fun _=>trivial) ?_) trivial
   show ak _ (bP (jr c))
   rw[vX ⟨_,aa5 (bG aM h4),by unfold qh;rw[h7,apT,apT]⟩]
   exact rfl
  have h7:kY (c.trs.getD k aM).wh=true:=by simpa using h7
  refine ei (k+1) (ai (ai rfl rfl) (ai (ai (ai rfl (ai (ai rfl rfl) (ai (ai rfl rfl) (ai (ai (ai (fun _=>rfl) (aO (by omega))) rfl) trivial)))) rfl) (ai (ai (iL (by omega)) ?_) (iM (by omega)))))
  intro y hy
  rw[aP aM h4] at hy
  rcases ahT.1 hy with hy | hy
  ·exact hall y hy
  ·simp only[agp] at hy;subst hy;unfold qh;rw[decide_eq_true (by omega),decide_eq_true (by omega),h7];rfl
 obtain rfl:k=c.trs.length:=by omega
 rw[agn] at hall
 have hy:=amk hs1 hins hsts hall
 have ho:=afT hs1 hsts hall
 refine ah (p:=c.sts.length≤7) (bZ (by omega)) (fun h4=>?_) (fun h4=>?_)
 ·refine ah (p:=c.trs.length≤9) (bZ (by omega)) (fun h5=>?_) (fun h5=>?_)
  ·refine ai (ai (fun _=>trivial) ?_) trivial
   show ak _ (bP (jr c))
   rw[hy,decide_eq_true h4,decide_eq_true h5,ahX,akr]
   exact rfl
  ·refine ei _ (ai (aas) (ei (c) (ei [] (ai (a4 (ai (fun _=>Or.inl rfl) (ai nof (Or.inl rfl)))) (ai (by exact (ai rfl (ai (ai rfl (fun _ _=>rfl)) (ai (ai rfl (fun _ _=>rfl)) (ai rfl (fun _ _=>rfl)))))) (ai trivial (ai (ho) ?_)))))))
   refine ai (ai (fun _=>trivial) ?_) trivial
   show ak _ (bP (jr c))
   rw[hy,decide_eq_false h5,apT,anA,aqi (bE c)]
   exact rfl
 ·refine ei _ (ai (aas) (ei (c) (ei [] (ai (a4 (ai (fun _=>Or.inl rfl) (ai nof (Or.inl rfl)))) (ai (by exact (ai rfl (ai (ai rfl (fun _ _=>rfl)) (ai (ai rfl (fun _ _=>rfl)) (ai rfl (fun _ _=>rfl)))))) (ai trivial (ai (ho) ?_)))))))
  refine ai (ai (fun _=>trivial) ?_) trivial
  show ak _ (bP (jr c))
  rw[hy,decide_eq_false h4,aoT,anA,aqi (bE c)]
  exact rfl
theorem an0 {c:aS} (h:jr c=true):gD c∧alA c∧c.ins.length≤1000000:=by
 by_cases h1:c.ins.length≤40∧c.sts.length≤60∧c.trs.length≤60
 ·by_cases h3:∀x∈c.sts,x.st.length≤40
  ·by_cases h4:∀x∈c.trs,qh x=true
   ·exact ⟨afT h1 h3 h4,⟨by omega,by omega⟩,by omega⟩
   ·simp only[Classical.not_forall] at h4
    obtain ⟨x,hx,h4⟩:=h4
    rw[vX ⟨x,hx,by simpa using h4⟩] at h;cases h
  ·simp only[Classical.not_forall] at h3
   obtain ⟨x,hx,h3⟩:=h3
   rw[afq ⟨x,hx,h3⟩] at h;cases h
 ·rw[wI h1] at h;cases h
def p10:Array Value:=(Lib.pow10Tab.map fun z=>Value.int .u64 z).toArray
def glP:List (Nat×Array Value):=[(0,p10)]
def fnG {α:Type} (args:α→List SV) (pre:α→Prop) (res:α→PV):Spec:={ A:=α,args:=args,objs:=fun _=>[],pre:=pre,res:=res,objs':=fun _=>[],fresh:=true,ro:=0,gl:=glP }
theorem ara {w:World} (h:∀p∈glP,∃T fr,w.heap[p.1]?=some (.cells p.2 T fr)):Lib.TabIs Tryz.prog w "internal/strconv.uint64pow10" .u64 Lib.pow10Tab:=by
 obtain ⟨T,fr,hw⟩:=h _ (agp.2 rfl)
 have hg:Tryz.prog.globalNamed "internal/strconv.uint64pow10"=some 0:=by kernel_rfl
 show World.var? _ w _=_
 unfold World.var?
 rw[hg]
 show (match w.heap[0]? with | some (.cells cs _ _)=>some cs | _=>none)=_
 rw[show w.heap[0]?=some (.cells p10 T fr) from hw]
 rfl
theorem afc:aK Tryz.prog 79 (fnG (fun n:Nat=>[iA n]) (fun n=>n≤1000000) (fun n=>sP (dec n))):=
 aii (gl:=glP) Tryz.func79 rfl rfl (vals:=fun n:Nat=>[.int .i64 n]) (pre:=fun n=>n≤1000000) (ret:=fun n=>.string (strOf (dec n))) (fun _ _=>rfl) fun n hn w h=>by
  refine (Tryz.strconv_Itoa n (by omega) (by have:n≤1000000:=hn;omega) w (ara h)).mono fun e w' hh=>?_
  obtain ⟨h1,k,os,rfl⟩:=hh
  refine ⟨?_,?_⟩
  ·rw[h1]
   have:Lib.itoa (n:Int)=dec n:=by unfold Lib.itoa;rw[if_neg (by omega)];rfl
   rw[this];rfl
  ·exact ⟨rfl,rfl,rfl,by simp[Sort.grow],fun k hk=>by rw[Sort.heap_grow_old _ _ (by exact hk)];rfl⟩
def nE (x:Sk):List UInt8:=[UInt8.ofNat (65+x.1.toNat),if x.2 then 43 else 45]
theorem ajw:aK Tryz.prog 138 (bR (fun x:Sk=>[skA x]) (fun x=>0≤x.1∧x.1<6) (fun x=>sP (nE x))):=by
 refine aX (Tb:=tab) mixed aB Tryz.func138 rfl rfl ?_
 rintro ⟨n,b⟩ hpre
 refine ai (ai rfl (ai rfl rfl)) ?_
 obtain ⟨h0,h6⟩:=hpre
 have h0:0≤n:=h0
 have h6:n<6:=h6
 obtain ⟨d,rfl⟩:∃d:Nat,n=(d:Int):=⟨n.toNat,by omega⟩
 have hv:IntKind.i32.wrap (IntKind.i64.wrap (65+(d:Int)))=((65+d:Nat):Int):=by
  rw[wrI (n:=65+(d:Int)) (by omega) (by omega)]
  simp[IntKind.wrap,IntKind.bits,IntKind.signed]<;>omega
 refine ai (by show 0≤IntKind.i32.wrap (IntKind.i64.wrap (65+(d:Int)))∧IntKind.i32.wrap (IntKind.i64.wrap (65+(d:Int)))<128;rw[hv];omega) ?_
 have hx:(⟨#[UInt8.ofNat (IntKind.i32.wrap (IntKind.i64.wrap (65+(d:Int)))).toNat]⟩:ByteArray)=strOf [UInt8.ofNat (65+d)]:=by rw[hv];rfl
 have hxs:(((((⟨#[UInt8.ofNat (IntKind.i32.wrap (IntKind.i64.wrap (65+(d:Int)))).toNat]⟩:ByteArray)).size+1:Nat)):Int)≤9223372036854775807:=by rw[hx,dI];show ((1+1:Nat):Int)≤_;decide
 refine aZ (b:=b) rfl (fun h=>?_) (fun h=>?_)
 ·refine ai hxs ?_
  refine ai (ai (fun _=>trivial) ?_) trivial
  show ak _ (sP (nE ((d:Int),b)))
  rw[show nE ((d:Int),b)=[UInt8.ofNat (65+d)]++[43] by unfold nE;rw[h];rfl,show sP ([UInt8.ofNat (65+d)]++[43])=.val (.string ((⟨#[UInt8.ofNat (IntKind.i32.wrap (IntKind.i64.wrap (65+(d:Int)))).toNat]⟩:ByteArray)++strOf [43])) by rw[hx,eP];rfl]
  exact rfl
 ·refine ai hxs ?_
  refine ai (ai (fun _=>trivial) ?_) trivial
  show ak _ (sP (nE ((d:Int),b)))
  rw[show nE ((d:Int),b)=[UInt8.ofNat (65+d)]++[45] by unfold nE;rw[h];rfl,show sP ([UInt8.ofNat (65+d)]++[45])=.val (.string ((⟨#[UInt8.ofNat (IntKind.i32.wrap (IntKind.i64.wrap (65+(d:Int)))).toNat]⟩:ByteArray)++strOf [45])) by rw[hx,eP];rfl]
  exact rfl
def ads (x:Sk):Int:=if 0≤x.1∧x.1<6 then 0 else 2
theorem anW:aK Tryz.prog 137 (bR (fun x:Sk=>[skA x]) (fun _=>True) (fun x=>iP (ads x))):=by
 refine aX (Tb:=tab) mixed aB Tryz.func137 rfl rfl ?_
 rintro (x:Sk) hpre
 refine ai (ai rfl (ai rfl rfl)) ?_
 refine ei _ (ai (aey) (ei (x.1) (ei [] (ai (a4 (ai (fun _=>Or.inl rfl) (ai nof (Or.inl rfl)))) (ai (by exact rfl) (ai trivial (ai (trivial) ?_)))))))
 refine aZ (b:=!(decide (0≤x.1)&&decide (x.1<6))) rfl (fun h=>?_) (fun h=>?_)
 ·have h:¬(0≤x.1∧x.1<6):=fun e=>by rw[decide_eq_true e.1,decide_eq_true e.2] at h;cases h
  refine ai (ai (fun _=>trivial) ?_) trivial
  show ak _ (iP (ads x))
  rw[ads,if_neg h]
  exact rfl
 ·have h:0≤x.1∧x.1<6:=by
   have h:(decide (0≤x.1)&&decide (x.1<6))=true:=by simpa using h
   rw[afI] at h
   exact ⟨of_decide_eq_true h.1,of_decide_eq_true h.2⟩
  refine ai (ai (fun _=>trivial) ?_) trivial
  show ak _ (iP (ads x))
  rw[ads,if_pos h]
  exact rfl
theorem afL:aK Tryz.prog 80 (iC (fun x:Sk=>[skA x]) (fun x=>0≤x.1∧x.1<6) (fun x=>.tup [sP (nE x),iP 0])):=by
 refine aX (Tb:=tab) mixed aB Tryz.func80 rfl rfl ?_
 rintro (x:Sk) hpre
 refine ai (ai rfl (ai rfl rfl)) ?_
 obtain ⟨h0,h6⟩:=hpre
 have h0:0≤x.1:=h0
 have h6:x.1<6:=h6
 refine ei _ (ai (anW) (ei (x) (ei [] (ai (a4 (ai (fun _=>Or.inl rfl) (ai nof (Or.inl rfl)))) (ai (by exact (ai rfl rfl)) (ai trivial (ai (trivial) ?_)))))))
 refine bn (p:=ads x=0) (bM (by omega)) (fun h=>?_) (fun h=>?_)
 ·exact absurd (if_pos ⟨h0,h6⟩) h
 refine ei _ (ai (ajw) (ei (x) (ei [] (ai (a4 (ai (fun _=>Or.inl rfl) (ai nof (Or.inl rfl)))) (ai (by exact (ai rfl rfl)) (ai trivial (ai (⟨h0,h6⟩) ?_)))))))
 refine ai (ai (fun _=>(by exact (ai trivial trivial))) ?_) trivial
 exact (ai rfl rfl)
def spI (l:List Int):List UInt8:=l.flatMap fun x=>dec x.toNat++[32]
theorem vK {n:Nat} (h:n<100):(dec n).length≤2:=by
 have:∀n:Fin 100,(Lib.decDigits n.1).length≤2:=by decide +kernel
 exact this ⟨n,h⟩
theorem aou {l:List Int} (h:gL 100 l):(spI l).length≤3*l.length:=by
 induction l with
 | nil=>simp[spI]
 | cons x l ih=>
  have h1:0≤x∧x<100:=h x (by simp)
  have h2:=ih fun y hy=>h y (by simp[hy])
  have h3:=vK (n:=x.toNat) (by omega)
  show ((dec x.toNat++[32])++spI l).length≤_
  simp only[aaH,aiD,anj];omega
theorem aL {μ:Nat→Option (Array Value)} {u v:Value} (h:aN μ u (.val v)):u=v:=by cases h;rfl
def anU (a:List (List UInt8)×List UInt8):Prop:=a.1.length≤1000000∧(Lib.join a.1 a.2).length≤140737488355328
theorem anJ:aK Tryz.prog 143 (bR (fun a:List (List UInt8)×List UInt8=>[ssA a.1,sA a.2]) anU (fun a=>sP (Lib.join a.1 a.2))):=by
 refine ⟨⟨_,Tryz.func143,rfl,rfl⟩,fun a hpre E vs w _ hh hA=>?_⟩
 obtain ⟨l,sep⟩:=a
 obtain ⟨hll,hpre⟩:=hpre
 have hll:l.length≤1000000:=hll
 have hpre:(Lib.join l sep).length≤140737488355328:=hpre
 obtain ⟨hsz,hA⟩:=hA
 have hsz:vs.size=2:=hsz
 have hp:∀{u:Value} {d:PV},aJ E u (.p false d)→aN (E.m false) u d:=fun hx=>by cases hx with | p _ _ _ hp=>exact hp
 have h0:aN (E.m false) (vs[0]'(by omega)) (ssP l):=hp (hA 0 _ _ (acX (by omega)) rfl)
 have h1:vs[1]'(by omega)=.string (strOf sep):=aL (hp (hA 1 _ (sA sep) (acX (by omega)) rfl))
 have hvs:vs=#[vs[0]'(by omega),.string (strOf sep)]:=by
  apply ar8
  intro k
  match k with
  | 0=>rw[acX (by omega)];rfl
  | 1=>rw[acX (by omega),h1];rfl
  | k+2=>rw[alr (by omega)];simp
 generalize hv0:vs[0]'(by omega)=v0 at *
 clear h1 hv0 hA
 subst hvs
 have key:∀{n:Nat} {f:Nat→List PV},aN (E.m false) v0 (.seq n f)→n=l.length→f=(fun k=>[sP (l.getD k [])])→Calls Tryz.prog 143 #[v0,.string (strOf sep)] w fun e w'=>e=.returned (.string (strOf (Lib.join l sep)))∧Go.RowKit.Below w.heap.size w w':=by
  intro n f h hn hf
  cases h with
  | nil=>
   obtain rfl:l=[]:=ape.1 hn.symm
   exact (Tryz.strings_Join_none none 0 (strOf sep) w).mono fun e w' ⟨h1,h2⟩=>by subst h2;exact ⟨h1,RowKit.Below.refl _ _⟩
  | emp a c=>
   obtain rfl:l=[]:=ape.1 hn.symm
   exact (Tryz.strings_Join_none (some a) c (strOf sep) w).mono fun e w' ⟨h1,h2⟩=>by subst h2;exact ⟨h1,RowKit.Below.refl _ _⟩
  | seq b o _ cap sz _ cs u hm hcap hmax hl hc he=>
   subst hn;subst hf
   obtain ⟨T,fr,hw⟩:=hh.mem _ _ hm
   have hcell:∀(j:Nat) x,(l.map strOf)[j]?=some x→w.cell? ⟨b,o+j,none⟩=some (.string x):=by
    intro j x hx
    rw[aiL] at hx
    obtain ⟨y,hy,rfl⟩:=arM.1 hx
    have hj:j<l.length:=(aaS.1 hy).1
    have hg:l.getD j []=y:=by rw[aaK,hy];rfl
    have hs1:1=sz:=hl j hj
    subst hs1
    have h2:=hc j 0 (sP (l.getD j [])) hj rfl
    have h3:=aL (he j 0 (sP (l.getD j [])) hj rfl)
    rw[h3,hg] at h2
    have h4:=h2.1
    rw[anw,aqZ] at h4
    simp[World.cell?,hw,h4]
   have e:(l.map strOf).map (·.data.toList)=l:=by
    rw[List.map_map]
    exact (List.map_congr_left fun x _=>rfl).trans (List.map_id l)
   have hb:b<w.heap.size:=by
    rcases ap9 b w.heap.size with h | h
    ·exact h
    ·rw[alr h] at hw;cases hw
   have:=Tryz.strings_Join b o cap (l.map strOf) (strOf sep) w hcell hb (by rw[anb];omega) (by rw[anb];exact hcap) (by rw[e];exact hpre)
   rw[anb,e] at this
   exact this.mono fun e w' ⟨h1,h2⟩=>⟨h1,h2⟩
 exact (key h0 rfl rfl).mono fun e w' ⟨he,hw⟩=>⟨_,E,he,.val _,hh.below hw⟩
def l8 (l:List Int):List (List UInt8):=l.map fun x=>dec x.toNat
def inT (l:List Int):List UInt8:=Lib.join (l8 l) [32]
theorem ah8:∀{l:List Int},l≠[]→spI l=inT l++[32]
 | [],h=>absurd rfl h
 | [x],_=>by show (dec x.toNat++[32])++[]=_;simp[inT,l8,Lib.join]
 | x :: y :: l,_=>by
  have:=ah8 (l:=y :: l) (by simp)
  show (dec x.toNat++[32])++spI (y :: l)=_
  rw[this]
  simp[inT,l8,Lib.join,List.intercalate_cons_cons]
theorem adE {l:List Int} (h:gL 100 l):(inT l).length≤3*l.length:=by
 by_cases hl:l=[]
 ·subst hl;simp[inT,l8,Lib.join]
 ·have:=aou h
  rw[ah8 hl,aaH] at this;omega
theorem acW:aK Tryz.prog 83 (bR (fun l:List Int=>[isA l]) (fun l=>gL 100 l∧l.length≤1000) (fun l=>sP (inT l))):=by
 refine aX (Tb:=tab) mixed aB Tryz.func83 rfl rfl ?_
 rintro (l:List Int) hpre
 refine ai (ai rfl (ai rfl rfl)) ?_
 obtain ⟨hx,hl⟩:=hpre
 have hx:gL 100 l:=hx
 have hl:l.length≤1000:=hl
 refine ei (bC.inv { X:=Nat,up:=fun k=>[(8,.s (iA k)),(3,ssR (l8 (l.take k)))],uo:=fun k=>[],inv:=fun k=>k≤l.length∧(True),meas:=fun k=>l.length-k,x0:=0 }) ?_
 refine ai (ai (ai (by exact (a4 (ai rfl rfl))) (ai (by exact (ai (ai (ai (fun _=>rfl) (iE (by simp only[zz,reduceCtorEq];rfl))) rfl) rfl)) (by exact trivial))) rfl) (ai (ai (adO _) ?_) ?_)
 ·trivial
 intro (k:Nat) ⟨hk,_⟩
 have hdl:(l8 (l.take k)).length=k:=by unfold l8;rw[anb,ah0];omega
 refine ah (p:=k<l.length) (au (by omega)) (fun h1=>?_) (fun h1=>?_)
 ·refine ai (ai (aaN _) (iN (n:=l.length) (by omega))) (ai rfl ?_)
  have hk1:=lW hx h1
  obtain ⟨d,hd⟩:∃d:Nat,l.getD k 0=(d:Int):=⟨(l.getD k 0).toNat,by omega⟩
  have e:l8 (l.take (k+1))=l8 (l.take k)++[dec d]:=by rw[aP 0 h1];unfold l8;rw[aq2,hd];rfl
  refine ei _ (ai (wZ) (ei (d) (ei [] (ai (a4 (ai (fun _=>Or.inl rfl) (ai nof (Or.inl rfl)))) (ai ?_ (ai (by exact trivial) (ai ((by show d<100;omega)) ?_)))))))
  ·exact (iE (by simp only[zz,reduceCtorEq];omega))
  refine ai (aeX (by show (l8 (l.take k)).length+1≤10000;omega)) (ai (aH 1 rfl) ?_)
  refine ei (k+1) (ai (ai rfl rfl) (ai (ai (ai rfl (ai (ai rfl rfl) (ai (ai rfl rfl) (ai (ai (ai (ai (fun _=>rfl) (aO (by omega))) rfl) (ai rfl (ai rfl (ai ?_ ?_)))) trivial)))) rfl) (ai (ai (iL (by omega)) trivial) (iM (by omega)))))
  all_goals rw[e]
  ·rw[aaH];rfl
  ·exact fun j hj=>aaw (a:=l8 (l.take k)) (b:=[dec d]) (n:=(l8 (l.take k)).length) (f:=fun k=>[sP ((l8 (l.take _)).getD k [])]) rfl (fun _ _=>rfl) (ahP rfl) j (by rw[aaH];exact hj)
 ·obtain rfl:k=l.length:=by omega
  have et:l.take l.length=l:=agn
  refine ei _ (ai (anJ) (ei ((l8 (l.take l.length),[32])) (ei [] (ai (ai rfl (ai rfl (ai rfl (ai rfl (ai (fun _=>Or.inl rfl) (ai (fun _=>ai rfl rfl) (Or.inl rfl))))))) (ai (by exact (ai (ai rfl (fun _ _=>rfl)) rfl)) (ai trivial (ai (⟨by show (l8 (l.take l.length)).length≤1000000;omega,by show (Lib.join (l8 (l.take l.length)) [32]).length≤140737488355328;rw[et];have:=adE hx;unfold inT at this;omega⟩) ?_)))))))
  refine ai (ai (fun _=>trivial) ?_) trivial
  show ak _ (sP (inT l))
  rw[show inT l=Lib.join (l8 (l.take l.length)) [32] by rw[et];rfl]
  exact rfl
end Go.Sx.Pe
namespace Go.Sx.Pe
open Go Go.Proofs Go.RowKit Go.Sx.Pn
theorem cell_of {w:World} {b:Nat} {vs:Array Value} {T:TypeId} {off:Nat} {v:Value} (h:w.heap[b]?=some (.cells vs T (0,0))) (hv:vs[off]?=some v):w.cell? ⟨b,off,none⟩=some v:=by
 simp[World.cell?,h,hv]
theorem agS {w:World} {b:Nat} {vs:Array Value} {T:TypeId} (h:w.heap[b]?=some (.cells vs T (0,0))):w.shape? b=some (T,vs.size):=by
 simp[World.shape?,h]
theorem aln {w:World} {b off:Nat} {vs:Array Value} {T:TypeId} (h:w.heap[b]?=some (.cells vs T (0,0))):w.frozen? ⟨b,off,none⟩=false:=by
 simp[World.frozen?,h]
set_option maxRecDepth 100000 in
theorem amQ (b:Nat) (w:World) (h0:w.cell? ⟨b,0,none⟩=some (.pointer (some ⟨b,0,none⟩))) :
  Calls Tryz.prog 135 #[.pointer (some ⟨b,0,none⟩)] w fun e w'=>e=.returned (.tuple #[])∧w'=w:=by
 obtain ⟨j,hj,_⟩:=arM.1 (show (Tryz.prog.info? 143).map (·.size)=some 2 by kernel_rfl)
 go_enter Tryz.func135,Tryz.ntmps135
 go_wp2
 rw[Lib.run_neq_ptr_same w _ Tryz.underlying140 hj]
 go_wp2
 go_end0
 exact ⟨rfl,rfl⟩
set_option maxRecDepth 100000 in
theorem alo (T n b:Nat) (hlies:liesAt Tryz.prog Tryz.prog.depth T (n / Tryz.prog.cellsOf T) 0 143 1=true) (hn:0<n) (w:World) (h0:w.cell? ⟨b,0,none⟩=some (.pointer none)) (hsh:w.shape? b=some (T,n)) (hfz:w.frozen? ⟨b,0,none⟩=false) :
  Calls Tryz.prog 135 #[.pointer (some ⟨b,0,none⟩)] w fun e w'=>e=.returned (.tuple #[])∧w'=w.setCell ⟨b,0,none⟩ (.pointer (some ⟨b,0,none⟩)):=by
 obtain ⟨j,hj,hjs⟩:=arM.1 (show (Tryz.prog.info? 143).map (·.size)=some 2 by kernel_rfl)
 go_enter Tryz.func135,Tryz.ntmps135
 go_wp2
 rw[Lib.run_to_unsafe w ⟨b,0,none⟩ Tryz.underlying140 Tryz.underlying226 hj (by rw[hjs];decide) hsh hn]
 simp only[Result.andThen]
 rw[Oper.upon_value]
 go_wp2
 rw[run_callFunc_extern Tryz.func166 (by kernel_rfl) (by kernel_rfl) (by kernel_rfl) (e:=Extern.AbiNoEscape.same) (by kernel_rfl)]
 rw[Lib.run_noEscape]
 simp only[Result.andThen]
 rw[Oper.upon_value]
 go_wp2
 rw[Lib.run_from_unsafe w ⟨b,0,none⟩ Tryz.underlying226 Tryz.underlying140 hj hsh hlies]
 simp only[Result.andThen]
 rw[Oper.upon_value]
 go_wp2
 go_end0
 exact ⟨rfl,rfl⟩
theorem agY (T n:Nat) (hlies:liesAt Tryz.prog Tryz.prog.depth T (n / Tryz.prog.cellsOf T) 0 143 1=true) (hn:0<n):abT Tryz.prog 135 T n:=
 ⟨⟨_,Tryz.func135,rfl,rfl⟩,fun b vs w hw hs=>⟨fun h0=>alo T n b hlies hn w (cell_of hw h0) (by rw[agS hw,hs]) (aln hw),fun h0=>amQ b w (cell_of hw h0)⟩⟩
theorem aeQ:abT Tryz.prog 135 143 2:=agY _ _ (by kernel_rfl) (by decide)
theorem anz:abT Tryz.prog 135 202 3:=agY _ _ (by kernel_rfl) (by decide)
set_option maxRecDepth 100000 in
theorem ah4 (T n:Nat):anx Tryz.prog 84 T n 5:=by
 refine ⟨⟨_,Tryz.func84,rfl,rfl⟩,fun b vs w g cap cur l hw hs h1 hg hnc hcm hcs hcell h0=>?_⟩
 have hl0:l.length≠0:=by simpa using h0
 have c1:w.drew.cell? ⟨b,1,none⟩=some (.slice (some ⟨g,0,none⟩) l.length cap):=cell_of (w:=w.drew) hw h1
 have hSD:(Builtin.unsafeSliceData_ #[141] 206 #[.slice (some ⟨g,0,none⟩) l.length cap]).run Tryz.prog w.drew=.ok (.pointer (some ⟨g,0,none⟩)) w.drew:=
  Lib.run_unsafeSliceData_row _ _ _ _ _ _ (by omega)
 have hUS:(Builtin.unsafeString_ #[206,3] 9 #[.pointer (some ⟨g,0,none⟩),.int .i64 l.length]).run Tryz.prog w.drew=.ok (.string ⟨l.toArray⟩) (w.drew.freeze ⟨g,0,none⟩ l.length):=by
  refine Lib.run_unsafeString_row w.drew 206 3 9 5 Tryz.underlying206 (by kernel_rfl) g cur.size (agS (w:=w.drew) hg) l h0 (by omega) (by unfold maxLen at hcm;omega) ?_
  intro j x hx
  rw[Addr.add_lit]
  exact cell_of (w:=w.drew) hg (by rw[agW];exact hcell j x hx)
 have mixed:=mixed
 go_enter Tryz.func84,Tryz.ntmps84
 go_wp2
 go_region_o
 all_goals (go_wp2;go_ret;exact ⟨rfl,rfl⟩)
end Go.Sx.Pe
namespace Go.Sx.Pe
open Go Go.Proofs Go.Sx.Pn
def og (l:List UInt8):Ob:=.row 5 1 l.length (fun k=>[cP (l.getD k 0)])
def aqo:SV:=.p false (.val .nilIface)
theorem nk {a b:List UInt8} {n:Nat} {f g:Nat→List PV} (hn:n=a.length) (hf:∀k,k<a.length→f k=[cP (a.getD k 0)]) (hg:∀k,k<b.length→g k=[cP (b.getD k 0)]):∀k,k<(a++b).length→bL n f g k=[cP ((a++b).getD k 0)]:=by
 intro k hk
 subst hn
 unfold bL
 by_cases h:k<a.length
 ·rw[if_pos h,hf k h,aaK,aaK,aeB h]
 ·have hb:k-a.length<b.length:=by rw[aaH] at hk;omega
  rw[if_neg h,hg _ hb,aaK,aaK,aeD (by omega)]
theorem one_byte {c:UInt8}:∀k,k<[c].length→bg 1 [cP c] k=[cP ([c].getD k 0)]:=by
 intro k hk
 have hk:k<1:=hk
 obtain rfl:k=0:=by omega
 rfl
theorem uG (l:List UInt8):∀k,jZ (strOf l) k=[cP (l.getD k 0)]:=by
 intro k
 show [PV.val (.int .u8 ((strOf l).data.getD k 0).toNat)]=_
 have:(strOf l).data.getD k 0=l.getD k 0:=by
  show l.toArray.getD k 0=_
  simp[ad4]
 rw[this];rfl
theorem agQ (l:List UInt8):(strOf l).size=l.length:=by
 show l.toArray.size=_
 simp
def adr:Bool→SV
 | true=>.own 0 0
 | false=>.p false (.val (.pointer none))
def bld (T:Nat) (rest:List SV) (st:Bool:=true):Ob:=.cells T (adr st :: .row 1 :: rest)
abbrev NM := List (List UInt8)
def wbG (T:Nat) (rest:NM→List SV):ql:={ A:=Bool×NM×List UInt8×UInt8,fix:=1,args:=fun a=>[.own 0 0,cA a.2.2.2],objs:=fun a=>[bld T (rest a.2.1) a.1,og a.2.2.1],pre:=fun a=>a.2.2.1.length≤1000000,res:=fun _=>aqo,objs':=fun a=>[bld T (rest a.2.1),og (a.2.2.1++[a.2.2.2])],inl:=[135] }
def wsG (T:Nat) (rest:NM→List SV):ql:={ A:=Bool×NM×List UInt8×List UInt8,fix:=1,args:=fun a=>[.own 0 0,sA a.2.2.2],objs:=fun a=>[bld T (rest a.2.1) a.1,og a.2.2.1],pre:=fun a=>a.2.2.1.length≤1000000∧a.2.2.2.length≤1000000,res:=fun a=>.tup [iA a.2.2.2.length,aqo],objs':=fun a=>[bld T (rest a.2.1),og (a.2.2.1++a.2.2.2)],inl:=[135] }
def noR:NM→List SV:=fun _=>[]
def nmR:NM→List SV:=fun l=>[ssA l]
theorem sH:jO Tryz.prog 78 (wsG 143 noR):=by
 refine pz (Tb:=tab) mixed aB Tryz.func78 rfl rfl ?_
 rintro ⟨st,a⟩ hpre
 refine ai (ai rfl (ai rfl rfl)) ?_
 have hl:a.2.1.length≤1000000:=hpre.1
 have hl2:a.2.2.length≤1000000:=hpre.2
 have hz:=agQ a.2.2
 cases st with
 | true=>
  refine sj aeQ rfl rfl rfl (.inl rfl) ?_
  refine ai (ai (ai rfl rfl) (ai (by show a.2.1.length+_≤_;rw[hz];unfold maxLen;omega) (by show a.2.1.length+_≤_;rw[hz];omega))) ?_
  refine ei [0,2] (ai (ai rfl (ai rfl rfl)) (ai ?_ ?_))
  ·exact (ai (iE (by simp only[zz,reduceCtorEq];rfl)) rfl)
  ·refine (ai (ai rfl (ai (ai rfl rfl) rfl)) (ai rfl (ai rfl (ai ?_ ?_))))
   ·show a.2.1.length+(strOf a.2.2).size=(a.2.1++a.2.2).length
    rw[hz,aaH]
   ·exact nk rfl (fun _ _=>rfl) (fun k _=>uG _ k)
 | false=>
  refine sj aeQ rfl rfl rfl (.inr ⟨_,rfl⟩) ?_
  refine ai (ai (ai rfl rfl) (ai (by show a.2.1.length+_≤_;rw[hz];unfold maxLen;omega) (by show a.2.1.length+_≤_;rw[hz];omega))) ?_
  refine ei [0,2] (ai (ai rfl (ai rfl rfl)) (ai ?_ ?_))
  ·exact (ai (iE (by simp only[zz,reduceCtorEq];rfl)) rfl)
  ·refine (ai (ai rfl (ai (ai rfl rfl) rfl)) (ai rfl (ai rfl (ai ?_ ?_))))
   ·show a.2.1.length+(strOf a.2.2).size=(a.2.1++a.2.2).length
    rw[hz,aaH]
   ·exact nk rfl (fun _ _=>rfl) (fun k _=>uG _ k)
theorem afU:jO Tryz.prog 78 (wsG 202 nmR):=by
 refine pz (Tb:=tab) mixed aB Tryz.func78 rfl rfl ?_
 rintro ⟨st,a⟩ hpre
 refine ai (ai rfl (ai rfl rfl)) ?_
 have hl:a.2.1.length≤1000000:=hpre.1
 have hl2:a.2.2.length≤1000000:=hpre.2
 have hz:=agQ a.2.2
 cases st with
 | true=>
  refine sj anz rfl rfl rfl (.inl rfl) ?_
  refine ai (ai (ai rfl rfl) (ai (by show a.2.1.length+_≤_;rw[hz];unfold maxLen;omega) (by show a.2.1.length+_≤_;rw[hz];omega))) ?_
  refine ei [0,2] (ai (ai rfl (ai rfl rfl)) (ai ?_ ?_))
  ·exact (ai (iE (by simp only[zz,reduceCtorEq];rfl)) rfl)
  ·refine (ai (ai rfl (ai (ai rfl rfl) (ai rfl (ai rfl (fun _ _=>rfl))))) (ai rfl (ai rfl (ai ?_ ?_))))
   ·show a.2.1.length+(strOf a.2.2).size=(a.2.1++a.2.2).length
    rw[hz,aaH]
   ·exact nk rfl (fun _ _=>rfl) (fun k _=>uG _ k)
 | false=>
  refine sj anz rfl rfl rfl (.inr ⟨_,rfl⟩) ?_
  refine ai (ai (ai rfl rfl) (ai (by show a.2.1.length+_≤_;rw[hz];unfold maxLen;omega) (by show a.2.1.length+_≤_;rw[hz];omega))) ?_
  refine ei [0,2] (ai (ai rfl (ai rfl rfl)) (ai ?_ ?_))
  ·exact (ai (iE (by simp only[zz,reduceCtorEq];rfl)) rfl)
  ·refine (ai (ai rfl (ai (ai rfl rfl) (ai rfl (ai rfl (fun _ _=>rfl))))) (ai rfl (ai rfl (ai ?_ ?_))))
   ·show a.2.1.length+(strOf a.2.2).size=(a.2.1++a.2.2).length
    rw[hz,aaH]
   ·exact nk rfl (fun _ _=>rfl) (fun k _=>uG _ k)
def aro (T:Nat) (rest:NM→List SV):ql:={ A:=NM×List UInt8,fix:=1,args:=fun a=>[.own 0 0],objs:=fun a=>[bld T (rest a.1),og a.2],pre:=fun a=>True,res:=fun a=>iA a.2.length,objs':=fun a=>[bld T (rest a.1),og a.2] }
theorem aop:jO Tryz.prog 142 (aro 202 nmR):=by
 refine pz (Tb:=tab) mixed aB Tryz.func142 rfl rfl ?_
 rintro (a:NM×List UInt8) hpre
 refine ai (ai rfl (ai rfl rfl)) ?_
 refine ei [0,1] (ai (ai rfl (ai rfl rfl)) (ai ?_ ?_))
 ·exact rfl
 ·exact (ai (ai rfl (ai (ai rfl rfl) (ai rfl (ai rfl (fun _ _=>rfl))))) (ai rfl (ai rfl (ai rfl (fun _ _=>rfl)))))
theorem ac4:jO Tryz.prog 81 (wbG 143 noR):=by
 refine pz (Tb:=tab) mixed aB Tryz.func81 rfl rfl ?_
 rintro ⟨st,a⟩ hpre
 refine ai (ai rfl (ai rfl rfl)) ?_
 have hl:a.2.1.length≤1000000:=hpre
 cases st with
 | true=>
  refine sj aeQ rfl rfl rfl (.inl rfl) ?_
  refine ai (mxL (n:=a.2.1.length+1) (by omega) (by decide)) ?_
  refine ai (lt1 rfl) ?_
  refine ei [0,3] (ai (ai rfl (ai rfl rfl)) (ai ?_ ?_))
  ·exact rfl
  ·refine (ai (ai rfl (ai (ai rfl rfl) rfl)) (ai rfl (ai rfl (ai ?_ ?_))))
   ·show a.2.1.length+1=(a.2.1++[a.2.2]).length
    simp
   ·exact nk rfl (fun _ _=>rfl) one_byte
 | false=>
  refine sj aeQ rfl rfl rfl (.inr ⟨_,rfl⟩) ?_
  refine ai (mxL (n:=a.2.1.length+1) (by omega) (by decide)) ?_
  refine ai (lt1 rfl) ?_
  refine ei [0,3] (ai (ai rfl (ai rfl rfl)) (ai ?_ ?_))
  ·exact rfl
  ·refine (ai (ai rfl (ai (ai rfl rfl) rfl)) (ai rfl (ai rfl (ai ?_ ?_))))
   ·show a.2.1.length+1=(a.2.1++[a.2.2]).length
    simp
   ·exact nk rfl (fun _ _=>rfl) one_byte
def jc (sep:List UInt8):List (List UInt8)→List UInt8
 | []=>[]
 | [x]=>x
 | x :: y :: l=>x++(sep++jc sep (y :: l))
theorem abS (sep x:List UInt8):∀l:List (List UInt8),jc sep (l++[x])=if l=[] then x else jc sep l++(sep++x)
 | []=>rfl
 | [y]=>by rw[if_neg (by simp)];rfl
 | y :: z :: l=>by
  rw[if_neg (by simp)]
  show y++(sep++jc sep (z :: l++[x]))=y++(sep++jc sep (z :: l))++(sep++x)
  rw[abS sep x (z :: l),if_neg (by simp)]
  simp
def zu (o:Int):List UInt8:=if o=4 then [32,124,32] else [32,38,32]
def adA (b:Bool) (t:List UInt8):List UInt8:=if b then 40 :: (t++[41]) else t
def brA (o x:Int):Bool:=decide (x=4)||(decide (x=3)&&decide (o≠4))
mutual
def d9 (nm:NM):Ex→List UInt8
 | .node o i l=>if o=0 then [if i=0 then 48 else 49] else if o=1 then nm.getD i.toNat [] else if o=2 then 33 :: (arE nm o l).headD [] else jc (zu o) (arE nm o l)
def arE (nm:NM) (o:Int):List Ex→List (List UInt8)
 | []=>[]
 | x :: l=>adA (brA o x.op) (d9 nm x) :: arE nm o l
end
def lQ (nm:NM) (o:Int) (x:Ex):List UInt8:=adA (brA o x.op) (d9 nm x)
theorem ah5 (nm:NM) (o:Int):∀l:List Ex,arE nm o l=l.map (lQ nm o)
 | []=>by rw[arE];rfl
 | x :: l=>by rw[arE,ah5 nm o l];rfl
theorem pY (nm:NM) (x:Ex):d9 nm x=if x.op=0 then [if x.idx=0 then 48 else 49] else if x.op=1 then nm.getD x.idx.toNat [] else if x.op=2 then 33 :: (x.args.map (lQ nm x.op)).headD [] else jc (zu x.op) (x.args.map (lQ nm x.op)):=by
 obtain ⟨o,i,l⟩:=x;rw[d9,ah5]
def wrB (o out:Int):Bool:=(decide (o=3)||decide (o=4))&&(decide (0≤out)&&(decide (o=4)||decide (out≠4)))
def oL (nm:NM) (x:Ex) (out:Int):List UInt8:=adA (wrB x.op out) (d9 nm x)
theorem aiA (nm:NM) (x:Ex) {o:Int} (h:0≤o):oL nm x o=lQ nm o x:=by
 unfold oL lQ
 have:wrB x.op o=brA o x.op:=by
  unfold wrB brA
  rw[decide_eq_true h,ahX]
  by_cases h3:x.op=3
  ·rw[h3];simp
  ·by_cases h4:x.op=4
   ·rw[h4];simp
   ·rw[decide_eq_false h3,decide_eq_false h4];rfl
 rw[this]
theorem wm (b:Bool) (t:List UInt8):(adA b t).length≤t.length+2:=by unfold adA;split<;>simp
def abg (nm:NM):Prop:=∀k,(nm.getD k []).length≤100
theorem yO (sep:List UInt8):∀l:List (List UInt8),(jc sep l).length≤(l.map fun t=>t.length+sep.length).sum
 | []=>by simp[jc]
 | [x]=>by simp[jc]
 | x :: y :: l=>by
  have:=yO sep (y :: l)
  simp only[jc,aaH,anv,asK] at this ⊢
  omega
theorem agy (o:Int):(zu o).length=3:=by unfold zu;split<;>rfl
theorem abe {nm:NM} {o:Int}:∀(l:List Ex),(∀x∈l,(d9 nm x).length+5≤110*x.size)→((l.map (lQ nm o)).map fun t=>t.length+3).sum≤110*sizes l
 | [],_=>by simp
 | x :: l,h=>by
  have h1:=h x (by simp)
  have h2:=abe (nm:=nm) (o:=o) l fun y hy=>h y (by simp[hy])
  have h3:=wm (brA o x.op) (d9 nm x)
  rw[sizes]
  simp only[anv,asK] at h2 ⊢
  unfold lQ at h2 ⊢
  omega
theorem abf {nm:NM} (hnm:abg nm):∀(n:Nat) (x:Ex),x.size≤n→(d9 nm x).length+5≤110*x.size
 | 0,x,h=>by have:=size_pos x;omega
 | n+1,x,h=>by
  have hsz:=x.size_eq
  have ih:∀y∈x.args,(d9 nm y).length+5≤110*y.size:=fun y hy=>abf hnm n y (by have:=lM hy;omega)
  have h4:=abe (nm:=nm) (o:=x.op) x.args ih
  rw[pY]
  split
  ·simp;omega
  ·split
   ·have:=hnm x.idx.toNat;omega
   ·split
    ·cases hc:x.args with
     | nil=>simp;omega
     | cons y l=>
      rw[hc,sizes] at hsz
      have h1:=ih y (by rw[hc];simp)
      have h3:=wm (brA x.op y.op) (d9 nm y)
      simp only[anv,List.headD_cons,aiD]
      unfold lQ
      omega
    ·have h5:=yO (zu x.op) (x.args.map (lQ nm x.op))
     rw[agy] at h5
     omega
def jw (nm:NM) (base sep:List UInt8) (o:Int) (l:List Ex) (k:Nat):List UInt8:=base++jc sep ((l.take k).map (lQ nm o))
theorem ug (nm:NM) (base sep:List UInt8) (o:Int) (l:List Ex):jw nm base sep o l 0=base:=by unfold jw;simp[jc]
theorem alB {nm:NM} {base sep:List UInt8} {o:Int} {l:List Ex} (h:0<l.length):jw nm base sep o l 1=base++lQ nm o (l.getD 0 dQ):=by
 unfold jw;rw[aP dQ h];rfl
theorem aj5 {nm:NM} {base sep:List UInt8} {o:Int} {l:List Ex} {k:Nat} (h:k+1<l.length):jw nm base sep o l (k+1+1)=jw nm base sep o l (k+1)++sep++lQ nm o (l.getD (k+1) dQ):=by
 unfold jw
 have hne:(l.take (k+1)).map (lQ nm o)≠[]:=by
  cases l with
  | nil=>simp at h
  | cons y l=>simp
 rw[aP dQ h,aq2,List.map_singleton,abS,if_neg hne]
 simp
theorem alI (nm:NM) (base sep:List UInt8) (o:Int) (l:List Ex):jw nm base sep o l l.length=base++jc sep (l.map (lQ nm o)):=by unfold jw;rw[agn]
theorem acP (sep:List UInt8):∀l:List (List UInt8),l≠[]→(jc sep l).length+sep.length≤(l.map fun t=>t.length+sep.length).sum
 | [],h=>absurd rfl h
 | [x],_=>by simp[jc]
 | x :: y :: l,_=>by
  have:=acP sep (y :: l) (by simp)
  simp only[jc,aaH,anv,asK] at this ⊢
  omega
theorem alX {nm:NM} (hnm:abg nm) {base sep:List UInt8} (hsep:sep.length=3) {o:Int} {l:List Ex} {k:Nat} (hk:k≤l.length):(jw nm base sep o l k).length+(if k=0 then 0 else 3)≤base.length+110*sizes (l.take k):=by
 have h4:=abe (nm:=nm) (o:=o) (l.take k) fun x _=>abf hnm x.size x (afK _)
 unfold jw
 rw[aaH]
 cases k with
 | zero=>simp[jc,sizes]
 | succ k=>
  have hne:(l.take (k+1)).map (lQ nm o)≠[]:=by
   cases l with
   | nil=>simp at hk
   | cons y l=>simp
  have h5:=acP sep _ hne
  rw[hsep] at h5
  rw[if_neg (by omega)]
  omega
structure WrA where
 st:Bool
 nm:NM
 bs:List UInt8
 x:Ex
 out:Int
def ajj (a:WrA):Prop:=mg a.nm.length a.x∧a.x.size≤256∧abg a.nm∧a.nm.length≤256∧a.bs.length+110*a.x.size≤500000
def wrG (n:Nat):ql:={ A:=WrA,fix:=1,args:=fun a=>[.own 0 0,uh a.x,iA a.out],objs:=fun a=>[bld 202 (nmR a.nm) a.st,og a.bs],pre:=fun a=>ajj a∧a.x.size≤n,res:=fun _=>.tup [],objs':=fun a=>[bld 202 (nmR a.nm),og (a.bs++oL a.nm a.x a.out)],inl:=[141,81,78] }
def arC (st:Bool):Nat→SV
 | 0=>adr st
 | _+1=>.own 0 0
theorem ajC (c:UInt8) (h:iJ c=true):ig c=true:=by
 unfold iJ dU jm tN at h
 unfold ig gu
 simp only[apo,afI,decide_eq_true_eq] at h ⊢
 omega
theorem ahr (c:UInt8) (h:jm c=true):gu c=true:=by
 unfold jm at h
 unfold gu
 simp only[apo,afI,decide_eq_true_eq] at h ⊢
 omega
theorem ajF {s:List UInt8} (h:dM s=0):s.length≤24∧resE s=false∧jE s=true:=by
 unfold dM at h
 split at h
 ·cases h
 rename_i h1
 split at h
 ·cases h
 rename_i h2
 split at h
 ·rename_i h3
  simp only[apo,not_or,apD,Bool.not_eq_true,Bool.not_eq_false'] at h2
  obtain ⟨⟨h4,h5⟩,h6⟩:=h2
  refine ⟨by omega,h6,?_⟩
  unfold jE
  rw[akN.2 fun c hc=>ajC c (akN.1 h3 c hc),h4,ahr _ (by simpa using h5)];rfl
 ·cases h
def aaj (b:Bool) (s:List UInt8):Bool:=decide (s.length≤24)&&(jE s&&(resE s==b))
theorem adZ {b:Bool} {s:List UInt8} (h:aaj b s=true):s.length≤24∧jE s=true∧resE s=b:=by
 unfold aaj at h
 simp only[afI,decide_eq_true_eq,beq_iff_eq] at h
 exact ⟨h.1,h.2.1,h.2.2⟩
theorem amm {n:Nat} (h:n≤6):(jk n).all (aaj true)=true∧(jk n).Nodup∧(jk n).all (fun s=>s.getD 0 0 != 121)=true:=by
 have:∀n:Fin 7,(jk n.1).all (aaj true)=true∧(jk n.1).Nodup∧(jk n.1).all (fun s=>s.getD 0 0 != 121)=true:=by decide +kernel
 exact this ⟨n,by omega⟩
theorem amU {n:Nat} (h:n≤24):(nu n).all (aaj true)=true∧(nu n).Nodup∧(nu n).all (fun s=>s.getD 0 0==121)=true:=by
 have:∀n:Fin 25,(nu n.1).all (aaj true)=true∧(nu n.1).Nodup∧(nu n.1).all (fun s=>s.getD 0 0==121)=true:=by decide +kernel
 exact this ⟨n,by omega⟩
theorem aiF {α:Type} [BEq α] [LawfulBEq α] {x:α} {l:List α}:l.any (fun y=>x==y)=false↔x∉l:=by
 rw[ar4]
 constructor
 ·intro h hx;exact h x hx (by simp)
 ·intro h y hy e;exact h (by rw[beq_iff_eq.1 e];exact hy)
theorem aiY {α:Type} {l:List α} {k:Nat} {d:α} (hn:l.Nodup) (hk:k<l.length):l.getD k d∉l.take k:=by
 have h1:(l.take (k+1)).Nodup:=hn.sublist (List.take_sublist _ _)
 rw[aP d hk,asu] at h1
 intro hx
 exact h1.2.2 _ hx _ (agp.2 rfl) rfl
theorem aeO {α:Type} {d:α}:∀{l:List α},(∀k,k<l.length→l.getD k d∉l.take k)→l.Nodup:=by
 intro l h
 rw[List.Nodup,asj]
 intro i j hi hj hij e
 refine h j hj ?_
 have e2:l.getD j d=l[j]:=by rw[aaK,aaL hj];rfl
 rw[e2,←e]
 exact List.mem_iff_getElem.2 ⟨i,by rw[ah0];omega,by simp⟩
theorem ahA {l:List (List UInt8)} (h:dJ l=0):(∀s∈l,s.length≤24∧resE s=false∧jE s=true)∧l.Nodup:=by
 unfold dJ at h
 split at h
 ·cases h
 have h1:=oC h
 have key:∀k,k<l.length→dM (l.getD k [])=0∧l.getD k []∉l.take k:=fun k hk=>by
  have h2:=h1 k hk
  unfold rG at h2
  split at h2
  ·rename_i h3;exact absurd h2 h3
  rename_i h3
  split at h2
  ·cases h2
  rename_i h4
  exact ⟨aql.1 h3,aiF.1 (arJ.2 h4)⟩
 refine ⟨fun s hs=>?_,aeO (d:=[]) fun k hk=>(key k hk).2⟩
 obtain ⟨k,hk,rfl⟩:=apP hs
 have:=(key k hk).1
 rw[aaK,aaL hk] at this
 exact ajF this
theorem qJ {c:aS} (h:bE c=0):(∀s∈dO c,s.length≤24∧jE s=true)∧(dO c).Nodup∧((dO c).length:Int)=nW c∧(dO c).length≤52:=by
 obtain ⟨h1,h2,h3,_⟩:=gI h
 have hi:=ahA h2
 have hil:=rM h2
 obtain ⟨a1,a2,a3⟩:=amm (n:=c.act.toNat) (by omega)
 obtain ⟨b1,b2,b3⟩:=amU (n:=c.sts.length) (by omega)
 have A:∀s∈jk c.act.toNat,s.length≤24∧jE s=true∧resE s=true:=fun s hs=>adZ (akN.1 a1 s hs)
 have B:∀s∈nu c.sts.length,s.length≤24∧jE s=true∧resE s=true:=fun s hs=>adZ (akN.1 b1 s hs)
 refine ⟨fun s hs=>?_,?_,?_,?_⟩
 ·unfold dO at hs
  simp only[ahT] at hs
  rcases hs with (hs | hs) | hs
  ·exact ⟨(A s hs).1,(A s hs).2.1⟩
  ·exact ⟨(hi.1 s hs).1,(hi.1 s hs).2.2⟩
  ·exact ⟨(B s hs).1,(B s hs).2.1⟩
 ·unfold dO
  rw[asu,asu]
  refine ⟨⟨a2,hi.2,fun x hx y hy e=>?_⟩,b2,fun x hx y hy e=>?_⟩
  ·subst e;have:=(A x hx).2.2;rw[(hi.1 x hy).2.1] at this;cases this
  ·subst e
   rcases ahT.1 hx with hx | hx
   ·have p:=akN.1 a3 x hx
    have q:=akN.1 b3 x hy
    rw[beq_iff_eq] at q
    rw[q] at p;cases p
   ·have:=(B x hy).2.2;rw[(hi.1 x hx).2.1] at this;cases this
 ·unfold dO nW
  rw[aaH,aaH,aae,aan];omega
 ·unfold dO
  rw[aaH,aaH,aae,aan];omega
theorem ajb {c:aS} (h:bE c=0):kL (dO c)=0:=by
 obtain ⟨h1,h2,_,h3⟩:=qJ h
 unfold kL
 rw[if_neg (by omega)]
 refine fP fun k hk=>?_
 have hm:(dO c).getD k []∈dO c:=aa5 (bG [] hk)
 have:=h1 _ hm
 unfold oM
 rw[if_neg (by rw[this.2];decide),if_neg (by omega),if_neg]
 rw[aiF.2 (aiY h2 hk)];decide
theorem abY {nm:NM} {o:Int}:∀(l:List Ex),(∀x∈l,(d9 nm x).length+5≤34*x.size)→((l.map (lQ nm o)).map fun t=>t.length+3).sum≤34*sizes l
 | [],_=>by simp
 | x :: l,h=>by
  have h1:=h x (by simp)
  have h2:=abY (nm:=nm) (o:=o) l fun y hy=>h y (by simp[hy])
  have h3:=wm (brA o x.op) (d9 nm x)
  rw[sizes]
  simp only[anv,asK] at h2 ⊢
  unfold lQ at h2 ⊢
  omega
theorem acj {nm:NM} (hnm:∀k,(nm.getD k []).length≤24):∀(n:Nat) (x:Ex),x.size≤n→(d9 nm x).length+5≤34*x.size
 | 0,x,h=>by have:=size_pos x;omega
 | n+1,x,h=>by
  have hsz:=x.size_eq
  have ih:∀y∈x.args,(d9 nm y).length+5≤34*y.size:=fun y hy=>acj hnm n y (by have:=lM hy;omega)
  have h4:=abY (nm:=nm) (o:=x.op) x.args ih
  rw[pY]
  split
  ·simp;omega
  ·split
   ·have:=hnm x.idx.toNat;omega
   ·split
    ·cases hc:x.args with
     | nil=>simp;omega
     | cons y l=>
      rw[hc,sizes] at hsz
      have h1:=ih y (by rw[hc];simp)
      have h3:=wm (brA x.op y.op) (d9 nm y)
      simp only[anv,List.headD_cons,aiD]
      unfold lQ
      omega
    ·have h5:=yO (zu x.op) (x.args.map (lQ nm x.op))
     rw[agy] at h5
     omega
theorem afD {c:aS} (h:bE c=0) (k:Nat):((dO c).getD k []).length≤24:=by
 rcases ap9 k (dO c).length with hk | hk
 ·exact ((qJ h).1 _ (aa5 (bG [] hk))).1
 ·rw[aaK,aqW hk];simp
theorem pR {a b:ByteArray} {l m:List UInt8} (ha:a=strOf l) (hb:b=strOf m) (h:l.length+m.length≤9223372036854775807):(((a.size+b.size:Nat)):Int)≤9223372036854775807:=by
 subst ha hb;rw[dI,dI];omega
def stepW:List UInt8:=[115,116,101,112,32]
def iU (l:List Sk):List UInt8:=l.flatMap fun y=>32 :: nE y
def sQ (w:Int):List UInt8:=if 0<w then 32 :: dec w.toNat else []
def gK (k:Nat):List UInt8:=(stepW++dec k)++[58]
def lnK (k:Nat) (x:Stp):List UInt8:=((gK k++iU x.st)++sQ x.wt)++[10]
def bK (l:List Stp):Nat→List UInt8
 | 0=>[]
 | k+1=>bK l k++lnK k (l.getD k st0)
def lnT (nm:NM) (t:jA):List UInt8:=(((((inT t.fr++[32,62,32])++inT t.to)++[58,32])++d9 nm t.wh)++[10])
def nC (nm:NM) (l:List jA):Nat→List UInt8
 | 0=>[]
 | k+1=>nC nm l k++lnT nm (l.getD k aM)
def ajn (c:aS):List UInt8:=bK c.sts c.sts.length++nC (dO c) c.trs c.trs.length
def uF (c:aS):PV:=.tup [sP (if bE c=0 then ajn c else []),iP (bE c)]
theorem afX:∀(j n:Nat),n<10 ^ j→(adh n).length≤j
 | 0,n,h=>by
  have:n=0:=by rw[Nat.pow_zero] at h;omega
  subst this;simp[adh]
 | j+1,n,h=>by
  rw[akt]
  split
  ·simp
  ·have:=afX j (n / 10) (by rw[Nat.div_lt_iff_lt_mul (by decide)];rw[Nat.pow_succ] at h;exact h)
   rw[aaH,List.length_singleton];omega
theorem abH {n:Nat} (h:n≤1000000):(dec n).length≤7:=by
 by_cases h0:n=0
 ·subst h0;have:=vK (n:=0) (by decide);omega
 ·have:=afX 7 n (by show n<10 ^ 7;omega)
  unfold adh at this
  rw[if_neg h0] at this;exact this
theorem adl (l:List Sk):(iU l).length=3*l.length:=by
 induction l with
 | nil=>rfl
 | cons x l ih=>
  show ((32 :: nE x)++iU l).length=_
  rw[aaH,ih]
  simp[nE];omega
theorem aow {w:Int} (h:w≤1000000):(sQ w).length≤8:=by
 unfold sQ
 split
 ·have:=abH (n:=w.toNat) (by omega)
  rw[aiD];omega
 ·simp
theorem ali {n:Int} {l:List Int} (h0:∀x∈l,0≤x∧x<n) (h1:∀k,0<k→k<l.length→l.getD (k-1) 0<l.getD k 0):(l.length:Int)≤max n 0:=by
 have key:∀k,k<l.length→(k:Int)≤l.getD k 0:=by
  intro k
  induction k with
  | zero=>intro hk;exact (h0 _ (aa5 (bG 0 hk))).1
  | succ k ih=>
   intro hk
   have:=h1 (k+1) (by omega) hk
   have:=ih (by omega)
   simp only[Nat.add_sub_cancel] at *
   omega
 rcases apF l.length with h | h
 ·omega
 ·have h2:=key (l.length-1) (by omega)
  have h3:=(h0 _ (aa5 (bG 0 (show l.length-1<l.length by omega)))).2
  omega
theorem ag3 {n:Nat} {l:List Int} (h:gU n l=0) (hn:n≤24):l.length≤24:=by
 have h0:=(aac h hn).2.1
 unfold gU at h
 split at h
 ·cases h
 have h1:=oC h
 have:=ali (n:=(n:Int)) (l:=l) h0 fun k hk hl=>by
  have h2:=h1 k hl
  unfold mO at h2
  split at h2
  ·cases h2
  split at h2
  ·cases h2
  ·rename_i h3;omega
 omega
theorem an4 {act:Int} {x:Stp} (ha:1≤act∧act≤6) (h:eX act x=0):x.st.length≤6∧okS 6 x.st∧0≤x.wt∧x.wt≤1000000:=by
 unfold eX at h
 split at h
 ·rename_i h1;exact absurd h h1
 rename_i h1
 split at h
 ·cases h
 rename_i h2
 have h3:=oC (aql.1 h1)
 have hk:∀k,k<x.st.length→(0≤(x.st.getD k bI).1∧(x.st.getD k bI).1<act)∧(0<k→(x.st.getD (k-1) bI).1<(x.st.getD k bI).1):=fun k hk=>by
  have h4:=h3 k hk
  unfold jf at h4
  split at h4
  ·cases h4
  split at h4
  ·cases h4
  ·rename_i h5 h6;exact ⟨by omega,fun h7=>by omega⟩
 have hs:okS 6 x.st:=fun y hy=>by
  obtain ⟨k,hk1,rfl⟩:=apP hy
  have:=(hk k hk1).1
  rw[aaK,aaL hk1] at this
  have this:0≤x.st[k].1∧x.st[k].1<act:=this
  omega
 refine ⟨?_,hs,by omega,by omega⟩
 have gm:∀k,k<x.st.length→(x.st.map (·.1)).getD k 0=(x.st.getD k bI).1:=fun k hk1=>by
  rw[aaK,aaK,aiL,aaL hk1];rfl
 have:=ali (n:=6) (l:=x.st.map (·.1)) (fun y hy=>by
  obtain ⟨z,hz,rfl⟩:=aq0.1 hy
  exact hs z hz) fun k hk0 hkl=>by
   rw[anb] at hkl
   rw[gm k hkl,gm (k-1) (by omega)]
   exact (hk k hkl).2 hk0
 rw[anb] at this
 omega
theorem afw {c:aS} (h:bE c=0) {k:Nat} (hk:k<c.sts.length):(c.sts.getD k st0).st.length≤6∧okS 6 (c.sts.getD k st0).st∧0≤(c.sts.getD k st0).wt∧(c.sts.getD k st0).wt≤1000000:=by
 obtain ⟨h1,_,_,_,h5,_⟩:=gI h
 exact an4 h1 (h5 k hk)
theorem adi {k:Nat} (h:k<100):(gK k).length≤8:=by
 have:=vK h
 unfold gK stepW
 simp only[aaH,aiD,anj];omega
theorem aoB {k:Nat} {x:Stp} (h:k<100) (h1:x.st.length≤6) (h2:x.wt≤1000000):(lnK k x).length≤35:=by
 have h3:=adi h
 have h4:=adl x.st
 have h5:=aow h2
 unfold lnK
 simp only[aaH,aiD,anj];omega
theorem agM {c:aS} (h:bE c=0):∀{k:Nat},k≤c.sts.length→(bK c.sts k).length≤35*k
 | 0,_=>by simp[bK]
 | k+1,hk=>by
  have h1:=afw h (k:=k) (by omega)
  have h2:=(gI h).2.2.1
  have h3:=aoB (k:=k) (by omega) h1.1 h1.2.2.2
  have h4:=agM h (k:=k) (by omega)
  rw[bK,aaH];omega
theorem ahZ {c:aS} (h:bE c=0) {k:Nat} (hk:k<c.trs.length):((c.trs.getD k aM).fr.length≤24∧(c.trs.getD k aM).to.length≤24)∧(c.trs.getD k aM).to≠[]∧(c.trs.getD k aM).wh.size≤256∧mg (dO c).length (c.trs.getD k aM).wh:=by
 obtain ⟨_,_,h3,_,_,h6⟩:=gI h
 have h7:=h6 k hk
 have hw:=(kZ h hk).2.2
 unfold iI at h7
 split at h7
 ·rename_i h8;exact absurd h7 h8
 rename_i h8
 split at h7
 ·rename_i h9;exact absurd h7 h9
 rename_i h9
 have h9:=aql.1 h9
 have hn:=(qJ h).2.2.1
 obtain ⟨_,h10,h11⟩:=aaY.1 hw
 refine ⟨⟨ag3 (aql.1 h8) h3.2,ag3 h9 h3.2⟩,?_,h10.1,by rw[hn];exact h11⟩
 have:=(aac h9 h3.2).2.2
 intro e
 rw[e] at this;simp at this
theorem anu {c:aS} (h:bE c=0):abg (dO c):=fun k=>akf (afD h k) (by decide)
theorem wT {n:Nat} {l:List Int} (h:gL n l) (hn:n≤24):gL 100 l:=fun x hx=>by have:=h x hx;omega
theorem aij {c:aS} (h:bE c=0) {k:Nat} (hk:k<c.trs.length):((inT (c.trs.getD k aM).fr).length≤72∧(inT (c.trs.getD k aM).to).length≤72)∧(d9 (dO c) (c.trs.getD k aM).wh).length≤28160∧(lnT (dO c) (c.trs.getD k aM)).length≤28310:=by
 obtain ⟨h1,h2,h3,h4⟩:=ahZ h hk
 have h5:=kZ h hk
 have h6:=adE (wT h5.1.1 (by decide))
 have h7:=adE (wT h5.2.1.1 (by decide))
 have h8:=abf (anu h) _ _ (afK (c.trs.getD k aM).wh.size)
 refine ⟨⟨by omega,by omega⟩,by omega,?_⟩
 unfold lnT
 simp only[aaH,aiD,anj];omega
theorem af3 {c:aS} (h:bE c=0):∀{k:Nat},k≤c.trs.length→(nC (dO c) c.trs k).length≤28310*k
 | 0,_=>by simp[nC]
 | k+1,hk=>by
  have h1:=aij h (k:=k) (by omega)
  have h2:=af3 h (k:=k) (by omega)
  rw[nC,aaH];omega
def aqM:SV:=.p false (.val (.pointer none))
def ark:Nat→SV
 | 0=>aqM
 | _+1=>.own 1 0
def adK (l:List UInt8) (k:Nat):List PV:=[cP (l.getD k 0)]
theorem l6 {l m:List UInt8} (h:l=m) {n:Nat}:∀j,j<n→adK l j=adK m j:=fun j _=>by rw[h]
def p9:SV:=.p false (.val (.pointer none))
def xS:SV:=.p false (.val (.slice none 0 0))
theorem afe {P:Program} {f T:Nat} {A:Type} {args:A→List SV} {rest:A→List SV} {pre:A→Prop} {res:A→SV} {objs':A→List Ob}
  (h:jO P f { A:=A,fix:=1,args:=args,objs:=fun a=>[.cells T (p9 :: .row 1 :: rest a),og []],pre:=pre,res:=res,objs':=objs' }) :
  jO P f { A:=A,fix:=1,args:=args,objs:=fun a=>[.cells T (p9 :: xS :: rest a)],pre:=pre,res:=res,objs':=objs' }:=by
 refine ⟨h.1,fun a hp base E vs w hg H hA=>?_⟩
 have H:bq (yw w E [.cells T (p9 :: xS :: rest a)] base 1) E (iw [.cells T (p9 :: xS :: rest a)]) w:=H
 have hA:jX E vs (args a):=hA
 have hn1:∀i,1≤i→E.hd i=none:=fun i hi=>H.new i hi
 obtain ⟨E2,hE2⟩:∃E2:Env,E2={ E with hd:=fun i=>if i=1 then some (.slice none 0 0) else E.hd i }:=⟨_,rfl⟩
 have hd1:E2.hd 1=some (.slice none 0 0):=by rw[hE2];rfl
 have hdn:∀i,i≠1→E2.hd i=E.hd i:=fun i hi=>by rw[hE2];exact if_neg hi
 have hm:E2.mem=E.mem:=by rw[hE2]
 have ht:E2.tm=E.tm:=by rw[hE2]
 have hws:E2.ws=E.ws:=by rw[hE2]
 have hI:E2.I=E.I:=by rw[hE2]
 have hk:E2.k=E.k:=by rw[hE2]
 have hle:E.Le E2:=⟨fun i v hv=>by
  by_cases hi:i=1
  ·subst hi;rw[hn1 1 (afK _)] at hv;cases hv
  ·rw[hdn i hi];exact hv,fun b cs hb=>by rw[hm];exact hb,ht⟩
 have hbl:∀i,i≠1→E2.blk i=E.blk i:=fun i hi=>by unfold Env.blk;rw[hdn i hi]
 have hb1:E2.blk 1=none:=by unfold Env.blk;rw[hd1];rfl
 have hbor:kI E2.hd [.cells T (p9 :: .row 1 :: rest a),og []] 0=kI E.hd [.cells T (p9 :: xS :: rest a)] 0:=by
  funext b
  refine propext ⟨fun ⟨k,o,_,hk,hb⟩=>?_,fun ⟨k,o,_,hk,hb⟩=>?_⟩
  ·match k with
   | 0=>exact ⟨0,_,afK _,rfl,by rw[←hdn 0 (by decide)];exact hb⟩
   | 1=>rw[hd1] at hb;cases hb
   | k+2=>simp at hk
  ·match k with
   | 0=>exact ⟨0,_,afK _,rfl,by rw[hdn 0 (by decide)];exact hb⟩
   | k+1=>simp at hk
 have hobj:∀i o,(iw [.cells T (p9 :: .row 1 :: rest a),og []]).obj i=some o→i=0∧o=.cells T (p9 :: .row 1 :: rest a)∨i=1∧o=og []:=fun i o ho=>by
  rw[dN] at ho
  match i with
  | 0=>cases ho;exact .inl ⟨rfl,rfl⟩
  | 1=>cases ho;exact .inr ⟨rfl,rfl⟩
  | i+2=>simp at ho
 have ob0:(iw [.cells T (p9 :: xS :: rest a)]).obj 0=some (.cells T (p9 :: xS :: rest a)):=by rw[dN];rfl
 have HR:bq (yw w E2 [.cells T (p9 :: .row 1 :: rest a),og []] base 1) E2 (iw [.cells T (p9 :: .row 1 :: rest a),og []]) w:=by
  refine ⟨fun i o ho=>?_,fun i j o o' b ho ho' hb hb'=>?_,fun i o b ho hb=>?_,fun b cs hb=>H.mem b cs (by rw[←hm];exact hb),fun b cs hb=>hb,fun b cs hb=>.inl hb,fun i hi=>?_,?_,?_,fun k _=>rfl,by show 1≤2;decide,adO _,by rw[hk];exact H.kk⟩
  ·rcases hobj i o ho with ⟨rfl,rfl⟩ | ⟨rfl,rfl⟩
   ·cases (H.ob 0 _ ob0).mono hle with
    | cells b T vs cs hh hw hl h1 he=>
     refine .cells b T vs _ hh hw hl h1 fun k u s hu hs=>?_
     match k with
     | 0=>exact he 0 u s hu hs
     | 1=>
      cases hs
      have:=he 1 u xS hu rfl
      cases this with
      | p _ _ _ hp=>cases hp;exact .row 1 _ hd1 rfl
     | k+2=>exact he (k+2) u s hu hs
   ·exact .row 5 1 0 _ _ [] (fun _ _=>undef) hd1 ⟨rfl,.inl ⟨rfl,rfl⟩⟩ (adO _) (fun j hj=>absurd hj (akv _)) (fun j _ _ hj=>absurd hj (akv _)) (fun j _ _ hj=>absurd hj (akv _))
  ·rcases hobj i o ho with ⟨rfl,rfl⟩ | ⟨rfl,rfl⟩
   ·rcases hobj j o' ho' with ⟨rfl,rfl⟩ | ⟨rfl,rfl⟩
    ·rfl
    ·rw[hb1] at hb';cases hb'
   ·rw[hb1] at hb;cases hb
  ·rcases hobj i o ho with ⟨rfl,rfl⟩ | ⟨rfl,rfl⟩
   ·have:=H.own 0 _ b ob0 (by rw[←hbl 0 (by decide)];exact hb)
    unfold Env.mine at this ⊢
    rw[hm,hws,hI];exact this
   ·rw[hb1] at hb;cases hb
  ·have hi:2≤i:=hi
   rw[hdn i (by omega)];exact hn1 i (by omega)
  ·rw[ht];exact H.base
  ·obtain ⟨f1,f2,f3,f4,f5,f6,f7,f8,f9⟩:=H.fr
   refine ⟨f1,f2,f3,by rw[hws];exact f4,by rw[hws];exact f5,by rw[hws];exact f6,by rw[hws,hI];exact f7,by rw[hws,hI];exact f8,?_⟩
   obtain ⟨g1,g2,g3⟩:=f9
   exact ⟨by rw[hk];exact g1,by rw[hI];exact g2.trans hbor.symm,by rw[hws];exact g3⟩
 refine (h.2 a hp base E2 vs w (fun p hp=>by rw[hm];exact hg p hp) HR ⟨hA.1,fun k u s hu hs=>(hA.2 k u s hu hs).mono hle⟩).mono fun e w' ⟨v,E',he,hv,R⟩=>⟨v,E',he,hv,?_⟩
 obtain ⟨r1,r2,r3,r4,r5,r6,r7,r8,⟨f1,f2,f3,f4,f5,f6,f7,f8,g1,g2,g3⟩,r10,r11,r12,r13⟩:=R
 refine ⟨r1,r2,r3,r4,fun b cs hb=>r5 b cs (by show E2.mem b=some cs;rw[hm];exact hb),fun b cs hb=>(r6 b cs hb).imp (fun hb=>by show E.mem b=some cs;rw[←hm];exact hb) id,r7,r8,⟨f1,f2,f3,f4,f5,f6,f7,f8,g1,g2.trans hbor,g3⟩,fun k hk=>(r10 k hk).trans (hdn k (by have hk:k<1:=hk;omega)),r11,r12,r13⟩
theorem amj {sep:List UInt8} {l:List (List UInt8)} (hs:sep≠[]) (h:2≤l.length):jc sep l≠[]:=by
 match l with
 | x :: y :: l=>
  intro e
  have:(jc sep (x :: y :: l)).length=0:=by rw[e];rfl
  simp only[jc,aaH] at this
  have:sep.length=0:=by omega
  exact hs (ape.1 this)
theorem ami {nm:NM} {x:Ex} (hg:mg nm.length x) (hn:∀s∈nm,s≠[]):d9 nm x≠[]:=by
 obtain ⟨hn0,_⟩:=(wF _ _).1 hg
 obtain ⟨ho,hle,hi⟩:=rH hn0
 rw[pY]
 split
 ·simp
 rename_i h0
 split
 ·rename_i h1
  have ht:wY x.op nm.length=nm.length-1:=by unfold wY;rw[if_neg h0,if_pos h1]
  rw[ht] at hi
  exact hn _ (aa5 (bG [] (show x.idx.toNat<nm.length by omega)))
 rename_i h1
 split
 ·simp
 ·rename_i h2
  have:oU x.op=2:=by unfold oU;rw[if_neg h2,if_pos (by omega)]
  exact amj (by unfold zu;split<;>simp) (by rw[anb];omega)
theorem aol {nm:NM} {x:Ex} {out:Int} (h:out<0):oL nm x out=d9 nm x:=by
 unfold oL wrB
 rw[decide_eq_false (show ¬0≤out by omega),aoT,apT];rfl
def wrC (Q:WrA→Prop):ql:={ wrG 0 with pre:=fun a=>ajj a∧Q a }
theorem arb:jO Tryz.prog 141 (wrC fun a=>a.st=true∧a.x.op=1):=by
 refine pz (Tb:=tab) mixed aB Tryz.func141 rfl rfl ?_
 rintro ⟨st,nm,bs,x,out⟩ hpre
 refine ai (ai rfl (ai rfl rfl)) ?_
 obtain ⟨⟨hg,hs,hnm,hnl,hlen⟩,hst,hQ⟩:=hpre
 obtain rfl:st=true:=hst
 have hg:mg nm.length x:=hg
 have hnm:abg nm:=hnm
 have hlen:bs.length+110*x.size≤500000:=hlen
 obtain ⟨hn0,hga⟩:=(wF _ _).1 hg
 obtain ⟨ho,hle,hi⟩:=rH hn0
 have hA:=pY nm x
 have hQ:x.op=1:=hQ
 refine ah (p:=x.op=0) (gW (by omega)) (fun h0=>?_) (fun h0=>?_)
 ·exact absurd h0 (by omega)
 rw[if_neg h0] at hA
 refine ah (p:=x.op=1) (gW (by omega)) (fun h1=>?_) (fun h1=>?_)
 ·rw[if_pos h1] at hA
  have hnk:(nm.getD x.idx.toNat []).length≤100:=hnm _
  have ht:wY x.op nm.length=nm.length-1:=by rw[h1];rfl
  rw[ht] at hi
  have hW:oL nm x out=nm.getD x.idx.toNat []:=by
   unfold oL wrB;rw[hA,h1];rfl
  refine ei (.one 0 (.one 1 (.one 2 (.one 3 (.one 4 (.one 5 (.one 6 (.one 7 (.one 8 (.one 9 (.one 10 (.wr 11 .done)))))))))))) (ai (by kernel_rfl) ?_)
  refine ai (ai hi.1 (by show x.idx<(nm.length:Int);omega)) ?_
  refine ai rfl ?_
  refine eF (afU) ((true,nm,bs,nm.getD x.idx.toNat [])) [0,1] (a4 (ai rfl rfl)) (Or.inl rfl) (by exact (ai (ai rfl rfl) rfl)) (by exact (ai (ai rfl (ai (ai rfl rfl) (ai rfl (ai rfl (fun _ _=>rfl))))) (ai rfl (ai rfl (ai rfl (fun _ _=>rfl)))))) (⟨by show bs.length≤1000000;omega,by show (nm.getD x.idx.toNat []).length≤1000000;exact akf hnk (by decide)⟩) ?_
  refine ei [0,3] (ai (ai rfl (ai rfl rfl)) (ai (by exact trivial) ?_))
  refine (ai (ai rfl (ai (ai rfl rfl) (ai rfl (ai rfl (fun _ _=>rfl))))) (ai rfl (ai rfl (ai ?_ ?_))))
  ·exact congrArg List.length (congrArg (fun t=>bs++t) hW.symm)
  ·exact fun k _=>congrArg (fun l=>[cP (l.getD k 0)]) (congrArg (fun t=>bs++t) hW.symm)
 exact absurd hQ h1
theorem amh:jO Tryz.prog 141 (wrC fun a=>a.st=false∧a.x.op=1):=by
 refine pz (Tb:=tab) mixed aB Tryz.func141 rfl rfl ?_
 rintro ⟨st,nm,bs,x,out⟩ hpre
 refine ai (ai rfl (ai rfl rfl)) ?_
 obtain ⟨⟨hg,hs,hnm,hnl,hlen⟩,hst,hQ⟩:=hpre
 obtain rfl:st=false:=hst
 have hg:mg nm.length x:=hg
 have hnm:abg nm:=hnm
 have hlen:bs.length+110*x.size≤500000:=hlen
 obtain ⟨hn0,hga⟩:=(wF _ _).1 hg
 obtain ⟨ho,hle,hi⟩:=rH hn0
 have hA:=pY nm x
 have hQ:x.op=1:=hQ
 refine ah (p:=x.op=0) (gW (by omega)) (fun h0=>?_) (fun h0=>?_)
 ·exact absurd h0 (by omega)
 rw[if_neg h0] at hA
 refine ah (p:=x.op=1) (gW (by omega)) (fun h1=>?_) (fun h1=>?_)
 ·rw[if_pos h1] at hA
  have hnk:(nm.getD x.idx.toNat []).length≤100:=hnm _
  have ht:wY x.op nm.length=nm.length-1:=by rw[h1];rfl
  rw[ht] at hi
  have hW:oL nm x out=nm.getD x.idx.toNat []:=by
   unfold oL wrB;rw[hA,h1];rfl
  refine ei (.one 0 (.one 1 (.one 2 (.one 3 (.one 4 (.one 5 (.one 6 (.one 7 (.one 8 (.one 9 (.one 10 (.wr 11 .done)))))))))))) (ai (by kernel_rfl) ?_)
  refine ai (ai hi.1 (by show x.idx<(nm.length:Int);omega)) ?_
  refine ai rfl ?_
  refine eF (afU) ((false,nm,bs,nm.getD x.idx.toNat [])) [0,1] (a4 (ai rfl rfl)) (Or.inl rfl) (by exact (ai (ai rfl rfl) rfl)) (by exact (ai (ai rfl (ai rfl (ai rfl (ai rfl (fun _ _=>rfl))))) (ai rfl (ai rfl (ai rfl (fun _ _=>rfl)))))) (⟨by show bs.length≤1000000;omega,by show (nm.getD x.idx.toNat []).length≤1000000;exact akf hnk (by decide)⟩) ?_
  refine ei [0,3] (ai (ai rfl (ai rfl rfl)) (ai (by exact trivial) ?_))
  refine (ai (ai rfl (ai (ai rfl rfl) (ai rfl (ai rfl (fun _ _=>rfl))))) (ai rfl (ai rfl (ai ?_ ?_))))
  ·exact congrArg List.length (congrArg (fun t=>bs++t) hW.symm)
  ·exact fun k _=>congrArg (fun l=>[cP (l.getD k 0)]) (congrArg (fun t=>bs++t) hW.symm)
 exact absurd hQ h1
theorem aq9:jO Tryz.prog 141 (wrC fun a=>a.st=false∧(a.x.op=3∧a.out<0)∧∀y∈a.x.args,y.op=1):=by
 refine pz (Tb:=tab) mixed aB Tryz.func141 rfl rfl ?_
 rintro ⟨st,nm,bs,x,out⟩ hpre
 refine ai (ai rfl (ai rfl rfl)) ?_
 obtain ⟨⟨hg,hs,hnm,hnl,hlen⟩,hst,hQ,hv⟩:=hpre
 obtain rfl:st=false:=hst
 have hv:∀y∈x.args,y.op=1:=hv
 have hg:mg nm.length x:=hg
 have hs:x.size≤256:=hs
 have hnm:abg nm:=hnm
 have hnl:nm.length≤256:=hnl
 have hlen:bs.length+110*x.size≤500000:=hlen
 have hsp:=size_pos x
 have hal:=wN x
 have hsz:=x.size_eq
 obtain ⟨hn0,hga⟩:=(wF _ _).1 hg
 obtain ⟨ho,hle,hi⟩:=rH hn0
 have hA:=pY nm x
 have hQ:x.op=3∧out<0:=hQ
 refine ah (p:=x.op=0) (gW (by omega)) (fun h0=>?_) (fun h0=>?_)
 ·exact absurd h0 (by omega)
 rw[if_neg h0] at hA
 refine ah (p:=x.op=1) (gW (by omega)) (fun h1=>?_) (fun h1=>?_)
 ·exact absurd h1 (by omega)
 rw[if_neg h1] at hA
 refine ah (p:=x.op=2) (gW (by omega)) (fun h2=>?_) (fun h2=>?_)
 ·exact absurd h2 (by omega)
 rw[if_neg h2] at hA
 have hl2:2≤x.args.length:=by
  have:oU x.op=2:=by unfold oU;rw[if_neg h2,if_pos (by omega)]
  omega
 have hW:oL nm x out=d9 nm x:=by
  unfold oL wrB;rw[decide_eq_false (show ¬0≤out by omega)];simp[adA]
 refine ah (p:=0≤out) (bZ (by omega)) (fun h3=>?_) (fun h3=>?_)
 ·exact absurd h3 (by omega)
 refine ah (p:=x.op=4) (gW (by omega)) (fun h4=>?_) (fun h4=>?_)
 ·exact absurd h4 (by omega)
 ·refine ei (bC.inv { X:=Nat,up:=fun k=>[(71,.s (iA k))],uo:=fun k=>[⟨0,202,[.s (arC false k),.rw 5 1 (jw nm (bs) [32,38,32] x.op x.args k).length (fun j=>[cP ((jw nm (bs) [32,38,32] x.op x.args k).getD j 0)]),.s (ssA nm)]⟩],inv:=fun k=>k≤x.args.length∧(True),meas:=fun k=>x.args.length-k,x0:=0 }) ?_
  refine ai (ai (ai (by exact (a4 (ai rfl rfl))) (ai ?_ ?_)) rfl) (ai (ai (adO _) ?_) ?_)
  ·exact (ai (ai (fun _=>rfl) (iE (by simp only[zz,reduceCtorEq];rfl))) rfl)
  ·refine (ai (ai (ai (ai nof rfl) rfl) (ai (ai rfl (ai rfl (ai ?_ ?_))) (ai (ai nof (ai rfl (fun _ _=>rfl))) rfl))) trivial)
   ·exact congrArg List.length (ug nm (bs) [32,38,32] x.op x.args).symm
   ·exact fun j _=>congrArg (fun l=>[cP (l.getD j 0)]) (ug nm (bs) [32,38,32] x.op x.args).symm
  ·trivial
  intro (k:Nat) ⟨hk,_⟩
  have hpl:=alX (nm:=nm) (base:=bs) (sep:=[32,38,32]) (o:=x.op) hnm rfl hk
  cases k with
  | zero=>
   have hk0:0<x.args.length:=by omega
   refine ah (p:=0<x.args.length) (au (by dsimp only;omega)) (fun h5=>?_) (fun h5=>?_)
   ·refine ai (ai (aaN _) (iN (n:=x.args.length) (by omega))) (ai rfl ?_)
    have hy:x.args.getD 0 dQ∈x.args:=aa5 (vM hk0)
    have hms:=lM hy
    have hb0:=congrArg List.length (ug nm (bs) [32,38,32] x.op x.args)
    have hB:(bs).length≤bs.length+1:=by simp
    refine eF (amh) (⟨false,nm,jw nm (bs) [32,38,32] x.op x.args 0,x.args.getD 0 dQ,x.op⟩) [0,3] (a4 (ai rfl rfl)) (Or.inl rfl) (by exact (ai (ai rfl rfl) (ai (ai (iE (by simp only[zz,reduceCtorEq])) (ai (iE (by simp only[zz,reduceCtorEq])) (ai rfl (exE _)))) rfl))) (by exact (ai (ai rfl (ai rfl (ai rfl (ai rfl (fun _ _=>rfl))))) (ai rfl (ai rfl (ai rfl (fun _ _=>rfl)))))) (ai ⟨hga _ hy,by show (x.args.getD 0 dQ).size≤256;omega,hnm,hnl,by show (jw nm (bs) [32,38,32] x.op x.args 0).length+110*(x.args.getD 0 dQ).size≤_;omega⟩ ⟨rfl,hv _ hy⟩) ?_
    have eN:jw nm (bs) [32,38,32] x.op x.args 0++oL nm (x.args.getD 0 dQ) x.op=jw nm (bs) [32,38,32] x.op x.args (0+1):=by
     rw[aiA nm _ ho.1,ug,alB hk0]
    refine ei (0+1) (ai (ai rfl rfl) (ai (ai (ai rfl (ai (ai rfl rfl) (ai (ai rfl rfl) (ai (ai (ai (fun _=>rfl) (aO (by omega))) rfl) (ai (ai (ai (ai rfl rfl) rfl) (ai (ai rfl (ai rfl (ai ?_ ?_))) (ai (ai nof (ai rfl (fun _ _=>rfl))) rfl))) trivial))))) rfl) (ai (ai (iL (by omega)) trivial) (iM (by omega)))))
    ·exact congrArg List.length eN
    ·exact fun j _=>congrArg (fun l=>[cP (l.getD j 0)]) eN
   ·exact absurd hk0 h5
  | succ k=>
   refine ah (p:=k+1<x.args.length) (au (by dsimp only;omega)) (fun h5=>?_) (fun h5=>?_)
   ·refine ai (ai (aaN _) (iN (n:=x.args.length) (by omega))) (ai rfl ?_)
    have hy:x.args.getD (k+1) dQ∈x.args:=aa5 (vM h5)
    have hms:=lM hy
    have hss:=w9 h5
    have hst:=acK x.args (k+1+1)
    have hB:(bs).length≤bs.length+1:=by simp
    rw[if_neg (by omega)] at hpl
    refine ah (p:=0<k+1) (au (by omega)) (fun h6=>?_) (fun h6=>?_)
    ·refine eF (afU) ((true,nm,jw nm (bs) [32,38,32] x.op x.args (k+1),[32,38,32])) [0,3] (a4 (ai rfl rfl)) (Or.inl rfl) (by exact (ai (ai rfl rfl) rfl)) (by exact (ai (ai rfl (ai (ai rfl rfl) (ai rfl (ai rfl (fun _ _=>rfl))))) (ai rfl (ai rfl (ai rfl (fun _ _=>rfl)))))) (⟨by show (jw nm (bs) [32,38,32] x.op x.args (k+1)).length≤1000000;omega,by show ([32,38,32]:List UInt8).length≤1000000;simp⟩) ?_
     refine eF (arb) (⟨true,nm,jw nm (bs) [32,38,32] x.op x.args (k+1)++[32,38,32],x.args.getD (k+1) dQ,x.op⟩) [0,5] (a4 (ai rfl rfl)) (Or.inl rfl) (by exact (ai (ai rfl rfl) (ai (ai (iE (by simp only[zz,reduceCtorEq])) (ai (iE (by simp only[zz,reduceCtorEq])) (ai rfl (exE _)))) rfl))) (by exact (ai (ai rfl (ai (ai rfl rfl) (ai rfl (ai rfl (fun _ _=>rfl))))) (ai rfl (ai rfl (ai rfl (fun _ _=>rfl)))))) (ai ⟨hga _ hy,by show (x.args.getD (k+1) dQ).size≤256;omega,hnm,hnl,by show (jw nm (bs) [32,38,32] x.op x.args (k+1)++[32,38,32]).length+110*(x.args.getD (k+1) dQ).size≤_;rw[aaH];show (jw nm (bs) [32,38,32] x.op x.args (k+1)).length+3+110*(x.args.getD (k+1) dQ).size≤_;omega⟩ ⟨rfl,hv _ hy⟩) ?_
     have eN:jw nm (bs) [32,38,32] x.op x.args (k+1)++[32,38,32]++oL nm (x.args.getD (k+1) dQ) x.op=jw nm (bs) [32,38,32] x.op x.args (k+1+1):=by
      rw[aiA nm _ ho.1,aj5 h5]
     refine ei ((k+1)+1) (ai (ai rfl rfl) (ai (ai (ai rfl (ai (ai rfl rfl) (ai (ai rfl rfl) (ai (ai (ai (fun _=>rfl) (aO (by omega))) rfl) (ai (ai (ai (ai rfl rfl) rfl) (ai (ai rfl (ai rfl (ai ?_ ?_))) (ai (ai nof (ai rfl (fun _ _=>rfl))) rfl))) trivial))))) rfl) (ai (ai (iL (by omega)) trivial) (iM (by omega)))))
     ·exact congrArg List.length eN
     ·exact fun j _=>congrArg (fun l=>[cP (l.getD j 0)]) eN
    ·exact absurd (Nat.succ_pos k) h6
   ·have hke:k+1=x.args.length:=by omega
    have eT:jw nm (bs) [32,38,32] x.op x.args (k+1)=bs++d9 nm x:=by
     rw[hke,alI,hA];unfold zu;rw[if_neg h4]
    refine ei [0,3] (ai (ai rfl (ai rfl rfl)) (ai (by exact trivial) ?_))
    refine (ai (ai rfl (ai (ai rfl rfl) (ai rfl (ai rfl (fun _ _=>rfl))))) (ai rfl (ai rfl (ai ?_ ?_))))
    ·exact congrArg List.length (eT.trans (congrArg (fun t=>bs++t) hW.symm))
    ·exact fun k _=>congrArg (fun l=>[cP (l.getD k 0)]) (eT.trans (congrArg (fun t=>bs++t) hW.symm))
def abr (x:Ex):Prop:=x.op=1∨x.op=3∧∀y∈x.args,y.op=1
theorem akh:jO Tryz.prog 141 (wrC fun a=>a.st=false∧a.out<0∧abr a.x):=
 ⟨amh.1,fun a hp base E vs w hg hh hA=>by
  obtain ⟨h1,h2,h3,h4⟩:=hp
  rcases h4 with h4 | ⟨h4,h5⟩
  ·exact amh.2 a ⟨h1,h2,h4⟩ base E vs w hg hh hA
  ·exact aq9.2 a ⟨h1,h2,⟨h4,h3⟩,h5⟩ base E vs w hg hh hA⟩
def apU (a:NM×Ex×Int):Prop:=ajj ⟨false,a.1,[],a.2.1,a.2.2⟩∧a.2.2<0∧abr a.2.1
theorem ajD:jO Tryz.prog 141 { A:=NM×Ex×Int,fix:=1,args:=fun a=>[.own 0 0,uh a.2.1,iA a.2.2],objs:=fun a=>[.cells 202 (p9 :: xS :: nmR a.1)],pre:=apU,res:=fun _=>.tup [],objs':=fun a=>[bld 202 (nmR a.1),og ([]++oL a.1 a.2.1 a.2.2)] }:=
 afe (T:=202) (rest:=fun a:NM×Ex×Int=>nmR a.1) ⟨akh.1,fun a hp=>akh.2 ⟨false,a.1,[],a.2.1,a.2.2⟩ ⟨hp.1,rfl,hp.2.1,hp.2.2⟩⟩
def aiv (a:Ex×NM):Prop:=kL a.2=0∧dL a.1 a.2.length=0∧(∀k,(a.2.getD k []).length≤100)∧(∀s∈a.2,s≠[])∧a.1.size≤256∧(d9 a.2 a.1).length≤4096∧abr a.1
theorem ajo:aK Tryz.prog 82 (bR (fun a:Ex×NM=>[uh a.1,ssA a.2]) aiv (fun a=>.tup [sP (d9 a.2 a.1),iP 0])):=by
 refine jo [141,142,84] ?_
 refine aX (Tb:=tab) mixed aB Tryz.func82 rfl rfl ?_
 rintro ⟨x,nm⟩ hpre
 refine ai (ai rfl (ai rfl rfl)) ?_
 obtain ⟨h1,h2,h3,h4,h5,h6,h7⟩:=hpre
 have h1:kL nm=0:=h1
 have h2:dL x nm.length=0:=h2
 have h3:∀k,(nm.getD k []).length≤100:=h3
 have h4:∀s∈nm,s≠[]:=h4
 have h5:x.size≤256:=h5
 have h6:(d9 nm x).length≤4096:=h6
 obtain ⟨hn,_,hg⟩:=aaY.1 h2
 have hnl:∀s∈nm,s.length≤1000000:=fun s hs=>by
  obtain ⟨k,hk,rfl⟩:=apP hs
  have:=h3 k
  rw[aaK,aaL hk] at this
  have this:(nm[k]).length≤100:=this
  omega
 refine ei _ (ai (am7) (ei (nm) (ei [] (ai (a4 (ai (fun _=>Or.inl rfl) (ai nof (Or.inl rfl)))) (ai (by exact (ai rfl (fun _ _=>rfl))) (ai trivial (ai (hnl) ?_)))))))
 refine bn (p:=kL nm=0) (bM (by omega)) (fun g1=>?_) (fun g1=>?_)
 ·exact absurd h1 g1
 refine ei _ (ai (afS) (ei ((x,(nm.length:Int))) (ei [] (ai (a4 (ai (fun _=>Or.inl rfl) (ai nof (Or.inl rfl)))) (ai (by exact (ai (ai rfl (ai rfl (ai rfl (fun _ _=>rfl)))) rfl)) (ai trivial (ai ((by show x.size≤1000000;omega)) ?_)))))))
 refine bn (p:=dL x nm.length=0) (bM (by dsimp only;omega)) (fun g2=>?_) (fun g2=>?_)
 ·exact absurd h2 g2
 refine eF (ajD) ((nm,x,-1)) [1] (a4 (ai rfl rfl)) (Or.inl rfl) (by exact (ai (ai rfl rfl) (ai (ai rfl (ai rfl (ai rfl (fun _ _=>rfl)))) rfl))) (by exact (ai rfl (ai rfl (ai rfl (ai rfl (fun _ _=>rfl)))))) (⟨⟨hg,h5,h3,by show nm.length≤256;omega,by show 0+110*x.size≤500000;omega⟩,(by show (-1:Int)<0;decide),h7⟩) ?_
 have eW:([]:List UInt8)++oL nm x (-1)=d9 nm x:=by rw[aol (by decide)];rfl
 refine eF (aop) ((nm,[]++oL nm x (-1))) [1,2] (a4 (ai rfl rfl)) (Or.inl rfl) (by exact (ai rfl rfl)) (by exact (ai (ai rfl (ai (ai rfl rfl) (ai rfl (ai rfl (fun _ _=>rfl))))) (ai rfl (ai rfl (ai rfl (fun _ _=>rfl)))))) (trivial) ?_
 refine ah (p:=4096<(([]:List UInt8)++oL nm x (-1)).length) (au (by dsimp only;omega)) (fun g3=>?_) (fun g3=>?_)
 ·rw[eW] at g3;exact absurd h6 (by omega)
 refine akD (ah4 202 3) rfl rfl rfl rfl ([]++oL nm x (-1)) rfl (by rw[eW];exact ami hg h4) (fun k _=>rfl) ?_
 refine ai (ai (fun _=>(by exact (ai trivial trivial))) ?_) trivial
 show ak _ (PV.tup [sP (d9 nm x),iP 0])
 rw[show d9 nm x=[]++oL nm x (-1) from eW.symm]
 exact (ai rfl rfl)
def aoz (c:aS):Prop:=gD c∧(bE c=0→∀t∈c.trs,t.wh.size≤120∧abr t.wh)
theorem alE {c:aS} (h:bE c=0) (h2:∀t∈c.trs,t.wh.size≤120∧abr t.wh) {k:Nat} (hk:k<c.trs.length):aiv ((c.trs.getD k aM).wh,dO c):=by
 have hn:=(qJ h).2.2.1
 have hs:=h2 _ (aa5 (bG aM hk))
 refine ⟨ajb h,?_,anu h,fun s hm e=>?_,by show (c.trs.getD k aM).wh.size≤256;omega,?_,hs.2⟩
 ·show dL (c.trs.getD k aM).wh ((dO c).length:Int)=0
  rw[hn];exact (kZ h hk).2.2
 ·have:=((qJ h).1 s hm).2
  rw[e] at this;exact absurd this (by decide)
 ·have:=acj (afD h) _ _ (afK (c.trs.getD k aM).wh.size)
  show (d9 (dO c) (c.trs.getD k aM).wh).length≤4096
  omega
end Go.Sx.Pe
