/- ChartGuards, part 6 of its proof: declarations that the last part uses. -/
import Derived.Test.YteenedbiifampaaGreatDoorG5
set_option maxHeartbeats 1000000
set_option maxRecDepth 4000
set_option linter.unusedSimpArgs false
set_option linter.unusedVariables false
set_option linter.unusedSectionVars false
namespace Go.Sx.Pe
open Go Go.Proofs Go.Sx.Pn
set_option maxHeartbeats 16000000 in
theorem ajy:aL Tryz.prog 124 (iR (fun c:aS=>[jH c]) (fun c=>bD c=0∧je c) wB):=by
 refine jG [63,3000066] ?_
 refine aX (Tb:=tab) mixed aB Tryz.func124 rfl rfl ?_
 rintro (c:aS) hpre
 refine ai (ai rfl (ai rfl rfl)) ?_
 obtain ⟨hc,ho⟩:=hpre
 have hc:bD c=0:=hc
 have ho:je c:=ho
 obtain ⟨_,_,⟨b3,b4⟩,b5,_⟩:=jg hc
 refine ai (ai (by decide) (by decide)) ?_
 refine ai (by decide) (ei (fZ (mD c.sts.length)) (ai (by rw[aiD b3];rfl) ?_))
 refine ai rfl (ei (cK (mD c.sts.length)) (ai (ai (nX (by unfold mD;rw[ar5,aq2];exact b4)) (fun k _=>by rw[tQ];rfl)) ?_))
 refine ei 1 (ai (ai (fun _=>rfl) (fun _ h=>by cases h)) ?_)
 refine ei (bC.inv { X:=Nat×List Mk,up:=fun x=>[(8,.s (iA x.1)),(5,apZ x.2),(6,anE x.2)],uo:=fun x=>[⟨3,0,[.ob (knO x.2)]⟩],inv:=fun x=>x.1≤x.2.length∧x.2.length≤16384∧(lZ c x.2∧tC x.1 x.2)∧mI c (16385-x.1) x.2 x.1=l8 c,meas:=fun x=>16385-x.1,x0:=(0,mk1 c) }) ?_
 refine ai (ai (ai (by exact (a4 (ai rfl rfl))) (ai ?_ ?_)) ?_) (ai ?_ ?_)
 ·refine (ai (ai (ai (fun _=>rfl) (iE (by simp only[zz,reduceCtorEq];rfl))) rfl) (ai (ai rfl (ai rfl (ai rfl ?_))) (ai rfl (ai rfl (ai rfl ?_)))))
  ·intro k hk
   obtain rfl:k=0:=by omega
   show _=dD (mD c.sts.length)
   unfold dD;rw[aiD b3];rfl
  ·intro k hk
   have hk:k<1:=hk
   obtain rfl:k=0:=by omega
   exact abj (.nil _)
 ·refine (ai (ai rfl (ai rfl ?_)) trivial)
  intro k
  rw[←an6]
  exact aU [] (mD c.sts.length,[]) k
 ·rfl
 ·exact ⟨abY _,by show 1≤16384;decide,⟨aa7 c,fun y hy=>by simp only[mk1,afq] at hy;subst hy;exact abY _⟩,rfl⟩
 rintro ⟨a,l⟩ ⟨hal,hll,⟨hg,hwl⟩,hr⟩
 have hal:a≤l.length:=hal
 have hll:l.length≤16384:=hll
 have hg:lZ c l:=hg
 have hwl:tC a l:=hwl
 have hr:mI c (16385-a) l a=l8 c:=hr
 refine ah (p:=a<l.length) (au (by dsimp only;omega)) (fun h1=>?_) (fun h1=>?_)
 ·refine ei (bC.inv { X:=Nat,up:=fun k=>[(29,.s (iA k)),(5,apZ (bW c l a k)),(6,anE (bW c l a k))],uo:=fun k=>[⟨3,0,[.ob (knO (bW c l a k))]⟩],inv:=fun k=>k≤c.trs.length∧((bW c l a k).length≤16384),meas:=fun k=>c.trs.length-k,x0:=0 }) ?_
  refine ai (ai (ai (by exact (a4 (ai rfl rfl))) (ai ?_ ?_)) rfl) (ai (ai (abY _) ?_) ?_)
  ·refine (ai (ai (ai (fun _=>rfl) (iE (by simp only[zz,reduceCtorEq];rfl))) rfl) (ai (ai rfl (ai rfl (ai rfl (fun _ _=>rfl)))) (ai rfl (ai rfl (ai rfl ?_)))))
   exact fun k _=>bJ.rfl' _
  ·exact (ai (ai rfl (ai rfl (fun _=>rfl))) trivial)
  ·exact hll
  intro (k:Nat) ⟨hk,hkl⟩
  have hgk:=good_row hg h1 hk
  have hways:=aag (c:=c) h1 hwl k
  obtain ⟨t,ht⟩:=nY c l a k
  have hak:a<(bW c l a k).length:=by rw[ht,aaA];omega
  refine ah (p:=k<c.trs.length) (au (by omega)) (fun h2=>?_) (fun h2=>?_)
  ·have hst:bW c l a (k+1)=gZ c (bW c l a k) a k:=rfl
   have hrun:16384<(bW c l a (k+1)).length→l8 c=none:=fun h=>by
    rw[←hr,show 16385-a=(16384-a)+1 by omega]
    exact agH h1 (show k+1≤c.trs.length from h2) h
   generalize bW c l a k=L at *
   have hkl:L.length≤16384:=hkl
   have hga:=hgk _ (aaS (bH av hak))
   have hw:=hways _ (aaS (bH av hak))
   obtain ⟨q1,q2,q3⟩:=kS hc h2
   have hto:=qd ho h2
   have hnl:(aC c L a k).1.length=c.sts.length:=by
    show (l7 _ _).length=_
    unfold l7;rw[dR,dR];exact hga.1
   have hln:∀y∈L,y.1.length=(aC c L a k).1.length:=fun y hy=>by rw[hnl];exact (hgk y hy).1
   refine ei (.one 0 (.one 1 (.one 2 (.one 3 (.one 4 (.one 5 (.alt 6 (.one 7 (.one 8 (.one 9 (.one 10 (.one 11 (.one 12 .done)))))) (.alt 10 (.one 6 (.one 7 (.one 8 (.one 9 (.one 11 (.one 12 .done)))))) .stop)))))))) (ai (by kernel_rfl) ?_)
   refine ai (ai (aaI _) (by show (a:Int)<(L.length:Int);omega)) ?_
   refine ai (by show a<L.length;exact hak) (ei (fZ (L.getD a av).1) (ai (agU _) ?_))
   refine ai ?_ (ai ?_ trivial)
   ·refine ei _ (ai (zx) (ei ((c,(L.getD a av).1,k)) (ei [] (ai (a4 (ai (fun _=>Or.inl rfl) (ai nof (Or.inl rfl)))) (ai (by exact (ai (ai rfl (ai (ai rfl (fun _ _=>rfl)) (ai (ai rfl (fun _ _=>rfl)) (ai rfl (fun _ _=>rfl))))) (ai (ai rfl (fun _ _=>rfl)) rfl))) (ai trivial (ai (⟨hc,ho,hga.1,h2⟩) ?_)))))))
    refine aZ (b:=!(bf c (L.getD a av).1 k).2) rfl (fun h3=>?_) (fun h3=>?_)
    ·have h3:allM (L.getD a av).1 (om c k).fr=false:=by
      have h3:(bf c (L.getD a av).1 k).2=false:=by simpa using h3
      unfold bf at h3
      split at h3
      ·cases h3
      ·rename_i h;exact aq7.2 h
     have e:bW c l a (k+1)=L:=by rw[hst];unfold gZ adds;rw[h3];simp
     refine ei (k+1) (ai (ai rfl rfl) (ai (ai (ai rfl (ai (ai rfl rfl) (ai (ai rfl rfl) (ai (ai (ai (ai (fun _=>rfl) (aO (by omega))) rfl) (ai (ai rfl (ai rfl (ai ?_ ?_))) (ai rfl (ai rfl (ai ?_ ?_))))) (ai (ai rfl (ai ?_ ?_)) trivial))))) rfl) (ai (ai (iL (by omega)) ?_) (iM (by omega)))))
     all_goals rw[e]
     ·exact fun _ _=>rfl
     ·exact fun k _=>bJ.rfl' _
     ·exact fun _=>rfl
     ·exact hkl
    have h3:allM (L.getD a av).1 (om c k).fr=true:=by
     have h3:(bf c (L.getD a av).1 k).2=true:=by simpa using h3
     unfold bf at h3
     split at h3
     ·assumption
     ·cases h3
    have hcan:(bf c (L.getD a av).1 k).1=(aC c L a k).1:=by unfold bf;exact congrArg Prod.fst (if_pos h3)
    have hkey:∀q,q<24→fZ (bf c (L.getD a av).1 k).1 q=.val (.bool ((cK (aC c L a k).1).getD q false)):=fun q _=>by rw[hcan,tQ];rfl
    refine ai (ai rfl rfl) (ei (cK (aC c L a k).1) (ai (ai (nX (by omega)) hkey) ?_))
    refine ei (bP (lD L (aC c L a k).1)) (ei (lD L (aC c L a k).1) (ai ?_ ?_))
    ·show (∀d',xE L (.bools (cK (aC c L a k).1))=some d'→_)∧(xE L (.bools (cK (aC c L a k).1))=none→_)
     rw[adC hln]
     cases lD L (aC c L a k).1
     ·exact ⟨fun d' h=>by simp at h,fun _=>⟨rfl,rfl⟩⟩
     ·exact ⟨fun d' h=>by simp at h;exact ⟨h.symm,rfl⟩,fun h=>by simp at h⟩
    refine aZ (b:=lD L (aC c L a k).1) rfl (fun h4=>?_) (fun h4=>?_)
    ·have e:bW c l a (k+1)=L:=by rw[hst];unfold gZ adds;rw[h4];simp
     refine ei (k+1) (ai (ai rfl rfl) (ai (ai (ai rfl (ai (ai rfl rfl) (ai (ai rfl rfl) (ai (ai (ai (ai (fun _=>rfl) (aO (by omega))) rfl) (ai (ai rfl (ai rfl (ai ?_ ?_))) (ai rfl (ai rfl (ai ?_ ?_))))) (ai (ai rfl (ai ?_ ?_)) trivial))))) rfl) (ai (ai (iL (by omega)) ?_) (iM (by omega)))))
     all_goals rw[e]
     ·exact fun _ _=>rfl
     ·exact fun k _=>bJ.rfl' _
     ·exact fun _=>rfl
     ·exact hkl
    have hn:adds c L a k=true:=by unfold adds;rw[h3,h4];rfl
    have e:bW c l a (k+1)=L++[aC c L a k]:=by rw[hst];unfold gZ;rw[if_pos hn]
    refine ah (p:=L.length=16384) (gY (by omega)) (fun h5=>?_) (fun h5=>?_)
    ·refine ai (ai (fun h=>absurd (show false=true from h) (by decide)) ?_) trivial
     show ak _ (wB c)
     rw[wB,hrun (by rw[e,aaA];show 16384<L.length+1;omega)]
     exact (ai rfl (ai rfl rfl))
    refine ai rfl (ei (cK (aC c L a k).1) (ai (ai (nX (by omega)) hkey) ?_))
    refine ei (L.length+1) (ai (ai (fun _=>rfl) (fun d hd=>absurd ((agy hln h4).symm.trans hd) (by simp))) ?_)
    refine ei (.one 0 (.one 1 (.one 4 (.one 5 (.one 6 (.one 7 (.one 10 (.alt 2 (.alt 3 (.one 8 (.altw 9 (.one 11 (.one 12 (.one 13 (.one 14 (.one 15 (.one 16 .done)))))) (.alt 11 (.wr 9 (.one 12 (.one 13 (.one 14 (.one 15 (.one 16 .done)))))) .stop))) (.alt 8 (.alt 3 (.altw 9 (.one 11 (.one 12 (.one 13 (.one 14 (.one 15 (.one 16 .done)))))) (.alt 11 (.wr 9 (.one 12 (.one 13 (.one 14 (.one 15 (.one 16 .done)))))) .stop)) (.alt 11 (.one 3 (.wr 9 (.one 12 (.one 13 (.one 14 (.one 15 (.one 16 .done))))))) .stop)) (.alt 11 (.alt 3 (.one 8 (.wr 9 (.one 12 (.one 13 (.one 14 (.one 15 (.one 16 .done))))))) (.alt 8 (.one 3 (.wr 9 (.one 12 (.one 13 (.one 14 (.one 15 (.one 16 .done))))))) .stop)) .stop))) (.alt 8 (.alt 2 (.alt 3 (.altw 9 (.one 11 (.one 12 (.one 13 (.one 14 (.one 15 (.one 16 .done)))))) (.alt 11 (.wr 9 (.one 12 (.one 13 (.one 14 (.one 15 (.one 16 .done)))))) .stop)) (.alt 11 (.one 3 (.wr 9 (.one 12 (.one 13 (.one 14 (.one 15 (.one 16 .done))))))) .stop)) (.alt 11 (.one 2 (.one 3 (.wr 9 (.one 12 (.one 13 (.one 14 (.one 15 (.one 16 .done)))))))) .stop)) (.alt 11 (.alt 2 (.alt 3 (.one 8 (.wr 9 (.one 12 (.one 13 (.one 14 (.one 15 (.one 16 .done))))))) (.alt 8 (.one 3 (.wr 9 (.one 12 (.one 13 (.one 14 (.one 15 (.one 16 .done))))))) .stop)) (.alt 8 (.one 2 (.one 3 (.wr 9 (.one 12 (.one 13 (.one 14 (.one 15 (.one 16 .done)))))))) .stop)) .stop)))))))))) (ai (by kernel_rfl) ?_)
    refine ai (ai (aaI _) (by show (a:Int)<(L.length:Int);omega)) ?_
    refine ai ?_ ?_
    ·refine ai ?_ ?_
     ·refine ai (mxL (n:=L.length+1) (by omega) (by decide)) (ai (lt1 rfl) ?_)
      refine ai (by show a<L.length;exact hak) ?_
      refine ai ?_ ?_
      ·refine fq mixed aB Tryz.func63 rfl rfl ?_
       refine ai rfl ?_
       intro b hb
       refine aY (fun hb0=>?_) (fun hb0=>?_)
       ·have hb1:(L.getD a av).2.length=0:=hb hb0
        refine ai (ai (by decide) (by decide)) (ai (aH 1 rfl) ?_)
        refine ai (mxL (n:=L.length+1) (by omega) (by decide)) (ai (aH 1 rfl) ?_)
        refine ei (k+1) (ai (ai rfl rfl) (ai (ai (ai rfl (ai (ai rfl rfl) (ai (ai rfl rfl) (ai (ai (ai (ai (fun _=>rfl) (aO (by omega))) rfl) (ai (ai rfl (ai rfl (ai ?_ ?_))) (ai rfl (ai rfl (ai ?_ ?_))))) (ai (ai rfl (ai ?_ ?_)) trivial))))) rfl) (ai (ai (iL (by omega)) ?_) (iM (by omega)))))
        all_goals rw[e]
        ·rw[aaA];rfl
        ·exact aV L (aC c L a k) (show dD (bf c (L.getD a av).1 k).1=_ by rw[hcan])
        ·rw[aaA];rfl
        ·exact aW L (aC c L a k) (dB hb1 k)
        ·rw[aaA];rfl
        ·exact aU L (aC c L a k)
        ·rw[aaA];show L.length+1≤16384;omega
       ·refine ai (mxL (n:=0+(L.getD a av).2.length) (by omega) (by decide)) (ai (fun _ _=>rfl) ?_)
        refine ai (mxL (n:=0+(L.getD a av).2.length+1) (by omega) (by decide)) (ai (aH 1 rfl) ?_)
        refine ai (mxL (n:=L.length+1) (by omega) (by decide)) (ai (aH 1 rfl) ?_)
        refine ei (k+1) (ai (ai rfl rfl) (ai (ai (ai rfl (ai (ai rfl rfl) (ai (ai rfl rfl) (ai (ai (ai (ai (fun _=>rfl) (aO (by omega))) rfl) (ai (ai rfl (ai rfl (ai ?_ ?_))) (ai rfl (ai rfl (ai ?_ ?_))))) (ai (ai rfl (ai ?_ ?_)) trivial))))) rfl) (ai (ai (iL (by omega)) ?_) (iM (by omega)))))
        all_goals rw[e]
        ·rw[aaA];rfl
        ·exact aV L (aC c L a k) (show dD (bf c (L.getD a av).1 k).1=_ by rw[hcan])
        ·rw[aaA];rfl
        ·exact aW L (aC c L a k) (bV (L.getD a av).2 k)
        ·rw[aaA];rfl
        ·exact aU L (aC c L a k)
        ·rw[aaA];show L.length+1≤16384;omega
      refine ai ?_ trivial
      refine fq mixed aB Tryz.func63 rfl rfl ?_
      refine ai rfl ?_
      intro b hb
      refine aY (fun hb0=>?_) (fun hb0=>?_)
      ·have hb1:(L.getD a av).2.length=0:=hb hb0
       refine ai (ai (by decide) (by decide)) (ai (aH 1 rfl) ?_)
       refine ai (mxL (n:=L.length+1) (by omega) (by decide)) (ai (aH 1 rfl) ?_)
       refine ei (k+1) (ai (ai rfl rfl) (ai (ai (ai rfl (ai (ai rfl rfl) (ai (ai rfl rfl) (ai (ai (ai (ai (fun _=>rfl) (aO (by omega))) rfl) (ai (ai rfl (ai rfl (ai ?_ ?_))) (ai rfl (ai rfl (ai ?_ ?_))))) (ai (ai rfl (ai ?_ ?_)) trivial))))) rfl) (ai (ai (iL (by omega)) ?_) (iM (by omega)))))
       all_goals rw[e]
       ·rw[aaA];rfl
       ·exact aV L (aC c L a k) (show dD (bf c (L.getD a av).1 k).1=_ by rw[hcan])
       ·rw[aaA];rfl
       ·exact aW L (aC c L a k) (dB hb1 k)
       ·rw[aaA];rfl
       ·exact aU L (aC c L a k)
       ·rw[aaA];show L.length+1≤16384;omega
      ·refine ai (mxL (n:=0+(L.getD a av).2.length) (by omega) (by decide)) (ai (fun _ _=>rfl) ?_)
       refine ai (mxL (n:=0+(L.getD a av).2.length+1) (by omega) (by decide)) (ai (aH 1 rfl) ?_)
       refine ai (mxL (n:=L.length+1) (by omega) (by decide)) (ai (aH 1 rfl) ?_)
       refine ei (k+1) (ai (ai rfl rfl) (ai (ai (ai rfl (ai (ai rfl rfl) (ai (ai rfl rfl) (ai (ai (ai (ai (fun _=>rfl) (aO (by omega))) rfl) (ai (ai rfl (ai rfl (ai ?_ ?_))) (ai rfl (ai rfl (ai ?_ ?_))))) (ai (ai rfl (ai ?_ ?_)) trivial))))) rfl) (ai (ai (iL (by omega)) ?_) (iM (by omega)))))
       all_goals rw[e]
       ·rw[aaA];rfl
       ·exact aV L (aC c L a k) (show dD (bf c (L.getD a av).1 k).1=_ by rw[hcan])
       ·rw[aaA];rfl
       ·exact aW L (aC c L a k) (bV (L.getD a av).2 k)
       ·rw[aaA];rfl
       ·exact aU L (aC c L a k)
       ·rw[aaA];show L.length+1≤16384;omega
     refine ai ?_ ?_
     ·refine ai (by show a<L.length;exact hak) ?_
      refine ai ?_ ?_
      ·refine ai (mxL (n:=L.length+1) (by omega) (by decide)) (ai (lt1 rfl) ?_)
       refine ai ?_ ?_
       ·refine fq mixed aB Tryz.func63 rfl rfl ?_
        refine ai rfl ?_
        intro b hb
        refine aY (fun hb0=>?_) (fun hb0=>?_)
        ·have hb1:(L.getD a av).2.length=0:=hb hb0
         refine ai (ai (by decide) (by decide)) (ai (aH 1 rfl) ?_)
         refine ai (mxL (n:=L.length+1) (by omega) (by decide)) (ai (aH 1 rfl) ?_)
         refine ei (k+1) (ai (ai rfl rfl) (ai (ai (ai rfl (ai (ai rfl rfl) (ai (ai rfl rfl) (ai (ai (ai (ai (fun _=>rfl) (aO (by omega))) rfl) (ai (ai rfl (ai rfl (ai ?_ ?_))) (ai rfl (ai rfl (ai ?_ ?_))))) (ai (ai rfl (ai ?_ ?_)) trivial))))) rfl) (ai (ai (iL (by omega)) ?_) (iM (by omega)))))
         all_goals rw[e]
         ·rw[aaA];rfl
         ·exact aV L (aC c L a k) (show dD (bf c (L.getD a av).1 k).1=_ by rw[hcan])
         ·rw[aaA];rfl
         ·exact aW L (aC c L a k) (dB hb1 k)
         ·rw[aaA];rfl
         ·exact aU L (aC c L a k)
         ·rw[aaA];show L.length+1≤16384;omega
        ·refine ai (mxL (n:=0+(L.getD a av).2.length) (by omega) (by decide)) (ai (fun _ _=>rfl) ?_)
         refine ai (mxL (n:=0+(L.getD a av).2.length+1) (by omega) (by decide)) (ai (aH 1 rfl) ?_)
         refine ai (mxL (n:=L.length+1) (by omega) (by decide)) (ai (aH 1 rfl) ?_)
         refine ei (k+1) (ai (ai rfl rfl) (ai (ai (ai rfl (ai (ai rfl rfl) (ai (ai rfl rfl) (ai (ai (ai (ai (fun _=>rfl) (aO (by omega))) rfl) (ai (ai rfl (ai rfl (ai ?_ ?_))) (ai rfl (ai rfl (ai ?_ ?_))))) (ai (ai rfl (ai ?_ ?_)) trivial))))) rfl) (ai (ai (iL (by omega)) ?_) (iM (by omega)))))
         all_goals rw[e]
         ·rw[aaA];rfl
         ·exact aV L (aC c L a k) (show dD (bf c (L.getD a av).1 k).1=_ by rw[hcan])
         ·rw[aaA];rfl
         ·exact aW L (aC c L a k) (bV (L.getD a av).2 k)
         ·rw[aaA];rfl
         ·exact aU L (aC c L a k)
         ·rw[aaA];show L.length+1≤16384;omega
       refine ai ?_ trivial
       refine fq mixed aB Tryz.func63 rfl rfl ?_
       refine ai rfl ?_
       intro b hb
       refine aY (fun hb0=>?_) (fun hb0=>?_)
       ·have hb1:(L.getD a av).2.length=0:=hb hb0
        refine ai (ai (by decide) (by decide)) (ai (aH 1 rfl) ?_)
        refine ai (mxL (n:=L.length+1) (by omega) (by decide)) (ai (aH 1 rfl) ?_)
        refine ei (k+1) (ai (ai rfl rfl) (ai (ai (ai rfl (ai (ai rfl rfl) (ai (ai rfl rfl) (ai (ai (ai (ai (fun _=>rfl) (aO (by omega))) rfl) (ai (ai rfl (ai rfl (ai ?_ ?_))) (ai rfl (ai rfl (ai ?_ ?_))))) (ai (ai rfl (ai ?_ ?_)) trivial))))) rfl) (ai (ai (iL (by omega)) ?_) (iM (by omega)))))
        all_goals rw[e]
        ·rw[aaA];rfl
        ·exact aV L (aC c L a k) (show dD (bf c (L.getD a av).1 k).1=_ by rw[hcan])
        ·rw[aaA];rfl
        ·exact aW L (aC c L a k) (dB hb1 k)
        ·rw[aaA];rfl
        ·exact aU L (aC c L a k)
        ·rw[aaA];show L.length+1≤16384;omega
       ·refine ai (mxL (n:=0+(L.getD a av).2.length) (by omega) (by decide)) (ai (fun _ _=>rfl) ?_)
        refine ai (mxL (n:=0+(L.getD a av).2.length+1) (by omega) (by decide)) (ai (aH 1 rfl) ?_)
        refine ai (mxL (n:=L.length+1) (by omega) (by decide)) (ai (aH 1 rfl) ?_)
        refine ei (k+1) (ai (ai rfl rfl) (ai (ai (ai rfl (ai (ai rfl rfl) (ai (ai rfl rfl) (ai (ai (ai (ai (fun _=>rfl) (aO (by omega))) rfl) (ai (ai rfl (ai rfl (ai ?_ ?_))) (ai rfl (ai rfl (ai ?_ ?_))))) (ai (ai rfl (ai ?_ ?_)) trivial))))) rfl) (ai (ai (iL (by omega)) ?_) (iM (by omega)))))
        all_goals rw[e]
        ·rw[aaA];rfl
        ·exact aV L (aC c L a k) (show dD (bf c (L.getD a av).1 k).1=_ by rw[hcan])
        ·rw[aaA];rfl
        ·exact aW L (aC c L a k) (bV (L.getD a av).2 k)
        ·rw[aaA];rfl
        ·exact aU L (aC c L a k)
        ·rw[aaA];show L.length+1≤16384;omega
      refine ai ?_ trivial
      refine ai (mxL (n:=L.length+1) (by omega) (by decide)) (ai (lt1 rfl) ?_)
      refine fq mixed aB Tryz.func63 rfl rfl ?_
      refine ai rfl ?_
      intro b hb
      refine aY (fun hb0=>?_) (fun hb0=>?_)
      ·have hb1:(L.getD a av).2.length=0:=hb hb0
       refine ai (ai (by decide) (by decide)) (ai (aH 1 rfl) ?_)
       refine ai (mxL (n:=L.length+1) (by omega) (by decide)) (ai (aH 1 rfl) ?_)
       refine ei (k+1) (ai (ai rfl rfl) (ai (ai (ai rfl (ai (ai rfl rfl) (ai (ai rfl rfl) (ai (ai (ai (ai (fun _=>rfl) (aO (by omega))) rfl) (ai (ai rfl (ai rfl (ai ?_ ?_))) (ai rfl (ai rfl (ai ?_ ?_))))) (ai (ai rfl (ai ?_ ?_)) trivial))))) rfl) (ai (ai (iL (by omega)) ?_) (iM (by omega)))))
       all_goals rw[e]
       ·rw[aaA];rfl
       ·exact aV L (aC c L a k) (show dD (bf c (L.getD a av).1 k).1=_ by rw[hcan])
       ·rw[aaA];rfl
       ·exact aW L (aC c L a k) (dB hb1 k)
       ·rw[aaA];rfl
       ·exact aU L (aC c L a k)
       ·rw[aaA];show L.length+1≤16384;omega
      ·refine ai (mxL (n:=0+(L.getD a av).2.length) (by omega) (by decide)) (ai (fun _ _=>rfl) ?_)
       refine ai (mxL (n:=0+(L.getD a av).2.length+1) (by omega) (by decide)) (ai (aH 1 rfl) ?_)
       refine ai (mxL (n:=L.length+1) (by omega) (by decide)) (ai (aH 1 rfl) ?_)
       refine ei (k+1) (ai (ai rfl rfl) (ai (ai (ai rfl (ai (ai rfl rfl) (ai (ai rfl rfl) (ai (ai (ai (ai (fun _=>rfl) (aO (by omega))) rfl) (ai (ai rfl (ai rfl (ai ?_ ?_))) (ai rfl (ai rfl (ai ?_ ?_))))) (ai (ai rfl (ai ?_ ?_)) trivial))))) rfl) (ai (ai (iL (by omega)) ?_) (iM (by omega)))))
       all_goals rw[e]
       ·rw[aaA];rfl
       ·exact aV L (aC c L a k) (show dD (bf c (L.getD a av).1 k).1=_ by rw[hcan])
       ·rw[aaA];rfl
       ·exact aW L (aC c L a k) (bV (L.getD a av).2 k)
       ·rw[aaA];rfl
       ·exact aU L (aC c L a k)
       ·rw[aaA];show L.length+1≤16384;omega
     refine ai ?_ trivial
     refine ai ?_ ?_
     ·refine ai (mxL (n:=L.length+1) (by omega) (by decide)) (ai (lt1 rfl) ?_)
      refine ai (by show a<L.length;exact hak) ?_
      refine fq mixed aB Tryz.func63 rfl rfl ?_
      refine ai rfl ?_
      intro b hb
      refine aY (fun hb0=>?_) (fun hb0=>?_)
      ·have hb1:(L.getD a av).2.length=0:=hb hb0
       refine ai (ai (by decide) (by decide)) (ai (aH 1 rfl) ?_)
       refine ai (mxL (n:=L.length+1) (by omega) (by decide)) (ai (aH 1 rfl) ?_)
       refine ei (k+1) (ai (ai rfl rfl) (ai (ai (ai rfl (ai (ai rfl rfl) (ai (ai rfl rfl) (ai (ai (ai (ai (fun _=>rfl) (aO (by omega))) rfl) (ai (ai rfl (ai rfl (ai ?_ ?_))) (ai rfl (ai rfl (ai ?_ ?_))))) (ai (ai rfl (ai ?_ ?_)) trivial))))) rfl) (ai (ai (iL (by omega)) ?_) (iM (by omega)))))
       all_goals rw[e]
       ·rw[aaA];rfl
       ·exact aV L (aC c L a k) (show dD (bf c (L.getD a av).1 k).1=_ by rw[hcan])
       ·rw[aaA];rfl
       ·exact aW L (aC c L a k) (dB hb1 k)
       ·rw[aaA];rfl
       ·exact aU L (aC c L a k)
       ·rw[aaA];show L.length+1≤16384;omega
      ·refine ai (mxL (n:=0+(L.getD a av).2.length) (by omega) (by decide)) (ai (fun _ _=>rfl) ?_)
       refine ai (mxL (n:=0+(L.getD a av).2.length+1) (by omega) (by decide)) (ai (aH 1 rfl) ?_)
       refine ai (mxL (n:=L.length+1) (by omega) (by decide)) (ai (aH 1 rfl) ?_)
       refine ei (k+1) (ai (ai rfl rfl) (ai (ai (ai rfl (ai (ai rfl rfl) (ai (ai rfl rfl) (ai (ai (ai (ai (fun _=>rfl) (aO (by omega))) rfl) (ai (ai rfl (ai rfl (ai ?_ ?_))) (ai rfl (ai rfl (ai ?_ ?_))))) (ai (ai rfl (ai ?_ ?_)) trivial))))) rfl) (ai (ai (iL (by omega)) ?_) (iM (by omega)))))
       all_goals rw[e]
       ·rw[aaA];rfl
       ·exact aV L (aC c L a k) (show dD (bf c (L.getD a av).1 k).1=_ by rw[hcan])
       ·rw[aaA];rfl
       ·exact aW L (aC c L a k) (bV (L.getD a av).2 k)
       ·rw[aaA];rfl
       ·exact aU L (aC c L a k)
       ·rw[aaA];show L.length+1≤16384;omega
     refine ai ?_ trivial
     refine ai (by show a<L.length;exact hak) ?_
     refine ai (mxL (n:=L.length+1) (by omega) (by decide)) (ai (lt1 rfl) ?_)
     refine fq mixed aB Tryz.func63 rfl rfl ?_
     refine ai rfl ?_
     intro b hb
     refine aY (fun hb0=>?_) (fun hb0=>?_)
     ·have hb1:(L.getD a av).2.length=0:=hb hb0
      refine ai (ai (by decide) (by decide)) (ai (aH 1 rfl) ?_)
      refine ai (mxL (n:=L.length+1) (by omega) (by decide)) (ai (aH 1 rfl) ?_)
      refine ei (k+1) (ai (ai rfl rfl) (ai (ai (ai rfl (ai (ai rfl rfl) (ai (ai rfl rfl) (ai (ai (ai (ai (fun _=>rfl) (aO (by omega))) rfl) (ai (ai rfl (ai rfl (ai ?_ ?_))) (ai rfl (ai rfl (ai ?_ ?_))))) (ai (ai rfl (ai ?_ ?_)) trivial))))) rfl) (ai (ai (iL (by omega)) ?_) (iM (by omega)))))
      all_goals rw[e]
      ·rw[aaA];rfl
      ·exact aV L (aC c L a k) (show dD (bf c (L.getD a av).1 k).1=_ by rw[hcan])
      ·rw[aaA];rfl
      ·exact aW L (aC c L a k) (dB hb1 k)
      ·rw[aaA];rfl
      ·exact aU L (aC c L a k)
      ·rw[aaA];show L.length+1≤16384;omega
     ·refine ai (mxL (n:=0+(L.getD a av).2.length) (by omega) (by decide)) (ai (fun _ _=>rfl) ?_)
      refine ai (mxL (n:=0+(L.getD a av).2.length+1) (by omega) (by decide)) (ai (aH 1 rfl) ?_)
      refine ai (mxL (n:=L.length+1) (by omega) (by decide)) (ai (aH 1 rfl) ?_)
      refine ei (k+1) (ai (ai rfl rfl) (ai (ai (ai rfl (ai (ai rfl rfl) (ai (ai rfl rfl) (ai (ai (ai (ai (fun _=>rfl) (aO (by omega))) rfl) (ai (ai rfl (ai rfl (ai ?_ ?_))) (ai rfl (ai rfl (ai ?_ ?_))))) (ai (ai rfl (ai ?_ ?_)) trivial))))) rfl) (ai (ai (iL (by omega)) ?_) (iM (by omega)))))
      all_goals rw[e]
      ·rw[aaA];rfl
      ·exact aV L (aC c L a k) (show dD (bf c (L.getD a av).1 k).1=_ by rw[hcan])
      ·rw[aaA];rfl
      ·exact aW L (aC c L a k) (bV (L.getD a av).2 k)
      ·rw[aaA];rfl
      ·exact aU L (aC c L a k)
      ·rw[aaA];show L.length+1≤16384;omega
    refine ai ?_ ?_
    ·refine ai (by show a<L.length;exact hak) ?_
     refine ai ?_ ?_
     ·refine ai ?_ ?_
      ·refine ai (mxL (n:=L.length+1) (by omega) (by decide)) (ai (lt1 rfl) ?_)
       refine ai ?_ ?_
       ·refine fq mixed aB Tryz.func63 rfl rfl ?_
        refine ai rfl ?_
        intro b hb
        refine aY (fun hb0=>?_) (fun hb0=>?_)
        ·have hb1:(L.getD a av).2.length=0:=hb hb0
         refine ai (ai (by decide) (by decide)) (ai (aH 1 rfl) ?_)
         refine ai (mxL (n:=L.length+1) (by omega) (by decide)) (ai (aH 1 rfl) ?_)
         refine ei (k+1) (ai (ai rfl rfl) (ai (ai (ai rfl (ai (ai rfl rfl) (ai (ai rfl rfl) (ai (ai (ai (ai (fun _=>rfl) (aO (by omega))) rfl) (ai (ai rfl (ai rfl (ai ?_ ?_))) (ai rfl (ai rfl (ai ?_ ?_))))) (ai (ai rfl (ai ?_ ?_)) trivial))))) rfl) (ai (ai (iL (by omega)) ?_) (iM (by omega)))))
         all_goals rw[e]
         ·rw[aaA];rfl
         ·exact aV L (aC c L a k) (show dD (bf c (L.getD a av).1 k).1=_ by rw[hcan])
         ·rw[aaA];rfl
         ·exact aW L (aC c L a k) (dB hb1 k)
         ·rw[aaA];rfl
         ·exact aU L (aC c L a k)
         ·rw[aaA];show L.length+1≤16384;omega
        ·refine ai (mxL (n:=0+(L.getD a av).2.length) (by omega) (by decide)) (ai (fun _ _=>rfl) ?_)
         refine ai (mxL (n:=0+(L.getD a av).2.length+1) (by omega) (by decide)) (ai (aH 1 rfl) ?_)
         refine ai (mxL (n:=L.length+1) (by omega) (by decide)) (ai (aH 1 rfl) ?_)
         refine ei (k+1) (ai (ai rfl rfl) (ai (ai (ai rfl (ai (ai rfl rfl) (ai (ai rfl rfl) (ai (ai (ai (ai (fun _=>rfl) (aO (by omega))) rfl) (ai (ai rfl (ai rfl (ai ?_ ?_))) (ai rfl (ai rfl (ai ?_ ?_))))) (ai (ai rfl (ai ?_ ?_)) trivial))))) rfl) (ai (ai (iL (by omega)) ?_) (iM (by omega)))))
         all_goals rw[e]
         ·rw[aaA];rfl
         ·exact aV L (aC c L a k) (show dD (bf c (L.getD a av).1 k).1=_ by rw[hcan])
         ·rw[aaA];rfl
         ·exact aW L (aC c L a k) (bV (L.getD a av).2 k)
         ·rw[aaA];rfl
         ·exact aU L (aC c L a k)
         ·rw[aaA];show L.length+1≤16384;omega
       refine ai ?_ trivial
       refine fq mixed aB Tryz.func63 rfl rfl ?_
       refine ai rfl ?_
       intro b hb
       refine aY (fun hb0=>?_) (fun hb0=>?_)
       ·have hb1:(L.getD a av).2.length=0:=hb hb0
        refine ai (ai (by decide) (by decide)) (ai (aH 1 rfl) ?_)
        refine ai (mxL (n:=L.length+1) (by omega) (by decide)) (ai (aH 1 rfl) ?_)
        refine ei (k+1) (ai (ai rfl rfl) (ai (ai (ai rfl (ai (ai rfl rfl) (ai (ai rfl rfl) (ai (ai (ai (ai (fun _=>rfl) (aO (by omega))) rfl) (ai (ai rfl (ai rfl (ai ?_ ?_))) (ai rfl (ai rfl (ai ?_ ?_))))) (ai (ai rfl (ai ?_ ?_)) trivial))))) rfl) (ai (ai (iL (by omega)) ?_) (iM (by omega)))))
        all_goals rw[e]
        ·rw[aaA];rfl
        ·exact aV L (aC c L a k) (show dD (bf c (L.getD a av).1 k).1=_ by rw[hcan])
        ·rw[aaA];rfl
        ·exact aW L (aC c L a k) (dB hb1 k)
        ·rw[aaA];rfl
        ·exact aU L (aC c L a k)
        ·rw[aaA];show L.length+1≤16384;omega
       ·refine ai (mxL (n:=0+(L.getD a av).2.length) (by omega) (by decide)) (ai (fun _ _=>rfl) ?_)
        refine ai (mxL (n:=0+(L.getD a av).2.length+1) (by omega) (by decide)) (ai (aH 1 rfl) ?_)
        refine ai (mxL (n:=L.length+1) (by omega) (by decide)) (ai (aH 1 rfl) ?_)
        refine ei (k+1) (ai (ai rfl rfl) (ai (ai (ai rfl (ai (ai rfl rfl) (ai (ai rfl rfl) (ai (ai (ai (ai (fun _=>rfl) (aO (by omega))) rfl) (ai (ai rfl (ai rfl (ai ?_ ?_))) (ai rfl (ai rfl (ai ?_ ?_))))) (ai (ai rfl (ai ?_ ?_)) trivial))))) rfl) (ai (ai (iL (by omega)) ?_) (iM (by omega)))))
        all_goals rw[e]
        ·rw[aaA];rfl
        ·exact aV L (aC c L a k) (show dD (bf c (L.getD a av).1 k).1=_ by rw[hcan])
        ·rw[aaA];rfl
        ·exact aW L (aC c L a k) (bV (L.getD a av).2 k)
        ·rw[aaA];rfl
        ·exact aU L (aC c L a k)
        ·rw[aaA];show L.length+1≤16384;omega
      refine ai ?_ trivial
      refine ai (mxL (n:=L.length+1) (by omega) (by decide)) (ai (lt1 rfl) ?_)
      refine fq mixed aB Tryz.func63 rfl rfl ?_
      refine ai rfl ?_
      intro b hb
      refine aY (fun hb0=>?_) (fun hb0=>?_)
      ·have hb1:(L.getD a av).2.length=0:=hb hb0
       refine ai (ai (by decide) (by decide)) (ai (aH 1 rfl) ?_)
       refine ai (mxL (n:=L.length+1) (by omega) (by decide)) (ai (aH 1 rfl) ?_)
       refine ei (k+1) (ai (ai rfl rfl) (ai (ai (ai rfl (ai (ai rfl rfl) (ai (ai rfl rfl) (ai (ai (ai (ai (fun _=>rfl) (aO (by omega))) rfl) (ai (ai rfl (ai rfl (ai ?_ ?_))) (ai rfl (ai rfl (ai ?_ ?_))))) (ai (ai rfl (ai ?_ ?_)) trivial))))) rfl) (ai (ai (iL (by omega)) ?_) (iM (by omega)))))
       all_goals rw[e]
       ·rw[aaA];rfl
       ·exact aV L (aC c L a k) (show dD (bf c (L.getD a av).1 k).1=_ by rw[hcan])
       ·rw[aaA];rfl
       ·exact aW L (aC c L a k) (dB hb1 k)
       ·rw[aaA];rfl
       ·exact aU L (aC c L a k)
       ·rw[aaA];show L.length+1≤16384;omega
      ·refine ai (mxL (n:=0+(L.getD a av).2.length) (by omega) (by decide)) (ai (fun _ _=>rfl) ?_)
       refine ai (mxL (n:=0+(L.getD a av).2.length+1) (by omega) (by decide)) (ai (aH 1 rfl) ?_)
       refine ai (mxL (n:=L.length+1) (by omega) (by decide)) (ai (aH 1 rfl) ?_)
       refine ei (k+1) (ai (ai rfl rfl) (ai (ai (ai rfl (ai (ai rfl rfl) (ai (ai rfl rfl) (ai (ai (ai (ai (fun _=>rfl) (aO (by omega))) rfl) (ai (ai rfl (ai rfl (ai ?_ ?_))) (ai rfl (ai rfl (ai ?_ ?_))))) (ai (ai rfl (ai ?_ ?_)) trivial))))) rfl) (ai (ai (iL (by omega)) ?_) (iM (by omega)))))
       all_goals rw[e]
       ·rw[aaA];rfl
       ·exact aV L (aC c L a k) (show dD (bf c (L.getD a av).1 k).1=_ by rw[hcan])
       ·rw[aaA];rfl
       ·exact aW L (aC c L a k) (bV (L.getD a av).2 k)
       ·rw[aaA];rfl
       ·exact aU L (aC c L a k)
       ·rw[aaA];show L.length+1≤16384;omega
     refine ai ?_ trivial
     refine ai (mxL (n:=L.length+1) (by omega) (by decide)) (ai (lt1 rfl) ?_)
     refine fq mixed aB Tryz.func63 rfl rfl ?_
     refine ai rfl ?_
     intro b hb
     refine aY (fun hb0=>?_) (fun hb0=>?_)
     ·have hb1:(L.getD a av).2.length=0:=hb hb0
      refine ai (ai (by decide) (by decide)) (ai (aH 1 rfl) ?_)
      refine ai (mxL (n:=L.length+1) (by omega) (by decide)) (ai (aH 1 rfl) ?_)
      refine ei (k+1) (ai (ai rfl rfl) (ai (ai (ai rfl (ai (ai rfl rfl) (ai (ai rfl rfl) (ai (ai (ai (ai (fun _=>rfl) (aO (by omega))) rfl) (ai (ai rfl (ai rfl (ai ?_ ?_))) (ai rfl (ai rfl (ai ?_ ?_))))) (ai (ai rfl (ai ?_ ?_)) trivial))))) rfl) (ai (ai (iL (by omega)) ?_) (iM (by omega)))))
      all_goals rw[e]
      ·rw[aaA];rfl
      ·exact aV L (aC c L a k) (show dD (bf c (L.getD a av).1 k).1=_ by rw[hcan])
      ·rw[aaA];rfl
      ·exact aW L (aC c L a k) (dB hb1 k)
      ·rw[aaA];rfl
      ·exact aU L (aC c L a k)
      ·rw[aaA];show L.length+1≤16384;omega
     ·refine ai (mxL (n:=0+(L.getD a av).2.length) (by omega) (by decide)) (ai (fun _ _=>rfl) ?_)
      refine ai (mxL (n:=0+(L.getD a av).2.length+1) (by omega) (by decide)) (ai (aH 1 rfl) ?_)
      refine ai (mxL (n:=L.length+1) (by omega) (by decide)) (ai (aH 1 rfl) ?_)
      refine ei (k+1) (ai (ai rfl rfl) (ai (ai (ai rfl (ai (ai rfl rfl) (ai (ai rfl rfl) (ai (ai (ai (ai (fun _=>rfl) (aO (by omega))) rfl) (ai (ai rfl (ai rfl (ai ?_ ?_))) (ai rfl (ai rfl (ai ?_ ?_))))) (ai (ai rfl (ai ?_ ?_)) trivial))))) rfl) (ai (ai (iL (by omega)) ?_) (iM (by omega)))))
      all_goals rw[e]
      ·rw[aaA];rfl
      ·exact aV L (aC c L a k) (show dD (bf c (L.getD a av).1 k).1=_ by rw[hcan])
      ·rw[aaA];rfl
      ·exact aW L (aC c L a k) (bV (L.getD a av).2 k)
      ·rw[aaA];rfl
      ·exact aU L (aC c L a k)
      ·rw[aaA];show L.length+1≤16384;omega
    refine ai ?_ trivial
    refine ai ?_ ?_
    ·refine ai ?_ ?_
     ·refine ai (mxL (n:=L.length+1) (by omega) (by decide)) (ai (lt1 rfl) ?_)
      refine ai (by show a<L.length;exact hak) ?_
      refine fq mixed aB Tryz.func63 rfl rfl ?_
      refine ai rfl ?_
      intro b hb
      refine aY (fun hb0=>?_) (fun hb0=>?_)
      ·have hb1:(L.getD a av).2.length=0:=hb hb0
       refine ai (ai (by decide) (by decide)) (ai (aH 1 rfl) ?_)
       refine ai (mxL (n:=L.length+1) (by omega) (by decide)) (ai (aH 1 rfl) ?_)
       refine ei (k+1) (ai (ai rfl rfl) (ai (ai (ai rfl (ai (ai rfl rfl) (ai (ai rfl rfl) (ai (ai (ai (ai (fun _=>rfl) (aO (by omega))) rfl) (ai (ai rfl (ai rfl (ai ?_ ?_))) (ai rfl (ai rfl (ai ?_ ?_))))) (ai (ai rfl (ai ?_ ?_)) trivial))))) rfl) (ai (ai (iL (by omega)) ?_) (iM (by omega)))))
       all_goals rw[e]
       ·rw[aaA];rfl
       ·exact aV L (aC c L a k) (show dD (bf c (L.getD a av).1 k).1=_ by rw[hcan])
       ·rw[aaA];rfl
       ·exact aW L (aC c L a k) (dB hb1 k)
       ·rw[aaA];rfl
       ·exact aU L (aC c L a k)
       ·rw[aaA];show L.length+1≤16384;omega
      ·refine ai (mxL (n:=0+(L.getD a av).2.length) (by omega) (by decide)) (ai (fun _ _=>rfl) ?_)
       refine ai (mxL (n:=0+(L.getD a av).2.length+1) (by omega) (by decide)) (ai (aH 1 rfl) ?_)
       refine ai (mxL (n:=L.length+1) (by omega) (by decide)) (ai (aH 1 rfl) ?_)
       refine ei (k+1) (ai (ai rfl rfl) (ai (ai (ai rfl (ai (ai rfl rfl) (ai (ai rfl rfl) (ai (ai (ai (ai (fun _=>rfl) (aO (by omega))) rfl) (ai (ai rfl (ai rfl (ai ?_ ?_))) (ai rfl (ai rfl (ai ?_ ?_))))) (ai (ai rfl (ai ?_ ?_)) trivial))))) rfl) (ai (ai (iL (by omega)) ?_) (iM (by omega)))))
       all_goals rw[e]
       ·rw[aaA];rfl
       ·exact aV L (aC c L a k) (show dD (bf c (L.getD a av).1 k).1=_ by rw[hcan])
       ·rw[aaA];rfl
       ·exact aW L (aC c L a k) (bV (L.getD a av).2 k)
       ·rw[aaA];rfl
       ·exact aU L (aC c L a k)
       ·rw[aaA];show L.length+1≤16384;omega
     refine ai ?_ trivial
     refine ai (by show a<L.length;exact hak) ?_
     refine ai (mxL (n:=L.length+1) (by omega) (by decide)) (ai (lt1 rfl) ?_)
     refine fq mixed aB Tryz.func63 rfl rfl ?_
     refine ai rfl ?_
     intro b hb
     refine aY (fun hb0=>?_) (fun hb0=>?_)
     ·have hb1:(L.getD a av).2.length=0:=hb hb0
      refine ai (ai (by decide) (by decide)) (ai (aH 1 rfl) ?_)
      refine ai (mxL (n:=L.length+1) (by omega) (by decide)) (ai (aH 1 rfl) ?_)
      refine ei (k+1) (ai (ai rfl rfl) (ai (ai (ai rfl (ai (ai rfl rfl) (ai (ai rfl rfl) (ai (ai (ai (ai (fun _=>rfl) (aO (by omega))) rfl) (ai (ai rfl (ai rfl (ai ?_ ?_))) (ai rfl (ai rfl (ai ?_ ?_))))) (ai (ai rfl (ai ?_ ?_)) trivial))))) rfl) (ai (ai (iL (by omega)) ?_) (iM (by omega)))))
      all_goals rw[e]
      ·rw[aaA];rfl
      ·exact aV L (aC c L a k) (show dD (bf c (L.getD a av).1 k).1=_ by rw[hcan])
      ·rw[aaA];rfl
      ·exact aW L (aC c L a k) (dB hb1 k)
      ·rw[aaA];rfl
      ·exact aU L (aC c L a k)
      ·rw[aaA];show L.length+1≤16384;omega
     ·refine ai (mxL (n:=0+(L.getD a av).2.length) (by omega) (by decide)) (ai (fun _ _=>rfl) ?_)
      refine ai (mxL (n:=0+(L.getD a av).2.length+1) (by omega) (by decide)) (ai (aH 1 rfl) ?_)
      refine ai (mxL (n:=L.length+1) (by omega) (by decide)) (ai (aH 1 rfl) ?_)
      refine ei (k+1) (ai (ai rfl rfl) (ai (ai (ai rfl (ai (ai rfl rfl) (ai (ai rfl rfl) (ai (ai (ai (ai (fun _=>rfl) (aO (by omega))) rfl) (ai (ai rfl (ai rfl (ai ?_ ?_))) (ai rfl (ai rfl (ai ?_ ?_))))) (ai (ai rfl (ai ?_ ?_)) trivial))))) rfl) (ai (ai (iL (by omega)) ?_) (iM (by omega)))))
      all_goals rw[e]
      ·rw[aaA];rfl
      ·exact aV L (aC c L a k) (show dD (bf c (L.getD a av).1 k).1=_ by rw[hcan])
      ·rw[aaA];rfl
      ·exact aW L (aC c L a k) (bV (L.getD a av).2 k)
      ·rw[aaA];rfl
      ·exact aU L (aC c L a k)
      ·rw[aaA];show L.length+1≤16384;omega
    refine ai ?_ trivial
    refine ai (by show a<L.length;exact hak) ?_
    refine ai (mxL (n:=L.length+1) (by omega) (by decide)) (ai (lt1 rfl) ?_)
    refine fq mixed aB Tryz.func63 rfl rfl ?_
    refine ai rfl ?_
    intro b hb
    refine aY (fun hb0=>?_) (fun hb0=>?_)
    ·have hb1:(L.getD a av).2.length=0:=hb hb0
     refine ai (ai (by decide) (by decide)) (ai (aH 1 rfl) ?_)
     refine ai (mxL (n:=L.length+1) (by omega) (by decide)) (ai (aH 1 rfl) ?_)
     refine ei (k+1) (ai (ai rfl rfl) (ai (ai (ai rfl (ai (ai rfl rfl) (ai (ai rfl rfl) (ai (ai (ai (ai (fun _=>rfl) (aO (by omega))) rfl) (ai (ai rfl (ai rfl (ai ?_ ?_))) (ai rfl (ai rfl (ai ?_ ?_))))) (ai (ai rfl (ai ?_ ?_)) trivial))))) rfl) (ai (ai (iL (by omega)) ?_) (iM (by omega)))))
     all_goals rw[e]
     ·rw[aaA];rfl
     ·exact aV L (aC c L a k) (show dD (bf c (L.getD a av).1 k).1=_ by rw[hcan])
     ·rw[aaA];rfl
     ·exact aW L (aC c L a k) (dB hb1 k)
     ·rw[aaA];rfl
     ·exact aU L (aC c L a k)
     ·rw[aaA];show L.length+1≤16384;omega
    ·refine ai (mxL (n:=0+(L.getD a av).2.length) (by omega) (by decide)) (ai (fun _ _=>rfl) ?_)
     refine ai (mxL (n:=0+(L.getD a av).2.length+1) (by omega) (by decide)) (ai (aH 1 rfl) ?_)
     refine ai (mxL (n:=L.length+1) (by omega) (by decide)) (ai (aH 1 rfl) ?_)
     refine ei (k+1) (ai (ai rfl rfl) (ai (ai (ai rfl (ai (ai rfl rfl) (ai (ai rfl rfl) (ai (ai (ai (ai (fun _=>rfl) (aO (by omega))) rfl) (ai (ai rfl (ai rfl (ai ?_ ?_))) (ai rfl (ai rfl (ai ?_ ?_))))) (ai (ai rfl (ai ?_ ?_)) trivial))))) rfl) (ai (ai (iL (by omega)) ?_) (iM (by omega)))))
     all_goals rw[e]
     ·rw[aaA];rfl
     ·exact aV L (aC c L a k) (show dD (bf c (L.getD a av).1 k).1=_ by rw[hcan])
     ·rw[aaA];rfl
     ·exact aW L (aC c L a k) (bV (L.getD a av).2 k)
     ·rw[aaA];rfl
     ·exact aU L (aC c L a k)
     ·rw[aaA];show L.length+1≤16384;omega
   ·refine ei _ (ai (zx) (ei ((c,(L.getD a av).1,k)) (ei [] (ai (a4 (ai (fun _=>Or.inl rfl) (ai nof (Or.inl rfl)))) (ai (by exact (ai (ai rfl (ai (ai rfl (fun _ _=>rfl)) (ai (ai rfl (fun _ _=>rfl)) (ai rfl (fun _ _=>rfl))))) (ai (ai rfl (fun _ _=>rfl)) rfl))) (ai trivial (ai (⟨hc,ho,hga.1,h2⟩) ?_)))))))
    refine aZ (b:=!(bf c (L.getD a av).1 k).2) rfl (fun h3=>?_) (fun h3=>?_)
    ·have h3:allM (L.getD a av).1 (om c k).fr=false:=by
      have h3:(bf c (L.getD a av).1 k).2=false:=by simpa using h3
      unfold bf at h3
      split at h3
      ·cases h3
      ·rename_i h;exact aq7.2 h
     have e:bW c l a (k+1)=L:=by rw[hst];unfold gZ adds;rw[h3];simp
     refine ei (k+1) (ai (ai rfl rfl) (ai (ai (ai rfl (ai (ai rfl rfl) (ai (ai rfl rfl) (ai (ai (ai (ai (fun _=>rfl) (aO (by omega))) rfl) (ai (ai rfl (ai rfl (ai ?_ ?_))) (ai rfl (ai rfl (ai ?_ ?_))))) (ai (ai rfl (ai ?_ ?_)) trivial))))) rfl) (ai (ai (iL (by omega)) ?_) (iM (by omega)))))
     all_goals rw[e]
     ·exact fun _ _=>rfl
     ·exact fun k _=>bJ.rfl' _
     ·exact fun _=>rfl
     ·exact hkl
    have h3:allM (L.getD a av).1 (om c k).fr=true:=by
     have h3:(bf c (L.getD a av).1 k).2=true:=by simpa using h3
     unfold bf at h3
     split at h3
     ·assumption
     ·cases h3
    have hcan:(bf c (L.getD a av).1 k).1=(aC c L a k).1:=by unfold bf;exact congrArg Prod.fst (if_pos h3)
    have hkey:∀q,q<24→fZ (bf c (L.getD a av).1 k).1 q=.val (.bool ((cK (aC c L a k).1).getD q false)):=fun q _=>by rw[hcan,tQ];rfl
    refine ai (ai rfl rfl) (ei (cK (aC c L a k).1) (ai (ai (nX (by omega)) hkey) ?_))
    refine ei (bP (lD L (aC c L a k).1)) (ei (lD L (aC c L a k).1) (ai ?_ ?_))
    ·show (∀d',xE L (.bools (cK (aC c L a k).1))=some d'→_)∧(xE L (.bools (cK (aC c L a k).1))=none→_)
     rw[adC hln]
     cases lD L (aC c L a k).1
     ·exact ⟨fun d' h=>by simp at h,fun _=>⟨rfl,rfl⟩⟩
     ·exact ⟨fun d' h=>by simp at h;exact ⟨h.symm,rfl⟩,fun h=>by simp at h⟩
    refine aZ (b:=lD L (aC c L a k).1) rfl (fun h4=>?_) (fun h4=>?_)
    ·have e:bW c l a (k+1)=L:=by rw[hst];unfold gZ adds;rw[h4];simp
     refine ei (k+1) (ai (ai rfl rfl) (ai (ai (ai rfl (ai (ai rfl rfl) (ai (ai rfl rfl) (ai (ai (ai (ai (fun _=>rfl) (aO (by omega))) rfl) (ai (ai rfl (ai rfl (ai ?_ ?_))) (ai rfl (ai rfl (ai ?_ ?_))))) (ai (ai rfl (ai ?_ ?_)) trivial))))) rfl) (ai (ai (iL (by omega)) ?_) (iM (by omega)))))
     all_goals rw[e]
     ·exact fun _ _=>rfl
     ·exact fun k _=>bJ.rfl' _
     ·exact fun _=>rfl
     ·exact hkl
    have hn:adds c L a k=true:=by unfold adds;rw[h3,h4];rfl
    have e:bW c l a (k+1)=L++[aC c L a k]:=by rw[hst];unfold gZ;rw[if_pos hn]
    refine ah (p:=L.length=16384) (gY (by omega)) (fun h5=>?_) (fun h5=>?_)
    ·refine ai (ai (fun h=>absurd (show false=true from h) (by decide)) ?_) trivial
     show ak _ (wB c)
     rw[wB,hrun (by rw[e,aaA];show 16384<L.length+1;omega)]
     exact (ai rfl (ai rfl rfl))
    refine ai rfl (ei (cK (aC c L a k).1) (ai (ai (nX (by omega)) hkey) ?_))
    refine ei (L.length+1) (ai (ai (fun _=>rfl) (fun d hd=>absurd ((agy hln h4).symm.trans hd) (by simp))) ?_)
    refine ei (.one 0 (.one 1 (.one 4 (.one 5 (.one 6 (.one 7 (.one 10 (.alt 2 (.alt 3 (.one 8 (.altw 9 (.one 11 (.one 12 (.one 13 (.one 14 (.one 15 (.one 16 .done)))))) (.alt 11 (.wr 9 (.one 12 (.one 13 (.one 14 (.one 15 (.one 16 .done)))))) .stop))) (.alt 8 (.alt 3 (.altw 9 (.one 11 (.one 12 (.one 13 (.one 14 (.one 15 (.one 16 .done)))))) (.alt 11 (.wr 9 (.one 12 (.one 13 (.one 14 (.one 15 (.one 16 .done)))))) .stop)) (.alt 11 (.one 3 (.wr 9 (.one 12 (.one 13 (.one 14 (.one 15 (.one 16 .done))))))) .stop)) (.alt 11 (.alt 3 (.one 8 (.wr 9 (.one 12 (.one 13 (.one 14 (.one 15 (.one 16 .done))))))) (.alt 8 (.one 3 (.wr 9 (.one 12 (.one 13 (.one 14 (.one 15 (.one 16 .done))))))) .stop)) .stop))) (.alt 8 (.alt 2 (.alt 3 (.altw 9 (.one 11 (.one 12 (.one 13 (.one 14 (.one 15 (.one 16 .done)))))) (.alt 11 (.wr 9 (.one 12 (.one 13 (.one 14 (.one 15 (.one 16 .done)))))) .stop)) (.alt 11 (.one 3 (.wr 9 (.one 12 (.one 13 (.one 14 (.one 15 (.one 16 .done))))))) .stop)) (.alt 11 (.one 2 (.one 3 (.wr 9 (.one 12 (.one 13 (.one 14 (.one 15 (.one 16 .done)))))))) .stop)) (.alt 11 (.alt 2 (.alt 3 (.one 8 (.wr 9 (.one 12 (.one 13 (.one 14 (.one 15 (.one 16 .done))))))) (.alt 8 (.one 3 (.wr 9 (.one 12 (.one 13 (.one 14 (.one 15 (.one 16 .done))))))) .stop)) (.alt 8 (.one 2 (.one 3 (.wr 9 (.one 12 (.one 13 (.one 14 (.one 15 (.one 16 .done)))))))) .stop)) .stop)))))))))) (ai (by kernel_rfl) ?_)
    refine ai (ai (aaI _) (by show (a:Int)<(L.length:Int);omega)) ?_
    refine ai ?_ ?_
    ·refine ai ?_ ?_
     ·refine ai (mxL (n:=L.length+1) (by omega) (by decide)) (ai (lt1 rfl) ?_)
      refine ai (by show a<L.length;exact hak) ?_
      refine ai ?_ ?_
      ·refine fq mixed aB Tryz.func63 rfl rfl ?_
       refine ai rfl ?_
       intro b hb
       refine aY (fun hb0=>?_) (fun hb0=>?_)
       ·have hb1:(L.getD a av).2.length=0:=hb hb0
        refine ai (ai (by decide) (by decide)) (ai (aH 1 rfl) ?_)
        refine ai (mxL (n:=L.length+1) (by omega) (by decide)) (ai (aH 1 rfl) ?_)
        refine ei (k+1) (ai (ai rfl rfl) (ai (ai (ai rfl (ai (ai rfl rfl) (ai (ai rfl rfl) (ai (ai (ai (ai (fun _=>rfl) (aO (by omega))) rfl) (ai (ai rfl (ai rfl (ai ?_ ?_))) (ai rfl (ai rfl (ai ?_ ?_))))) (ai (ai rfl (ai ?_ ?_)) trivial))))) rfl) (ai (ai (iL (by omega)) ?_) (iM (by omega)))))
        all_goals rw[e]
        ·rw[aaA];rfl
        ·exact aV L (aC c L a k) (show dD (bf c (L.getD a av).1 k).1=_ by rw[hcan])
        ·rw[aaA];rfl
        ·exact aW L (aC c L a k) (dB hb1 k)
        ·rw[aaA];rfl
        ·exact aU L (aC c L a k)
        ·rw[aaA];show L.length+1≤16384;omega
       ·refine ai (mxL (n:=0+(L.getD a av).2.length) (by omega) (by decide)) (ai (fun _ _=>rfl) ?_)
        refine ai (mxL (n:=0+(L.getD a av).2.length+1) (by omega) (by decide)) (ai (aH 1 rfl) ?_)
        refine ai (mxL (n:=L.length+1) (by omega) (by decide)) (ai (aH 1 rfl) ?_)
        refine ei (k+1) (ai (ai rfl rfl) (ai (ai (ai rfl (ai (ai rfl rfl) (ai (ai rfl rfl) (ai (ai (ai (ai (fun _=>rfl) (aO (by omega))) rfl) (ai (ai rfl (ai rfl (ai ?_ ?_))) (ai rfl (ai rfl (ai ?_ ?_))))) (ai (ai rfl (ai ?_ ?_)) trivial))))) rfl) (ai (ai (iL (by omega)) ?_) (iM (by omega)))))
        all_goals rw[e]
        ·rw[aaA];rfl
        ·exact aV L (aC c L a k) (show dD (bf c (L.getD a av).1 k).1=_ by rw[hcan])
        ·rw[aaA];rfl
        ·exact aW L (aC c L a k) (bV (L.getD a av).2 k)
        ·rw[aaA];rfl
        ·exact aU L (aC c L a k)
        ·rw[aaA];show L.length+1≤16384;omega
      refine ai ?_ trivial
      refine fq mixed aB Tryz.func63 rfl rfl ?_
      refine ai rfl ?_
      intro b hb
      refine aY (fun hb0=>?_) (fun hb0=>?_)
      ·have hb1:(L.getD a av).2.length=0:=hb hb0
       refine ai (ai (by decide) (by decide)) (ai (aH 1 rfl) ?_)
       refine ai (mxL (n:=L.length+1) (by omega) (by decide)) (ai (aH 1 rfl) ?_)
       refine ei (k+1) (ai (ai rfl rfl) (ai (ai (ai rfl (ai (ai rfl rfl) (ai (ai rfl rfl) (ai (ai (ai (ai (fun _=>rfl) (aO (by omega))) rfl) (ai (ai rfl (ai rfl (ai ?_ ?_))) (ai rfl (ai rfl (ai ?_ ?_))))) (ai (ai rfl (ai ?_ ?_)) trivial))))) rfl) (ai (ai (iL (by omega)) ?_) (iM (by omega)))))
       all_goals rw[e]
       ·rw[aaA];rfl
       ·exact aV L (aC c L a k) (show dD (bf c (L.getD a av).1 k).1=_ by rw[hcan])
       ·rw[aaA];rfl
       ·exact aW L (aC c L a k) (dB hb1 k)
       ·rw[aaA];rfl
       ·exact aU L (aC c L a k)
       ·rw[aaA];show L.length+1≤16384;omega
      ·refine ai (mxL (n:=0+(L.getD a av).2.length) (by omega) (by decide)) (ai (fun _ _=>rfl) ?_)
       refine ai (mxL (n:=0+(L.getD a av).2.length+1) (by omega) (by decide)) (ai (aH 1 rfl) ?_)
       refine ai (mxL (n:=L.length+1) (by omega) (by decide)) (ai (aH 1 rfl) ?_)
       refine ei (k+1) (ai (ai rfl rfl) (ai (ai (ai rfl (ai (ai rfl rfl) (ai (ai rfl rfl) (ai (ai (ai (ai (fun _=>rfl) (aO (by omega))) rfl) (ai (ai rfl (ai rfl (ai ?_ ?_))) (ai rfl (ai rfl (ai ?_ ?_))))) (ai (ai rfl (ai ?_ ?_)) trivial))))) rfl) (ai (ai (iL (by omega)) ?_) (iM (by omega)))))
       all_goals rw[e]
       ·rw[aaA];rfl
       ·exact aV L (aC c L a k) (show dD (bf c (L.getD a av).1 k).1=_ by rw[hcan])
       ·rw[aaA];rfl
       ·exact aW L (aC c L a k) (bV (L.getD a av).2 k)
       ·rw[aaA];rfl
       ·exact aU L (aC c L a k)
       ·rw[aaA];show L.length+1≤16384;omega
     refine ai ?_ ?_
     ·refine ai (by show a<L.length;exact hak) ?_
      refine ai ?_ ?_
      ·refine ai (mxL (n:=L.length+1) (by omega) (by decide)) (ai (lt1 rfl) ?_)
       refine ai ?_ ?_
       ·refine fq mixed aB Tryz.func63 rfl rfl ?_
        refine ai rfl ?_
        intro b hb
        refine aY (fun hb0=>?_) (fun hb0=>?_)
        ·have hb1:(L.getD a av).2.length=0:=hb hb0
         refine ai (ai (by decide) (by decide)) (ai (aH 1 rfl) ?_)
         refine ai (mxL (n:=L.length+1) (by omega) (by decide)) (ai (aH 1 rfl) ?_)
         refine ei (k+1) (ai (ai rfl rfl) (ai (ai (ai rfl (ai (ai rfl rfl) (ai (ai rfl rfl) (ai (ai (ai (ai (fun _=>rfl) (aO (by omega))) rfl) (ai (ai rfl (ai rfl (ai ?_ ?_))) (ai rfl (ai rfl (ai ?_ ?_))))) (ai (ai rfl (ai ?_ ?_)) trivial))))) rfl) (ai (ai (iL (by omega)) ?_) (iM (by omega)))))
         all_goals rw[e]
         ·rw[aaA];rfl
         ·exact aV L (aC c L a k) (show dD (bf c (L.getD a av).1 k).1=_ by rw[hcan])
         ·rw[aaA];rfl
         ·exact aW L (aC c L a k) (dB hb1 k)
         ·rw[aaA];rfl
         ·exact aU L (aC c L a k)
         ·rw[aaA];show L.length+1≤16384;omega
        ·refine ai (mxL (n:=0+(L.getD a av).2.length) (by omega) (by decide)) (ai (fun _ _=>rfl) ?_)
         refine ai (mxL (n:=0+(L.getD a av).2.length+1) (by omega) (by decide)) (ai (aH 1 rfl) ?_)
         refine ai (mxL (n:=L.length+1) (by omega) (by decide)) (ai (aH 1 rfl) ?_)
         refine ei (k+1) (ai (ai rfl rfl) (ai (ai (ai rfl (ai (ai rfl rfl) (ai (ai rfl rfl) (ai (ai (ai (ai (fun _=>rfl) (aO (by omega))) rfl) (ai (ai rfl (ai rfl (ai ?_ ?_))) (ai rfl (ai rfl (ai ?_ ?_))))) (ai (ai rfl (ai ?_ ?_)) trivial))))) rfl) (ai (ai (iL (by omega)) ?_) (iM (by omega)))))
         all_goals rw[e]
         ·rw[aaA];rfl
         ·exact aV L (aC c L a k) (show dD (bf c (L.getD a av).1 k).1=_ by rw[hcan])
         ·rw[aaA];rfl
         ·exact aW L (aC c L a k) (bV (L.getD a av).2 k)
         ·rw[aaA];rfl
         ·exact aU L (aC c L a k)
         ·rw[aaA];show L.length+1≤16384;omega
       refine ai ?_ trivial
       refine fq mixed aB Tryz.func63 rfl rfl ?_
       refine ai rfl ?_
       intro b hb
       refine aY (fun hb0=>?_) (fun hb0=>?_)
       ·have hb1:(L.getD a av).2.length=0:=hb hb0
        refine ai (ai (by decide) (by decide)) (ai (aH 1 rfl) ?_)
        refine ai (mxL (n:=L.length+1) (by omega) (by decide)) (ai (aH 1 rfl) ?_)
        refine ei (k+1) (ai (ai rfl rfl) (ai (ai (ai rfl (ai (ai rfl rfl) (ai (ai rfl rfl) (ai (ai (ai (ai (fun _=>rfl) (aO (by omega))) rfl) (ai (ai rfl (ai rfl (ai ?_ ?_))) (ai rfl (ai rfl (ai ?_ ?_))))) (ai (ai rfl (ai ?_ ?_)) trivial))))) rfl) (ai (ai (iL (by omega)) ?_) (iM (by omega)))))
        all_goals rw[e]
        ·rw[aaA];rfl
        ·exact aV L (aC c L a k) (show dD (bf c (L.getD a av).1 k).1=_ by rw[hcan])
        ·rw[aaA];rfl
        ·exact aW L (aC c L a k) (dB hb1 k)
        ·rw[aaA];rfl
        ·exact aU L (aC c L a k)
        ·rw[aaA];show L.length+1≤16384;omega
       ·refine ai (mxL (n:=0+(L.getD a av).2.length) (by omega) (by decide)) (ai (fun _ _=>rfl) ?_)
        refine ai (mxL (n:=0+(L.getD a av).2.length+1) (by omega) (by decide)) (ai (aH 1 rfl) ?_)
        refine ai (mxL (n:=L.length+1) (by omega) (by decide)) (ai (aH 1 rfl) ?_)
        refine ei (k+1) (ai (ai rfl rfl) (ai (ai (ai rfl (ai (ai rfl rfl) (ai (ai rfl rfl) (ai (ai (ai (ai (fun _=>rfl) (aO (by omega))) rfl) (ai (ai rfl (ai rfl (ai ?_ ?_))) (ai rfl (ai rfl (ai ?_ ?_))))) (ai (ai rfl (ai ?_ ?_)) trivial))))) rfl) (ai (ai (iL (by omega)) ?_) (iM (by omega)))))
        all_goals rw[e]
        ·rw[aaA];rfl
        ·exact aV L (aC c L a k) (show dD (bf c (L.getD a av).1 k).1=_ by rw[hcan])
        ·rw[aaA];rfl
        ·exact aW L (aC c L a k) (bV (L.getD a av).2 k)
        ·rw[aaA];rfl
        ·exact aU L (aC c L a k)
        ·rw[aaA];show L.length+1≤16384;omega
      refine ai ?_ trivial
      refine ai (mxL (n:=L.length+1) (by omega) (by decide)) (ai (lt1 rfl) ?_)
      refine fq mixed aB Tryz.func63 rfl rfl ?_
      refine ai rfl ?_
      intro b hb
      refine aY (fun hb0=>?_) (fun hb0=>?_)
      ·have hb1:(L.getD a av).2.length=0:=hb hb0
       refine ai (ai (by decide) (by decide)) (ai (aH 1 rfl) ?_)
       refine ai (mxL (n:=L.length+1) (by omega) (by decide)) (ai (aH 1 rfl) ?_)
       refine ei (k+1) (ai (ai rfl rfl) (ai (ai (ai rfl (ai (ai rfl rfl) (ai (ai rfl rfl) (ai (ai (ai (ai (fun _=>rfl) (aO (by omega))) rfl) (ai (ai rfl (ai rfl (ai ?_ ?_))) (ai rfl (ai rfl (ai ?_ ?_))))) (ai (ai rfl (ai ?_ ?_)) trivial))))) rfl) (ai (ai (iL (by omega)) ?_) (iM (by omega)))))
       all_goals rw[e]
       ·rw[aaA];rfl
       ·exact aV L (aC c L a k) (show dD (bf c (L.getD a av).1 k).1=_ by rw[hcan])
       ·rw[aaA];rfl
       ·exact aW L (aC c L a k) (dB hb1 k)
       ·rw[aaA];rfl
       ·exact aU L (aC c L a k)
       ·rw[aaA];show L.length+1≤16384;omega
      ·refine ai (mxL (n:=0+(L.getD a av).2.length) (by omega) (by decide)) (ai (fun _ _=>rfl) ?_)
       refine ai (mxL (n:=0+(L.getD a av).2.length+1) (by omega) (by decide)) (ai (aH 1 rfl) ?_)
       refine ai (mxL (n:=L.length+1) (by omega) (by decide)) (ai (aH 1 rfl) ?_)
       refine ei (k+1) (ai (ai rfl rfl) (ai (ai (ai rfl (ai (ai rfl rfl) (ai (ai rfl rfl) (ai (ai (ai (ai (fun _=>rfl) (aO (by omega))) rfl) (ai (ai rfl (ai rfl (ai ?_ ?_))) (ai rfl (ai rfl (ai ?_ ?_))))) (ai (ai rfl (ai ?_ ?_)) trivial))))) rfl) (ai (ai (iL (by omega)) ?_) (iM (by omega)))))
       all_goals rw[e]
       ·rw[aaA];rfl
       ·exact aV L (aC c L a k) (show dD (bf c (L.getD a av).1 k).1=_ by rw[hcan])
       ·rw[aaA];rfl
       ·exact aW L (aC c L a k) (bV (L.getD a av).2 k)
       ·rw[aaA];rfl
       ·exact aU L (aC c L a k)
       ·rw[aaA];show L.length+1≤16384;omega
     refine ai ?_ trivial
     refine ai ?_ ?_
     ·refine ai (mxL (n:=L.length+1) (by omega) (by decide)) (ai (lt1 rfl) ?_)
      refine ai (by show a<L.length;exact hak) ?_
      refine fq mixed aB Tryz.func63 rfl rfl ?_
      refine ai rfl ?_
      intro b hb
      refine aY (fun hb0=>?_) (fun hb0=>?_)
      ·have hb1:(L.getD a av).2.length=0:=hb hb0
       refine ai (ai (by decide) (by decide)) (ai (aH 1 rfl) ?_)
       refine ai (mxL (n:=L.length+1) (by omega) (by decide)) (ai (aH 1 rfl) ?_)
       refine ei (k+1) (ai (ai rfl rfl) (ai (ai (ai rfl (ai (ai rfl rfl) (ai (ai rfl rfl) (ai (ai (ai (ai (fun _=>rfl) (aO (by omega))) rfl) (ai (ai rfl (ai rfl (ai ?_ ?_))) (ai rfl (ai rfl (ai ?_ ?_))))) (ai (ai rfl (ai ?_ ?_)) trivial))))) rfl) (ai (ai (iL (by omega)) ?_) (iM (by omega)))))
       all_goals rw[e]
       ·rw[aaA];rfl
       ·exact aV L (aC c L a k) (show dD (bf c (L.getD a av).1 k).1=_ by rw[hcan])
       ·rw[aaA];rfl
       ·exact aW L (aC c L a k) (dB hb1 k)
       ·rw[aaA];rfl
       ·exact aU L (aC c L a k)
       ·rw[aaA];show L.length+1≤16384;omega
      ·refine ai (mxL (n:=0+(L.getD a av).2.length) (by omega) (by decide)) (ai (fun _ _=>rfl) ?_)
       refine ai (mxL (n:=0+(L.getD a av).2.length+1) (by omega) (by decide)) (ai (aH 1 rfl) ?_)
       refine ai (mxL (n:=L.length+1) (by omega) (by decide)) (ai (aH 1 rfl) ?_)
       refine ei (k+1) (ai (ai rfl rfl) (ai (ai (ai rfl (ai (ai rfl rfl) (ai (ai rfl rfl) (ai (ai (ai (ai (fun _=>rfl) (aO (by omega))) rfl) (ai (ai rfl (ai rfl (ai ?_ ?_))) (ai rfl (ai rfl (ai ?_ ?_))))) (ai (ai rfl (ai ?_ ?_)) trivial))))) rfl) (ai (ai (iL (by omega)) ?_) (iM (by omega)))))
       all_goals rw[e]
       ·rw[aaA];rfl
       ·exact aV L (aC c L a k) (show dD (bf c (L.getD a av).1 k).1=_ by rw[hcan])
       ·rw[aaA];rfl
       ·exact aW L (aC c L a k) (bV (L.getD a av).2 k)
       ·rw[aaA];rfl
       ·exact aU L (aC c L a k)
       ·rw[aaA];show L.length+1≤16384;omega
     refine ai ?_ trivial
     refine ai (by show a<L.length;exact hak) ?_
     refine ai (mxL (n:=L.length+1) (by omega) (by decide)) (ai (lt1 rfl) ?_)
     refine fq mixed aB Tryz.func63 rfl rfl ?_
     refine ai rfl ?_
     intro b hb
     refine aY (fun hb0=>?_) (fun hb0=>?_)
     ·have hb1:(L.getD a av).2.length=0:=hb hb0
      refine ai (ai (by decide) (by decide)) (ai (aH 1 rfl) ?_)
      refine ai (mxL (n:=L.length+1) (by omega) (by decide)) (ai (aH 1 rfl) ?_)
      refine ei (k+1) (ai (ai rfl rfl) (ai (ai (ai rfl (ai (ai rfl rfl) (ai (ai rfl rfl) (ai (ai (ai (ai (fun _=>rfl) (aO (by omega))) rfl) (ai (ai rfl (ai rfl (ai ?_ ?_))) (ai rfl (ai rfl (ai ?_ ?_))))) (ai (ai rfl (ai ?_ ?_)) trivial))))) rfl) (ai (ai (iL (by omega)) ?_) (iM (by omega)))))
      all_goals rw[e]
      ·rw[aaA];rfl
      ·exact aV L (aC c L a k) (show dD (bf c (L.getD a av).1 k).1=_ by rw[hcan])
      ·rw[aaA];rfl
      ·exact aW L (aC c L a k) (dB hb1 k)
      ·rw[aaA];rfl
      ·exact aU L (aC c L a k)
      ·rw[aaA];show L.length+1≤16384;omega
     ·refine ai (mxL (n:=0+(L.getD a av).2.length) (by omega) (by decide)) (ai (fun _ _=>rfl) ?_)
      refine ai (mxL (n:=0+(L.getD a av).2.length+1) (by omega) (by decide)) (ai (aH 1 rfl) ?_)
      refine ai (mxL (n:=L.length+1) (by omega) (by decide)) (ai (aH 1 rfl) ?_)
      refine ei (k+1) (ai (ai rfl rfl) (ai (ai (ai rfl (ai (ai rfl rfl) (ai (ai rfl rfl) (ai (ai (ai (ai (fun _=>rfl) (aO (by omega))) rfl) (ai (ai rfl (ai rfl (ai ?_ ?_))) (ai rfl (ai rfl (ai ?_ ?_))))) (ai (ai rfl (ai ?_ ?_)) trivial))))) rfl) (ai (ai (iL (by omega)) ?_) (iM (by omega)))))
      all_goals rw[e]
      ·rw[aaA];rfl
      ·exact aV L (aC c L a k) (show dD (bf c (L.getD a av).1 k).1=_ by rw[hcan])
      ·rw[aaA];rfl
      ·exact aW L (aC c L a k) (bV (L.getD a av).2 k)
      ·rw[aaA];rfl
      ·exact aU L (aC c L a k)
      ·rw[aaA];show L.length+1≤16384;omega
    refine ai ?_ ?_
    ·refine ai (by show a<L.length;exact hak) ?_
     refine ai ?_ ?_
     ·refine ai ?_ ?_
      ·refine ai (mxL (n:=L.length+1) (by omega) (by decide)) (ai (lt1 rfl) ?_)
       refine ai ?_ ?_
       ·refine fq mixed aB Tryz.func63 rfl rfl ?_
        refine ai rfl ?_
        intro b hb
        refine aY (fun hb0=>?_) (fun hb0=>?_)
        ·have hb1:(L.getD a av).2.length=0:=hb hb0
         refine ai (ai (by decide) (by decide)) (ai (aH 1 rfl) ?_)
         refine ai (mxL (n:=L.length+1) (by omega) (by decide)) (ai (aH 1 rfl) ?_)
         refine ei (k+1) (ai (ai rfl rfl) (ai (ai (ai rfl (ai (ai rfl rfl) (ai (ai rfl rfl) (ai (ai (ai (ai (fun _=>rfl) (aO (by omega))) rfl) (ai (ai rfl (ai rfl (ai ?_ ?_))) (ai rfl (ai rfl (ai ?_ ?_))))) (ai (ai rfl (ai ?_ ?_)) trivial))))) rfl) (ai (ai (iL (by omega)) ?_) (iM (by omega)))))
         all_goals rw[e]
         ·rw[aaA];rfl
         ·exact aV L (aC c L a k) (show dD (bf c (L.getD a av).1 k).1=_ by rw[hcan])
         ·rw[aaA];rfl
         ·exact aW L (aC c L a k) (dB hb1 k)
         ·rw[aaA];rfl
         ·exact aU L (aC c L a k)
         ·rw[aaA];show L.length+1≤16384;omega
        ·refine ai (mxL (n:=0+(L.getD a av).2.length) (by omega) (by decide)) (ai (fun _ _=>rfl) ?_)
         refine ai (mxL (n:=0+(L.getD a av).2.length+1) (by omega) (by decide)) (ai (aH 1 rfl) ?_)
         refine ai (mxL (n:=L.length+1) (by omega) (by decide)) (ai (aH 1 rfl) ?_)
         refine ei (k+1) (ai (ai rfl rfl) (ai (ai (ai rfl (ai (ai rfl rfl) (ai (ai rfl rfl) (ai (ai (ai (ai (fun _=>rfl) (aO (by omega))) rfl) (ai (ai rfl (ai rfl (ai ?_ ?_))) (ai rfl (ai rfl (ai ?_ ?_))))) (ai (ai rfl (ai ?_ ?_)) trivial))))) rfl) (ai (ai (iL (by omega)) ?_) (iM (by omega)))))
         all_goals rw[e]
         ·rw[aaA];rfl
         ·exact aV L (aC c L a k) (show dD (bf c (L.getD a av).1 k).1=_ by rw[hcan])
         ·rw[aaA];rfl
         ·exact aW L (aC c L a k) (bV (L.getD a av).2 k)
         ·rw[aaA];rfl
         ·exact aU L (aC c L a k)
         ·rw[aaA];show L.length+1≤16384;omega
       refine ai ?_ trivial
       refine fq mixed aB Tryz.func63 rfl rfl ?_
       refine ai rfl ?_
       intro b hb
       refine aY (fun hb0=>?_) (fun hb0=>?_)
       ·have hb1:(L.getD a av).2.length=0:=hb hb0
        refine ai (ai (by decide) (by decide)) (ai (aH 1 rfl) ?_)
        refine ai (mxL (n:=L.length+1) (by omega) (by decide)) (ai (aH 1 rfl) ?_)
        refine ei (k+1) (ai (ai rfl rfl) (ai (ai (ai rfl (ai (ai rfl rfl) (ai (ai rfl rfl) (ai (ai (ai (ai (fun _=>rfl) (aO (by omega))) rfl) (ai (ai rfl (ai rfl (ai ?_ ?_))) (ai rfl (ai rfl (ai ?_ ?_))))) (ai (ai rfl (ai ?_ ?_)) trivial))))) rfl) (ai (ai (iL (by omega)) ?_) (iM (by omega)))))
        all_goals rw[e]
        ·rw[aaA];rfl
        ·exact aV L (aC c L a k) (show dD (bf c (L.getD a av).1 k).1=_ by rw[hcan])
        ·rw[aaA];rfl
        ·exact aW L (aC c L a k) (dB hb1 k)
        ·rw[aaA];rfl
        ·exact aU L (aC c L a k)
        ·rw[aaA];show L.length+1≤16384;omega
       ·refine ai (mxL (n:=0+(L.getD a av).2.length) (by omega) (by decide)) (ai (fun _ _=>rfl) ?_)
        refine ai (mxL (n:=0+(L.getD a av).2.length+1) (by omega) (by decide)) (ai (aH 1 rfl) ?_)
        refine ai (mxL (n:=L.length+1) (by omega) (by decide)) (ai (aH 1 rfl) ?_)
        refine ei (k+1) (ai (ai rfl rfl) (ai (ai (ai rfl (ai (ai rfl rfl) (ai (ai rfl rfl) (ai (ai (ai (ai (fun _=>rfl) (aO (by omega))) rfl) (ai (ai rfl (ai rfl (ai ?_ ?_))) (ai rfl (ai rfl (ai ?_ ?_))))) (ai (ai rfl (ai ?_ ?_)) trivial))))) rfl) (ai (ai (iL (by omega)) ?_) (iM (by omega)))))
        all_goals rw[e]
        ·rw[aaA];rfl
        ·exact aV L (aC c L a k) (show dD (bf c (L.getD a av).1 k).1=_ by rw[hcan])
        ·rw[aaA];rfl
        ·exact aW L (aC c L a k) (bV (L.getD a av).2 k)
        ·rw[aaA];rfl
        ·exact aU L (aC c L a k)
        ·rw[aaA];show L.length+1≤16384;omega
      refine ai ?_ trivial
      refine ai (mxL (n:=L.length+1) (by omega) (by decide)) (ai (lt1 rfl) ?_)
      refine fq mixed aB Tryz.func63 rfl rfl ?_
      refine ai rfl ?_
      intro b hb
      refine aY (fun hb0=>?_) (fun hb0=>?_)
      ·have hb1:(L.getD a av).2.length=0:=hb hb0
       refine ai (ai (by decide) (by decide)) (ai (aH 1 rfl) ?_)
       refine ai (mxL (n:=L.length+1) (by omega) (by decide)) (ai (aH 1 rfl) ?_)
       refine ei (k+1) (ai (ai rfl rfl) (ai (ai (ai rfl (ai (ai rfl rfl) (ai (ai rfl rfl) (ai (ai (ai (ai (fun _=>rfl) (aO (by omega))) rfl) (ai (ai rfl (ai rfl (ai ?_ ?_))) (ai rfl (ai rfl (ai ?_ ?_))))) (ai (ai rfl (ai ?_ ?_)) trivial))))) rfl) (ai (ai (iL (by omega)) ?_) (iM (by omega)))))
       all_goals rw[e]
       ·rw[aaA];rfl
       ·exact aV L (aC c L a k) (show dD (bf c (L.getD a av).1 k).1=_ by rw[hcan])
       ·rw[aaA];rfl
       ·exact aW L (aC c L a k) (dB hb1 k)
       ·rw[aaA];rfl
       ·exact aU L (aC c L a k)
       ·rw[aaA];show L.length+1≤16384;omega
      ·refine ai (mxL (n:=0+(L.getD a av).2.length) (by omega) (by decide)) (ai (fun _ _=>rfl) ?_)
       refine ai (mxL (n:=0+(L.getD a av).2.length+1) (by omega) (by decide)) (ai (aH 1 rfl) ?_)
       refine ai (mxL (n:=L.length+1) (by omega) (by decide)) (ai (aH 1 rfl) ?_)
       refine ei (k+1) (ai (ai rfl rfl) (ai (ai (ai rfl (ai (ai rfl rfl) (ai (ai rfl rfl) (ai (ai (ai (ai (fun _=>rfl) (aO (by omega))) rfl) (ai (ai rfl (ai rfl (ai ?_ ?_))) (ai rfl (ai rfl (ai ?_ ?_))))) (ai (ai rfl (ai ?_ ?_)) trivial))))) rfl) (ai (ai (iL (by omega)) ?_) (iM (by omega)))))
       all_goals rw[e]
       ·rw[aaA];rfl
       ·exact aV L (aC c L a k) (show dD (bf c (L.getD a av).1 k).1=_ by rw[hcan])
       ·rw[aaA];rfl
       ·exact aW L (aC c L a k) (bV (L.getD a av).2 k)
       ·rw[aaA];rfl
       ·exact aU L (aC c L a k)
       ·rw[aaA];show L.length+1≤16384;omega
     refine ai ?_ trivial
     refine ai (mxL (n:=L.length+1) (by omega) (by decide)) (ai (lt1 rfl) ?_)
     refine fq mixed aB Tryz.func63 rfl rfl ?_
     refine ai rfl ?_
     intro b hb
     refine aY (fun hb0=>?_) (fun hb0=>?_)
     ·have hb1:(L.getD a av).2.length=0:=hb hb0
      refine ai (ai (by decide) (by decide)) (ai (aH 1 rfl) ?_)
      refine ai (mxL (n:=L.length+1) (by omega) (by decide)) (ai (aH 1 rfl) ?_)
      refine ei (k+1) (ai (ai rfl rfl) (ai (ai (ai rfl (ai (ai rfl rfl) (ai (ai rfl rfl) (ai (ai (ai (ai (fun _=>rfl) (aO (by omega))) rfl) (ai (ai rfl (ai rfl (ai ?_ ?_))) (ai rfl (ai rfl (ai ?_ ?_))))) (ai (ai rfl (ai ?_ ?_)) trivial))))) rfl) (ai (ai (iL (by omega)) ?_) (iM (by omega)))))
      all_goals rw[e]
      ·rw[aaA];rfl
      ·exact aV L (aC c L a k) (show dD (bf c (L.getD a av).1 k).1=_ by rw[hcan])
      ·rw[aaA];rfl
      ·exact aW L (aC c L a k) (dB hb1 k)
      ·rw[aaA];rfl
      ·exact aU L (aC c L a k)
      ·rw[aaA];show L.length+1≤16384;omega
     ·refine ai (mxL (n:=0+(L.getD a av).2.length) (by omega) (by decide)) (ai (fun _ _=>rfl) ?_)
      refine ai (mxL (n:=0+(L.getD a av).2.length+1) (by omega) (by decide)) (ai (aH 1 rfl) ?_)
      refine ai (mxL (n:=L.length+1) (by omega) (by decide)) (ai (aH 1 rfl) ?_)
      refine ei (k+1) (ai (ai rfl rfl) (ai (ai (ai rfl (ai (ai rfl rfl) (ai (ai rfl rfl) (ai (ai (ai (ai (fun _=>rfl) (aO (by omega))) rfl) (ai (ai rfl (ai rfl (ai ?_ ?_))) (ai rfl (ai rfl (ai ?_ ?_))))) (ai (ai rfl (ai ?_ ?_)) trivial))))) rfl) (ai (ai (iL (by omega)) ?_) (iM (by omega)))))
      all_goals rw[e]
      ·rw[aaA];rfl
      ·exact aV L (aC c L a k) (show dD (bf c (L.getD a av).1 k).1=_ by rw[hcan])
      ·rw[aaA];rfl
      ·exact aW L (aC c L a k) (bV (L.getD a av).2 k)
      ·rw[aaA];rfl
      ·exact aU L (aC c L a k)
      ·rw[aaA];show L.length+1≤16384;omega
    refine ai ?_ trivial
    refine ai ?_ ?_
    ·refine ai ?_ ?_
     ·refine ai (mxL (n:=L.length+1) (by omega) (by decide)) (ai (lt1 rfl) ?_)
      refine ai (by show a<L.length;exact hak) ?_
      refine fq mixed aB Tryz.func63 rfl rfl ?_
      refine ai rfl ?_
      intro b hb
      refine aY (fun hb0=>?_) (fun hb0=>?_)
      ·have hb1:(L.getD a av).2.length=0:=hb hb0
       refine ai (ai (by decide) (by decide)) (ai (aH 1 rfl) ?_)
       refine ai (mxL (n:=L.length+1) (by omega) (by decide)) (ai (aH 1 rfl) ?_)
       refine ei (k+1) (ai (ai rfl rfl) (ai (ai (ai rfl (ai (ai rfl rfl) (ai (ai rfl rfl) (ai (ai (ai (ai (fun _=>rfl) (aO (by omega))) rfl) (ai (ai rfl (ai rfl (ai ?_ ?_))) (ai rfl (ai rfl (ai ?_ ?_))))) (ai (ai rfl (ai ?_ ?_)) trivial))))) rfl) (ai (ai (iL (by omega)) ?_) (iM (by omega)))))
       all_goals rw[e]
       ·rw[aaA];rfl
       ·exact aV L (aC c L a k) (show dD (bf c (L.getD a av).1 k).1=_ by rw[hcan])
       ·rw[aaA];rfl
       ·exact aW L (aC c L a k) (dB hb1 k)
       ·rw[aaA];rfl
       ·exact aU L (aC c L a k)
       ·rw[aaA];show L.length+1≤16384;omega
      ·refine ai (mxL (n:=0+(L.getD a av).2.length) (by omega) (by decide)) (ai (fun _ _=>rfl) ?_)
       refine ai (mxL (n:=0+(L.getD a av).2.length+1) (by omega) (by decide)) (ai (aH 1 rfl) ?_)
       refine ai (mxL (n:=L.length+1) (by omega) (by decide)) (ai (aH 1 rfl) ?_)
       refine ei (k+1) (ai (ai rfl rfl) (ai (ai (ai rfl (ai (ai rfl rfl) (ai (ai rfl rfl) (ai (ai (ai (ai (fun _=>rfl) (aO (by omega))) rfl) (ai (ai rfl (ai rfl (ai ?_ ?_))) (ai rfl (ai rfl (ai ?_ ?_))))) (ai (ai rfl (ai ?_ ?_)) trivial))))) rfl) (ai (ai (iL (by omega)) ?_) (iM (by omega)))))
       all_goals rw[e]
       ·rw[aaA];rfl
       ·exact aV L (aC c L a k) (show dD (bf c (L.getD a av).1 k).1=_ by rw[hcan])
       ·rw[aaA];rfl
       ·exact aW L (aC c L a k) (bV (L.getD a av).2 k)
       ·rw[aaA];rfl
       ·exact aU L (aC c L a k)
       ·rw[aaA];show L.length+1≤16384;omega
     refine ai ?_ trivial
     refine ai (by show a<L.length;exact hak) ?_
     refine ai (mxL (n:=L.length+1) (by omega) (by decide)) (ai (lt1 rfl) ?_)
     refine fq mixed aB Tryz.func63 rfl rfl ?_
     refine ai rfl ?_
     intro b hb
     refine aY (fun hb0=>?_) (fun hb0=>?_)
     ·have hb1:(L.getD a av).2.length=0:=hb hb0
      refine ai (ai (by decide) (by decide)) (ai (aH 1 rfl) ?_)
      refine ai (mxL (n:=L.length+1) (by omega) (by decide)) (ai (aH 1 rfl) ?_)
      refine ei (k+1) (ai (ai rfl rfl) (ai (ai (ai rfl (ai (ai rfl rfl) (ai (ai rfl rfl) (ai (ai (ai (ai (fun _=>rfl) (aO (by omega))) rfl) (ai (ai rfl (ai rfl (ai ?_ ?_))) (ai rfl (ai rfl (ai ?_ ?_))))) (ai (ai rfl (ai ?_ ?_)) trivial))))) rfl) (ai (ai (iL (by omega)) ?_) (iM (by omega)))))
      all_goals rw[e]
      ·rw[aaA];rfl
      ·exact aV L (aC c L a k) (show dD (bf c (L.getD a av).1 k).1=_ by rw[hcan])
      ·rw[aaA];rfl
      ·exact aW L (aC c L a k) (dB hb1 k)
      ·rw[aaA];rfl
      ·exact aU L (aC c L a k)
      ·rw[aaA];show L.length+1≤16384;omega
     ·refine ai (mxL (n:=0+(L.getD a av).2.length) (by omega) (by decide)) (ai (fun _ _=>rfl) ?_)
      refine ai (mxL (n:=0+(L.getD a av).2.length+1) (by omega) (by decide)) (ai (aH 1 rfl) ?_)
      refine ai (mxL (n:=L.length+1) (by omega) (by decide)) (ai (aH 1 rfl) ?_)
      refine ei (k+1) (ai (ai rfl rfl) (ai (ai (ai rfl (ai (ai rfl rfl) (ai (ai rfl rfl) (ai (ai (ai (ai (fun _=>rfl) (aO (by omega))) rfl) (ai (ai rfl (ai rfl (ai ?_ ?_))) (ai rfl (ai rfl (ai ?_ ?_))))) (ai (ai rfl (ai ?_ ?_)) trivial))))) rfl) (ai (ai (iL (by omega)) ?_) (iM (by omega)))))
      all_goals rw[e]
      ·rw[aaA];rfl
      ·exact aV L (aC c L a k) (show dD (bf c (L.getD a av).1 k).1=_ by rw[hcan])
      ·rw[aaA];rfl
      ·exact aW L (aC c L a k) (bV (L.getD a av).2 k)
      ·rw[aaA];rfl
      ·exact aU L (aC c L a k)
      ·rw[aaA];show L.length+1≤16384;omega
    refine ai ?_ trivial
    refine ai (by show a<L.length;exact hak) ?_
    refine ai (mxL (n:=L.length+1) (by omega) (by decide)) (ai (lt1 rfl) ?_)
    refine fq mixed aB Tryz.func63 rfl rfl ?_
    refine ai rfl ?_
    intro b hb
    refine aY (fun hb0=>?_) (fun hb0=>?_)
    ·have hb1:(L.getD a av).2.length=0:=hb hb0
     refine ai (ai (by decide) (by decide)) (ai (aH 1 rfl) ?_)
     refine ai (mxL (n:=L.length+1) (by omega) (by decide)) (ai (aH 1 rfl) ?_)
     refine ei (k+1) (ai (ai rfl rfl) (ai (ai (ai rfl (ai (ai rfl rfl) (ai (ai rfl rfl) (ai (ai (ai (ai (fun _=>rfl) (aO (by omega))) rfl) (ai (ai rfl (ai rfl (ai ?_ ?_))) (ai rfl (ai rfl (ai ?_ ?_))))) (ai (ai rfl (ai ?_ ?_)) trivial))))) rfl) (ai (ai (iL (by omega)) ?_) (iM (by omega)))))
     all_goals rw[e]
     ·rw[aaA];rfl
     ·exact aV L (aC c L a k) (show dD (bf c (L.getD a av).1 k).1=_ by rw[hcan])
     ·rw[aaA];rfl
     ·exact aW L (aC c L a k) (dB hb1 k)
     ·rw[aaA];rfl
     ·exact aU L (aC c L a k)
     ·rw[aaA];show L.length+1≤16384;omega
    ·refine ai (mxL (n:=0+(L.getD a av).2.length) (by omega) (by decide)) (ai (fun _ _=>rfl) ?_)
     refine ai (mxL (n:=0+(L.getD a av).2.length+1) (by omega) (by decide)) (ai (aH 1 rfl) ?_)
     refine ai (mxL (n:=L.length+1) (by omega) (by decide)) (ai (aH 1 rfl) ?_)
     refine ei (k+1) (ai (ai rfl rfl) (ai (ai (ai rfl (ai (ai rfl rfl) (ai (ai rfl rfl) (ai (ai (ai (ai (fun _=>rfl) (aO (by omega))) rfl) (ai (ai rfl (ai rfl (ai ?_ ?_))) (ai rfl (ai rfl (ai ?_ ?_))))) (ai (ai rfl (ai ?_ ?_)) trivial))))) rfl) (ai (ai (iL (by omega)) ?_) (iM (by omega)))))
     all_goals rw[e]
     ·rw[aaA];rfl
     ·exact aV L (aC c L a k) (show dD (bf c (L.getD a av).1 k).1=_ by rw[hcan])
     ·rw[aaA];rfl
     ·exact aW L (aC c L a k) (bV (L.getD a av).2 k)
     ·rw[aaA];rfl
     ·exact aU L (aC c L a k)
     ·rw[aaA];show L.length+1≤16384;omega
  ·obtain rfl:k=c.trs.length:=by omega
   refine ei ((a+1,bW c l a c.trs.length)) (ai (ai rfl rfl) (ai (ai ?_ rfl) (ai ?_ ?_)))
   ·refine (ai rfl (ai (ai rfl rfl) (ai (ai rfl rfl) (ai (ai (ai (ai (fun _=>rfl) (aO (by omega))) rfl) (ai (ai rfl (ai rfl (ai rfl (fun _ _=>rfl)))) (ai rfl (ai rfl (ai rfl ?_))))) (ai (ai rfl (ai rfl (fun _=>rfl))) trivial)))))
    exact fun k _=>bJ.rfl' _
   ·exact ⟨by show a+1≤(bW c l a c.trs.length).length;rw[ht,aaA];omega,hkl,⟨hgk,hways⟩,(afV h1 hkl).symm.trans (by rw[←hr,show 16385-a=16385-(a+1)+1 by omega])⟩
   ·show 16385-(a+1)<16385-a;omega
 ·have e:l8 c=some l:=by rw[←hr];exact agX (by omega)
  refine ai (ai (fun h=>absurd (show false=true from h) (by decide)) ?_) trivial
  show ak _ (wB c)
  rw[wB,e]
  exact (ai (ai rfl (fun _ _=>rfl)) (ai (ai rfl (fun _ _=>rfl)) rfl))
def ni (c:aS):Int:=if bD c=0 then (match l8 c with | some _=>0 | none=>12) else bD c
def eZ (c:aS):List Mk:=if bD c=0 then (match l8 c with | some l=>l | none=>[]) else []
def uI (c:aS):PV:=.tup [al6 (eZ c),amf (eZ c),iP (ni c)]
theorem amB {c:aS} (h:bD c=0):wB c=uI c:=by
 unfold wB uI eZ ni
 rw[if_pos h,if_pos h]
 cases l8 c<;>rfl
theorem aaT:aL Tryz.prog 60 (iR (fun c:aS=>[jH c]) je uI):=by
 refine aX (Tb:=tab) mixed aB Tryz.func60 rfl rfl ?_
 rintro (c:aS) hpre
 refine ai (ai rfl (ai rfl rfl)) ?_
 refine ei _ (ai (ak8) (ei (c) (ei [] (ai (a4 (ai (fun _=>Or.inl rfl) (ai nof (Or.inl rfl)))) (ai (by exact (ai rfl (ai (ai rfl (fun _ _=>rfl)) (ai (ai rfl (fun _ _=>rfl)) (ai rfl (fun _ _=>rfl)))))) (ai trivial (ai (hpre) ?_)))))))
 refine bE (p:=bD c=0) (bT (by omega)) (fun h1=>?_) (fun h1=>?_)
 ·have e1:ni c=bD c:=if_neg h1
  have e2:eZ c=[]:=if_neg h1
  refine ai (ai (fun h=>absurd (show false=true from h) (by decide)) ?_) trivial
  show ak _ (uI c)
  rw[uI,e1,e2]
  exact (ai rfl (ai rfl rfl))
 refine ei _ (ai ((jE ajy c ⟨h1,hpre⟩ (r:=uI c) (amB h1))) (ei (()) (ei [] (ai (a4 (ai (fun _=>Or.inl rfl) (ai nof (Or.inl rfl)))) (ai (by exact (ai rfl (ai (ai rfl (fun _ _=>rfl)) (ai (ai rfl (fun _ _=>rfl)) (ai rfl (fun _ _=>rfl)))))) (ai trivial (ai (trivial) ?_)))))))
 refine ai (ai (fun h=>absurd (show false=true from h) (by decide)) ?_) trivial
 show ak _ (uI c)
 rw[uI]
 exact (ai (ai rfl (fun _ _=>rfl)) (ai (ai rfl (fun _ _=>rfl)) rfl))
theorem zl {c:aS} (h:ni c=0):bD c=0∧l8 c=some (eZ c):=by
 unfold ni at h
 split at h
 ·rename_i h1
  refine ⟨h1,?_⟩
  unfold eZ;rw[if_pos h1]
  cases e:l8 c with
  | none=>rw[e] at h;cases h
  | some l=>rfl
 ·rename_i h1;exact absurd h h1
theorem afw {c:aS}:∀{f:Nat} {l r:List Mk} {a:Nat},a≤l.length→l.length≤16384→lZ c l→tC a l→mI c f l a=some r→lZ c r∧r.length≤16384∧tC 16384 r
 | 0,l,r,a,ha,hl,hg,hw,h=>by
  obtain rfl:=Option.some.inj h
  exact ⟨hg,hl,fun y hy=>by have:=hw y hy;omega⟩
 | f+1,l,r,a,ha,hl,hg,hw,h=>by
  unfold mI at h
  split at h
  ·obtain rfl:=Option.some.inj h
   exact ⟨hg,hl,fun y hy=>by have:=hw y hy;omega⟩
  ·rename_i h1
   split at h
   ·cases h
   ·rename_i h2
    obtain ⟨t,ht⟩:=nY c l a c.trs.length
    exact afw (by rw[ht,aaA];omega) (by omega) (good_row hg (by omega) (aff _)) (aag (by omega) hw _) h
theorem wW {c:aS} (h:ni c=0):lZ c (eZ c)∧(eZ c).length≤16384∧tC 16384 (eZ c):=
 afw (abY _) (by show 1≤16384;decide) (aa7 c) (fun y hy=>by simp only[mk1,afq] at hy;subst hy;exact abY _) (zl h).2
def pE (c:aS) (i:Nat) (m:List Bool):Bool:=allM m (om c i).fr
theorem apN (c:aS) (m:List Bool) (i:Nat):(bf c m i).2=pE c i m:=by
 unfold bf
 split
 ·rename_i h;exact h.symm
 ·rename_i h;exact (aq7.2 h).symm
abbrev Bst := List Int × Bool
def lX (c:aS) (y:Mk) (k:Nat):Bool:=allM y.1 (om c k).fr&&vT c y.1 k
def gF (c:aS) (y:Mk) (s:Bst) (k:Nat):Bst:=if lX c y k then (if !s.2||decide (cmpL (y.2++[(k:Int)]) s.1<0) then (y.2++[(k:Int)],true) else s) else s
def bX (c:aS) (y:Mk) (s:Bst):Nat→Bst
 | 0=>s
 | k+1=>gF c y (bX c y s k) k
def o8 (c:aS):List Mk→Bst→Bst
 | [],s=>s
 | y :: l,s=>if s.2&&decide (s.1.length<y.2.length+1) then s else o8 c l (bX c y s c.trs.length)
def pU (c:aS):Bst:=o8 c (eZ c) ([],false)
def sZ (c:aS):PV:=if ni c=0 then .tup [bP (!(pU c).2),lg (pU c).1,iP 0] else .tup [bP false,lg [],iP (ni c)]
theorem vY (l:List Int) (k:Nat):∀j,j<0+l.length+1→bN (0+l.length) (bN 0 (bg 1 []) (fun j=>[iP (l.getD j 0)])) (bg 1 [iP (k:Int)]) j=[iP ((l++[(k:Int)]).getD j 0)]:=fun j hj=>
 adn (a:=l) (b:=[(k:Int)]) (afG _) (fun j hj=>acz (n:=l.length) j (by omega)) (fun j hj=>by
  have hj:j<1:=hj
  obtain rfl:j=0:=by omega
  rfl) j (by rw[aaA];show j<l.length+1;omega)
theorem ahT:aL Tryz.prog 13 (iR (fun c:aS=>[jH c]) je sZ):=by
 refine jG [63] ?_
 refine aX (Tb:=tab) mixed aB Tryz.func13 rfl rfl ?_
 rintro (c:aS) hpre
 refine ai (ai rfl (ai rfl rfl)) ?_
 have ho:je c:=hpre
 refine ei _ (ai (aaT) (ei (c) (ei [] (ai (a4 (ai (fun _=>Or.inl rfl) (ai nof (Or.inl rfl)))) (ai (by exact (ai rfl (ai (ai rfl (fun _ _=>rfl)) (ai (ai rfl (fun _ _=>rfl)) (ai rfl (fun _ _=>rfl)))))) (ai trivial (ai (ho) ?_)))))))
 refine bE (p:=ni c=0) (bT (by omega)) (fun h1=>?_) (fun h1=>?_)
 ·refine ai (ai (fun h=>absurd (show false=true from h) (by decide)) ?_) trivial
  show ak _ (sZ c)
  rw[sZ,if_neg h1]
  exact (ai rfl (ai rfl rfl))
 have hA:sZ c=.tup [bP (!(pU c).2),lg (pU c).1,iP 0]:=by unfold sZ;rw[if_pos h1]
 obtain ⟨hc,hx⟩:=zl h1
 obtain ⟨hg,hl,hw⟩:=wW h1
 have h32:=(jg hc).2.2.2.1
 have hS:pU c=o8 c (eZ c) ([],false):=rfl
 generalize eZ c=L at *
 refine ei (bC.inv { X:=Nat×Bst,up:=fun x=>[(27,.s (iA x.1)),(8,isR x.2.1),(9,.s (.p false (bP x.2.2)))],uo:=fun _=>[],inv:=fun x=>x.1≤L.length∧pU c=o8 c (L.drop x.1) x.2,meas:=fun x=>L.length-x.1,x0:=(0,([],false)) }) ?_
 refine ai (ai (ai (by exact (a4 (ai rfl rfl))) (ai ?_ ?_)) ?_) (ai ?_ ?_)
 ·exact (ai (ai (ai (fun _=>rfl) (iE (by simp only[zz,reduceCtorEq];rfl))) rfl) (ai rfl (ai (ai (fun _=>rfl) rfl) rfl)))
 ·exact trivial
 ·rfl
 ·exact ⟨abY _,hS⟩
 rintro ⟨a,s⟩ ⟨hal,hs⟩
 have hal:a≤L.length:=hal
 have hs:pU c=o8 c (L.drop a) s:=hs
 refine ah (p:=a<L.length) (au (by omega)) (fun h2=>?_) (fun h2=>?_)
 ·refine ai (ai (aaI _) (iN (n:=L.length) (by omega))) (ai rfl ?_)
  refine ei (fZ (L.getD a av).1) (ai (agU _) ?_)
  have hy:=aaS (bH av h2)
  have hd:L.drop a=L.getD a av :: L.drop (a+1):=by
   rw[anr h2,aaE,aaC h2];rfl
  have hga:=hg _ hy
  have hwa:=hw _ hy
  rw[hd] at hs
  refine aZ (b:=s.2) rfl (fun h3=>?_) (fun h3=>?_)
  ·refine ai (ai (aaI _) (iN (n:=L.length) (by omega))) (ai rfl ?_)
   refine ah (p:=s.1.length<(L.getD a av).2.length+1) (by exact au (show (s.1.length:Int)<IntKind.i64.wrap (((L.getD a av).2.length:Int)+1)↔_ by rw[show IntKind.i64.wrap (((L.getD a av).2.length:Int)+1)=((L.getD a av).2.length:Int)+1 from aO (by omega)];omega)) (fun h4=>?_) (fun h4=>?_)
   ·have e:pU c=s:=by rw[hs,o8,if_pos (by rw[h3,decide_eq_true h4];rfl)]
    refine ai (ai (fun h=>absurd (show false=true from h) (by decide)) ?_) trivial
    show ak _ (sZ c)
    rw[hA,e]
    exact (ai rfl (ai (ai rfl (fun _ _=>rfl)) rfl))
   ·have hs2:pU c=o8 c (L.drop (a+1)) (bX c (L.getD a av) s c.trs.length):=by rw[hs,o8,if_neg (by rw[decide_eq_false h4];simp)]
    refine ei (bC.inv { X:=Nat,up:=fun k=>[(47,.s (iA k)),(8,isR (bX c (L.getD a av) s k).1),(9,.s (.p false (bP (bX c (L.getD a av) s k).2)))],uo:=fun k=>[],inv:=fun k=>k≤c.trs.length∧(True),meas:=fun k=>c.trs.length-k,x0:=0 }) ?_
    refine ai (ai (ai (by exact (a4 (ai rfl rfl))) (ai ?_ ?_)) rfl) (ai (ai (abY _) ?_) ?_)
    ·exact (ai (ai (ai (fun _=>rfl) (iE (by simp only[zz,reduceCtorEq];rfl))) rfl) (ai (ai rfl (ai rfl (ai rfl (fun _ _=>rfl)))) (ai (ai nof rfl) rfl)))
    ·exact trivial
    ·trivial
    intro (k:Nat) ⟨hk,_⟩
    have hst:bX c (L.getD a av) s (k+1)=gF c (L.getD a av) (bX c (L.getD a av) s k) k:=rfl
    refine ah (p:=k<c.trs.length) (au (by omega)) (fun h5=>?_) (fun h5=>?_)
    ·refine ei _ (ai ((jE zx (c,(L.getD a av).1,k) ⟨hc,ho,hga.1,h5⟩ (r:=.tup [tZ (bf c (L.getD a av).1 k).1,bP (pE c k (L.getD a av).1)]) (by show yQ c (L.getD a av).1 k=_;unfold yQ;rw[apN]))) (ei (()) (ei [] (ai (a4 (ai (fun _=>Or.inl rfl) (ai nof (Or.inl rfl)))) (ai (by exact (ai (ai rfl (ai (ai rfl (fun _ _=>rfl)) (ai (ai rfl (fun _ _=>rfl)) (ai rfl (fun _ _=>rfl))))) (ai (ai rfl (fun _ _=>rfl)) rfl))) (ai trivial (ai (trivial) ?_)))))))
     refine aZ (b:=!pE c k (L.getD a av).1) rfl (fun h6=>?_) (fun h6=>?_)
     ·have h6:allM (L.getD a av).1 (om c k).fr=false:=by simpa [pE] using h6
      have e:bX c (L.getD a av) s (k+1)=bX c (L.getD a av) s k:=by rw[hst];unfold gF;rw[if_neg (by unfold lX;rw[h6];simp)]
      refine ei (k+1) (ai (ai rfl rfl) (ai (ai (ai rfl (ai (ai rfl rfl) (ai (ai rfl rfl) (ai (ai (ai (ai (fun _=>rfl) (aO (by omega))) rfl) (ai (ai rfl (ai rfl (ai ?_ ?_))) (ai (ai nof ?_) rfl))) trivial)))) rfl) (ai (ai (iL (by omega)) trivial) (iM (by omega)))))
      all_goals rw[e]
      ·exact fun _ _=>rfl
      ·exact rfl
     have h6:allM (L.getD a av).1 (om c k).fr=true:=by simpa [pE] using h6
     refine ei _ (ai (aeo) (ei ((c,(L.getD a av).1,k)) (ei [] (ai (a4 (ai (fun _=>Or.inl rfl) (ai nof (Or.inl rfl)))) (ai (by exact (ai (ai rfl (ai (ai rfl (fun _ _=>rfl)) (ai (ai rfl (fun _ _=>rfl)) (ai rfl (fun _ _=>rfl))))) (ai (ai rfl (fun _ _=>rfl)) rfl))) (ai trivial (ai (⟨hc,ho,h5⟩) ?_)))))))
     refine aZ (b:=!vT c (L.getD a av).1 k) rfl (fun h7=>?_) (fun h7=>?_)
     ·have h7:vT c (L.getD a av).1 k=false:=by simpa using h7
      have e:bX c (L.getD a av) s (k+1)=bX c (L.getD a av) s k:=by rw[hst];unfold gF;rw[if_neg (by unfold lX;rw[h7];simp)]
      refine ei (k+1) (ai (ai rfl rfl) (ai (ai (ai rfl (ai (ai rfl rfl) (ai (ai rfl rfl) (ai (ai (ai (ai (fun _=>rfl) (aO (by omega))) rfl) (ai (ai rfl (ai rfl (ai ?_ ?_))) (ai (ai nof ?_) rfl))) trivial)))) rfl) (ai (ai (iL (by omega)) trivial) (iM (by omega)))))
      all_goals rw[e]
      ·exact fun _ _=>rfl
      ·exact rfl
     have h7:vT c (L.getD a av).1 k=true:=by simpa using h7
     have hbad:lX c (L.getD a av) k=true:=by unfold lX;rw[h6,h7];rfl
     refine ai (ai (aaI _) (iN (n:=L.length) (by omega))) (ai rfl ?_)
     have hcl:((L.getD a av).2++[(k:Int)]).length≤1000000:=by rw[aaA];show (L.getD a av).2.length+1≤_;omega
     refine fq mixed aB Tryz.func63 rfl rfl ?_
     refine ai rfl ?_
     intro b hb
     refine aY (fun hb0=>?_) (fun hb0=>?_)
     ·have hb1:(L.getD a av).2.length=0:=hb hb0
      have hb2:=aoZ.1 hb1
      refine ai (ai (by decide) (by decide)) (ai (aH 1 rfl) ?_)
      refine aZ (b:=!(bX c (L.getD a av) s k).2) rfl (fun h8=>?_) (fun h8=>?_)
      ·have e:bX c (L.getD a av) s (k+1)=((L.getD a av).2++[(k:Int)],true):=by rw[hst];unfold gF;rw[if_pos hbad,if_pos (by rw[h8];rfl)]
       refine ei (k+1) (ai (ai rfl rfl) (ai (ai (ai rfl (ai (ai rfl rfl) (ai (ai rfl rfl) (ai (ai (ai (ai (fun _=>rfl) (aO (by omega))) rfl) (ai (ai rfl (ai rfl (ai ?_ ?_))) (ai (ai (fun _=>rfl) ?_) rfl))) trivial)))) rfl) (ai (ai (iL (by omega)) trivial) (iM (by omega)))))
       all_goals rw[e]
       ·(rw[hb2];first | done | rfl)
       ·(rw[hb2];intro j hj;have hj:j<1:=hj;obtain rfl:j=0:=(by omega);rfl)
       ·exact rfl
      refine ei _ (ai (aat) (ei (((L.getD a av).2++[(k:Int)],(bX c (L.getD a av) s k).1)) (ei [] (ai (ai rfl (ai rfl (ai rfl (ai rfl (ai (fun _=>Or.inl rfl) (ai (fun _=>ai rfl rfl) (Or.inl rfl))))))) (ai ?_ (ai (by exact trivial) (ai (hcl) ?_)))))))
      ·refine (ai (ai ?_ ?_) (ai rfl (fun _ _=>rfl)))
       ·(rw[hb2];first | done | rfl)
       ·(rw[hb2];intro j hj;have hj:j<1:=hj;obtain rfl:j=0:=(by omega);rfl)
      refine ah (p:=cmpL ((L.getD a av).2++[(k:Int)]) (bX c (L.getD a av) s k).1<0) (au Iff.rfl) (fun h9=>?_) (fun h9=>?_)
      ·have e:bX c (L.getD a av) s (k+1)=((L.getD a av).2++[(k:Int)],true):=by rw[hst];unfold gF;rw[if_pos hbad,if_pos (by rw[decide_eq_true h9];simp)]
       refine ei (k+1) (ai (ai rfl rfl) (ai (ai (ai rfl (ai (ai rfl rfl) (ai (ai rfl rfl) (ai (ai (ai (ai (fun _=>rfl) (aO (by omega))) rfl) (ai (ai rfl (ai rfl (ai ?_ ?_))) (ai (ai (fun _=>rfl) ?_) rfl))) trivial)))) rfl) (ai (ai (iL (by omega)) trivial) (iM (by omega)))))
       all_goals rw[e]
       ·(rw[hb2];first | done | rfl)
       ·(rw[hb2];intro j hj;have hj:j<1:=hj;obtain rfl:j=0:=(by omega);rfl)
       ·exact rfl
      ·have e:bX c (L.getD a av) s (k+1)=bX c (L.getD a av) s k:=by rw[hst];unfold gF;rw[if_pos hbad,if_neg (by rw[h8,decide_eq_false h9];simp)]
       refine ei (k+1) (ai (ai rfl rfl) (ai (ai (ai rfl (ai (ai rfl rfl) (ai (ai rfl rfl) (ai (ai (ai (ai (fun _=>rfl) (aO (by omega))) rfl) (ai (ai rfl (ai rfl (ai ?_ ?_))) (ai (ai nof ?_) rfl))) trivial)))) rfl) (ai (ai (iL (by omega)) trivial) (iM (by omega)))))
       all_goals rw[e]
       ·exact fun _ _=>rfl
       ·exact rfl
     ·refine ai (mxL (n:=0+(L.getD a av).2.length) (by omega) (by decide)) (ai (fun _ _=>rfl) ?_)
      refine ai (mxL (n:=0+(L.getD a av).2.length+1) (by omega) (by decide)) (ai (aH 1 rfl) ?_)
      refine aZ (b:=!(bX c (L.getD a av) s k).2) rfl (fun h8=>?_) (fun h8=>?_)
      ·have e:bX c (L.getD a av) s (k+1)=((L.getD a av).2++[(k:Int)],true):=by rw[hst];unfold gF;rw[if_pos hbad,if_pos (by rw[h8];rfl)]
       refine ei (k+1) (ai (ai rfl rfl) (ai (ai (ai rfl (ai (ai rfl rfl) (ai (ai rfl rfl) (ai (ai (ai (ai (fun _=>rfl) (aO (by omega))) rfl) (ai (ai rfl (ai rfl (ai ?_ ?_))) (ai (ai (fun _=>rfl) ?_) rfl))) trivial)))) rfl) (ai (ai (iL (by omega)) trivial) (iM (by omega)))))
       all_goals rw[e]
       ·(rw[aaA];exact congrArg (·+1) (afG _))
       ·exact vY _ _
       ·exact rfl
      refine ei _ (ai (aat) (ei (((L.getD a av).2++[(k:Int)],(bX c (L.getD a av) s k).1)) (ei [] (ai (ai rfl (ai rfl (ai rfl (ai rfl (ai (fun _=>Or.inl rfl) (ai (fun _=>ai rfl rfl) (Or.inl rfl))))))) (ai ?_ (ai (by exact trivial) (ai (hcl) ?_)))))))
      ·refine (ai (ai ?_ ?_) (ai rfl (fun _ _=>rfl)))
       ·(rw[aaA];exact congrArg (·+1) (afG _))
       ·exact vY _ _
      refine ah (p:=cmpL ((L.getD a av).2++[(k:Int)]) (bX c (L.getD a av) s k).1<0) (au Iff.rfl) (fun h9=>?_) (fun h9=>?_)
      ·have e:bX c (L.getD a av) s (k+1)=((L.getD a av).2++[(k:Int)],true):=by rw[hst];unfold gF;rw[if_pos hbad,if_pos (by rw[decide_eq_true h9];simp)]
       refine ei (k+1) (ai (ai rfl rfl) (ai (ai (ai rfl (ai (ai rfl rfl) (ai (ai rfl rfl) (ai (ai (ai (ai (fun _=>rfl) (aO (by omega))) rfl) (ai (ai rfl (ai rfl (ai ?_ ?_))) (ai (ai (fun _=>rfl) ?_) rfl))) trivial)))) rfl) (ai (ai (iL (by omega)) trivial) (iM (by omega)))))
       all_goals rw[e]
       ·(rw[aaA];exact congrArg (·+1) (afG _))
       ·exact vY _ _
       ·exact rfl
      ·have e:bX c (L.getD a av) s (k+1)=bX c (L.getD a av) s k:=by rw[hst];unfold gF;rw[if_pos hbad,if_neg (by rw[h8,decide_eq_false h9];simp)]
       refine ei (k+1) (ai (ai rfl rfl) (ai (ai (ai rfl (ai (ai rfl rfl) (ai (ai rfl rfl) (ai (ai (ai (ai (fun _=>rfl) (aO (by omega))) rfl) (ai (ai rfl (ai rfl (ai ?_ ?_))) (ai (ai nof ?_) rfl))) trivial)))) rfl) (ai (ai (iL (by omega)) trivial) (iM (by omega)))))
       all_goals rw[e]
       ·exact fun _ _=>rfl
       ·exact rfl
    ·obtain rfl:k=c.trs.length:=by omega
     refine ei ((a+1,bX c (L.getD a av) s c.trs.length)) (ai (ai rfl rfl) (ai (ai ?_ rfl) (ai ?_ ?_)))
     ·exact (ai rfl (ai (ai rfl rfl) (ai (ai rfl rfl) (ai (ai (ai (ai (fun _=>rfl) (aO (by omega))) rfl) (ai (ai rfl (ai rfl (ai rfl (fun _ _=>rfl)))) (ai (ai nof rfl) rfl))) trivial))))
     ·exact ⟨h2,hs2⟩
     ·show L.length-(a+1)<L.length-a;omega
  ·have hs2:pU c=o8 c (L.drop (a+1)) (bX c (L.getD a av) s c.trs.length):=by rw[hs,o8,if_neg (by rw[h3];simp)]
   refine ei (bC.inv { X:=Nat,up:=fun k=>[(47,.s (iA k)),(8,isR (bX c (L.getD a av) s k).1),(9,.s (.p false (bP (bX c (L.getD a av) s k).2)))],uo:=fun k=>[],inv:=fun k=>k≤c.trs.length∧(True),meas:=fun k=>c.trs.length-k,x0:=0 }) ?_
   refine ai (ai (ai (by exact (a4 (ai rfl rfl))) (ai ?_ ?_)) rfl) (ai (ai (abY _) ?_) ?_)
   ·exact (ai (ai (ai (fun _=>rfl) (iE (by simp only[zz,reduceCtorEq];rfl))) rfl) (ai (ai rfl (ai rfl (ai rfl (fun _ _=>rfl)))) (ai (ai nof rfl) rfl)))
   ·exact trivial
   ·trivial
   intro (k:Nat) ⟨hk,_⟩
   have hst:bX c (L.getD a av) s (k+1)=gF c (L.getD a av) (bX c (L.getD a av) s k) k:=rfl
   refine ah (p:=k<c.trs.length) (au (by omega)) (fun h5=>?_) (fun h5=>?_)
   ·refine ei _ (ai ((jE zx (c,(L.getD a av).1,k) ⟨hc,ho,hga.1,h5⟩ (r:=.tup [tZ (bf c (L.getD a av).1 k).1,bP (pE c k (L.getD a av).1)]) (by show yQ c (L.getD a av).1 k=_;unfold yQ;rw[apN]))) (ei (()) (ei [] (ai (a4 (ai (fun _=>Or.inl rfl) (ai nof (Or.inl rfl)))) (ai (by exact (ai (ai rfl (ai (ai rfl (fun _ _=>rfl)) (ai (ai rfl (fun _ _=>rfl)) (ai rfl (fun _ _=>rfl))))) (ai (ai rfl (fun _ _=>rfl)) rfl))) (ai trivial (ai (trivial) ?_)))))))
    refine aZ (b:=!pE c k (L.getD a av).1) rfl (fun h6=>?_) (fun h6=>?_)
    ·have h6:allM (L.getD a av).1 (om c k).fr=false:=by simpa [pE] using h6
     have e:bX c (L.getD a av) s (k+1)=bX c (L.getD a av) s k:=by rw[hst];unfold gF;rw[if_neg (by unfold lX;rw[h6];simp)]
     refine ei (k+1) (ai (ai rfl rfl) (ai (ai (ai rfl (ai (ai rfl rfl) (ai (ai rfl rfl) (ai (ai (ai (ai (fun _=>rfl) (aO (by omega))) rfl) (ai (ai rfl (ai rfl (ai ?_ ?_))) (ai (ai nof ?_) rfl))) trivial)))) rfl) (ai (ai (iL (by omega)) trivial) (iM (by omega)))))
     all_goals rw[e]
     ·exact fun _ _=>rfl
     ·exact rfl
    have h6:allM (L.getD a av).1 (om c k).fr=true:=by simpa [pE] using h6
    refine ei _ (ai (aeo) (ei ((c,(L.getD a av).1,k)) (ei [] (ai (a4 (ai (fun _=>Or.inl rfl) (ai nof (Or.inl rfl)))) (ai (by exact (ai (ai rfl (ai (ai rfl (fun _ _=>rfl)) (ai (ai rfl (fun _ _=>rfl)) (ai rfl (fun _ _=>rfl))))) (ai (ai rfl (fun _ _=>rfl)) rfl))) (ai trivial (ai (⟨hc,ho,h5⟩) ?_)))))))
    refine aZ (b:=!vT c (L.getD a av).1 k) rfl (fun h7=>?_) (fun h7=>?_)
    ·have h7:vT c (L.getD a av).1 k=false:=by simpa using h7
     have e:bX c (L.getD a av) s (k+1)=bX c (L.getD a av) s k:=by rw[hst];unfold gF;rw[if_neg (by unfold lX;rw[h7];simp)]
     refine ei (k+1) (ai (ai rfl rfl) (ai (ai (ai rfl (ai (ai rfl rfl) (ai (ai rfl rfl) (ai (ai (ai (ai (fun _=>rfl) (aO (by omega))) rfl) (ai (ai rfl (ai rfl (ai ?_ ?_))) (ai (ai nof ?_) rfl))) trivial)))) rfl) (ai (ai (iL (by omega)) trivial) (iM (by omega)))))
     all_goals rw[e]
     ·exact fun _ _=>rfl
     ·exact rfl
    have h7:vT c (L.getD a av).1 k=true:=by simpa using h7
    have hbad:lX c (L.getD a av) k=true:=by unfold lX;rw[h6,h7];rfl
    refine ai (ai (aaI _) (iN (n:=L.length) (by omega))) (ai rfl ?_)
    have hcl:((L.getD a av).2++[(k:Int)]).length≤1000000:=by rw[aaA];show (L.getD a av).2.length+1≤_;omega
    refine fq mixed aB Tryz.func63 rfl rfl ?_
    refine ai rfl ?_
    intro b hb
    refine aY (fun hb0=>?_) (fun hb0=>?_)
    ·have hb1:(L.getD a av).2.length=0:=hb hb0
     have hb2:=aoZ.1 hb1
     refine ai (ai (by decide) (by decide)) (ai (aH 1 rfl) ?_)
     refine aZ (b:=!(bX c (L.getD a av) s k).2) rfl (fun h8=>?_) (fun h8=>?_)
     ·have e:bX c (L.getD a av) s (k+1)=((L.getD a av).2++[(k:Int)],true):=by rw[hst];unfold gF;rw[if_pos hbad,if_pos (by rw[h8];rfl)]
      refine ei (k+1) (ai (ai rfl rfl) (ai (ai (ai rfl (ai (ai rfl rfl) (ai (ai rfl rfl) (ai (ai (ai (ai (fun _=>rfl) (aO (by omega))) rfl) (ai (ai rfl (ai rfl (ai ?_ ?_))) (ai (ai (fun _=>rfl) ?_) rfl))) trivial)))) rfl) (ai (ai (iL (by omega)) trivial) (iM (by omega)))))
      all_goals rw[e]
      ·(rw[hb2];first | done | rfl)
      ·(rw[hb2];intro j hj;have hj:j<1:=hj;obtain rfl:j=0:=(by omega);rfl)
      ·exact rfl
     refine ei _ (ai (aat) (ei (((L.getD a av).2++[(k:Int)],(bX c (L.getD a av) s k).1)) (ei [] (ai (ai rfl (ai rfl (ai rfl (ai rfl (ai (fun _=>Or.inl rfl) (ai (fun _=>ai rfl rfl) (Or.inl rfl))))))) (ai ?_ (ai (by exact trivial) (ai (hcl) ?_)))))))
     ·refine (ai (ai ?_ ?_) (ai rfl (fun _ _=>rfl)))
      ·(rw[hb2];first | done | rfl)
      ·(rw[hb2];intro j hj;have hj:j<1:=hj;obtain rfl:j=0:=(by omega);rfl)
     refine ah (p:=cmpL ((L.getD a av).2++[(k:Int)]) (bX c (L.getD a av) s k).1<0) (au Iff.rfl) (fun h9=>?_) (fun h9=>?_)
     ·have e:bX c (L.getD a av) s (k+1)=((L.getD a av).2++[(k:Int)],true):=by rw[hst];unfold gF;rw[if_pos hbad,if_pos (by rw[decide_eq_true h9];simp)]
      refine ei (k+1) (ai (ai rfl rfl) (ai (ai (ai rfl (ai (ai rfl rfl) (ai (ai rfl rfl) (ai (ai (ai (ai (fun _=>rfl) (aO (by omega))) rfl) (ai (ai rfl (ai rfl (ai ?_ ?_))) (ai (ai (fun _=>rfl) ?_) rfl))) trivial)))) rfl) (ai (ai (iL (by omega)) trivial) (iM (by omega)))))
      all_goals rw[e]
      ·(rw[hb2];first | done | rfl)
      ·(rw[hb2];intro j hj;have hj:j<1:=hj;obtain rfl:j=0:=(by omega);rfl)
      ·exact rfl
     ·have e:bX c (L.getD a av) s (k+1)=bX c (L.getD a av) s k:=by rw[hst];unfold gF;rw[if_pos hbad,if_neg (by rw[h8,decide_eq_false h9];simp)]
      refine ei (k+1) (ai (ai rfl rfl) (ai (ai (ai rfl (ai (ai rfl rfl) (ai (ai rfl rfl) (ai (ai (ai (ai (fun _=>rfl) (aO (by omega))) rfl) (ai (ai rfl (ai rfl (ai ?_ ?_))) (ai (ai nof ?_) rfl))) trivial)))) rfl) (ai (ai (iL (by omega)) trivial) (iM (by omega)))))
      all_goals rw[e]
      ·exact fun _ _=>rfl
      ·exact rfl
    ·refine ai (mxL (n:=0+(L.getD a av).2.length) (by omega) (by decide)) (ai (fun _ _=>rfl) ?_)
     refine ai (mxL (n:=0+(L.getD a av).2.length+1) (by omega) (by decide)) (ai (aH 1 rfl) ?_)
     refine aZ (b:=!(bX c (L.getD a av) s k).2) rfl (fun h8=>?_) (fun h8=>?_)
     ·have e:bX c (L.getD a av) s (k+1)=((L.getD a av).2++[(k:Int)],true):=by rw[hst];unfold gF;rw[if_pos hbad,if_pos (by rw[h8];rfl)]
      refine ei (k+1) (ai (ai rfl rfl) (ai (ai (ai rfl (ai (ai rfl rfl) (ai (ai rfl rfl) (ai (ai (ai (ai (fun _=>rfl) (aO (by omega))) rfl) (ai (ai rfl (ai rfl (ai ?_ ?_))) (ai (ai (fun _=>rfl) ?_) rfl))) trivial)))) rfl) (ai (ai (iL (by omega)) trivial) (iM (by omega)))))
      all_goals rw[e]
      ·(rw[aaA];exact congrArg (·+1) (afG _))
      ·exact vY _ _
      ·exact rfl
     refine ei _ (ai (aat) (ei (((L.getD a av).2++[(k:Int)],(bX c (L.getD a av) s k).1)) (ei [] (ai (ai rfl (ai rfl (ai rfl (ai rfl (ai (fun _=>Or.inl rfl) (ai (fun _=>ai rfl rfl) (Or.inl rfl))))))) (ai ?_ (ai (by exact trivial) (ai (hcl) ?_)))))))
     ·refine (ai (ai ?_ ?_) (ai rfl (fun _ _=>rfl)))
      ·(rw[aaA];exact congrArg (·+1) (afG _))
      ·exact vY _ _
     refine ah (p:=cmpL ((L.getD a av).2++[(k:Int)]) (bX c (L.getD a av) s k).1<0) (au Iff.rfl) (fun h9=>?_) (fun h9=>?_)
     ·have e:bX c (L.getD a av) s (k+1)=((L.getD a av).2++[(k:Int)],true):=by rw[hst];unfold gF;rw[if_pos hbad,if_pos (by rw[decide_eq_true h9];simp)]
      refine ei (k+1) (ai (ai rfl rfl) (ai (ai (ai rfl (ai (ai rfl rfl) (ai (ai rfl rfl) (ai (ai (ai (ai (fun _=>rfl) (aO (by omega))) rfl) (ai (ai rfl (ai rfl (ai ?_ ?_))) (ai (ai (fun _=>rfl) ?_) rfl))) trivial)))) rfl) (ai (ai (iL (by omega)) trivial) (iM (by omega)))))
      all_goals rw[e]
      ·(rw[aaA];exact congrArg (·+1) (afG _))
      ·exact vY _ _
      ·exact rfl
     ·have e:bX c (L.getD a av) s (k+1)=bX c (L.getD a av) s k:=by rw[hst];unfold gF;rw[if_pos hbad,if_neg (by rw[h8,decide_eq_false h9];simp)]
      refine ei (k+1) (ai (ai rfl rfl) (ai (ai (ai rfl (ai (ai rfl rfl) (ai (ai rfl rfl) (ai (ai (ai (ai (fun _=>rfl) (aO (by omega))) rfl) (ai (ai rfl (ai rfl (ai ?_ ?_))) (ai (ai nof ?_) rfl))) trivial)))) rfl) (ai (ai (iL (by omega)) trivial) (iM (by omega)))))
      all_goals rw[e]
      ·exact fun _ _=>rfl
      ·exact rfl
   ·obtain rfl:k=c.trs.length:=by omega
    refine ei ((a+1,bX c (L.getD a av) s c.trs.length)) (ai (ai rfl rfl) (ai (ai ?_ rfl) (ai ?_ ?_)))
    ·exact (ai rfl (ai (ai rfl rfl) (ai (ai rfl rfl) (ai (ai (ai (ai (fun _=>rfl) (aO (by omega))) rfl) (ai (ai rfl (ai rfl (ai rfl (fun _ _=>rfl)))) (ai (ai nof rfl) rfl))) trivial))))
    ·exact ⟨h2,hs2⟩
    ·show L.length-(a+1)<L.length-a;omega
 ·have e:pU c=s:=by rw[hs,arO (by omega)];rfl
  refine ai (ai (fun h=>absurd (show false=true from h) (by decide)) ?_) trivial
  show ak _ (sZ c)
  rw[hA,e]
  exact (ai rfl (ai (ai rfl (fun _ _=>rfl)) rfl))
def am7 (c:aS):PV:=.tup [ajE (eZ c),iP (ni c)]
theorem ape {c:aS} (h:bD c=0):abg c=am7 c:=by
 unfold abg am7 eZ ni
 rw[if_pos h,if_pos h]
 cases l8 c<;>rfl
theorem anO {c:aS} (h:¬bD c=0):ni c=bD c:=if_neg h
def tT (c:aS) (y:Mk):Nat→Option Nat
 | 0=>none
 | n+1=>match tT c y n with
  | some k=>some k
  | none=>if lX c y n then some n else none
theorem adD {c:aS} {y:Mk}:∀{n:Nat},(∀j,j<n→lX c y j=false)→tT c y n=none
 | 0,_=>rfl
 | n+1,h=>by rw[tT,adD fun j hj=>h j (by omega)];simp[h n (by omega)]
theorem ahX {c:aS} {y:Mk} {k:Nat} (h:∀j,j<k→lX c y j=false) (hk:lX c y k=true):∀{n:Nat},k<n→tT c y n=some k
 | n+1,hn=>by
  rw[tT]
  by_cases e:k=n
  ·subst e;rw[adD h];simp[hk]
  ·rw[ahX h hk (n:=n) (by omega)]
def oL (c:aS):List Mk→Option (List Int)
 | []=>none
 | y :: l=>match tT c y c.trs.length with
  | some k=>some (y.2++[(k:Int)])
  | none=>oL c l
def mX (c:aS):PV:=if ni c=0 then (match oL c (eZ c) with | some w=>.tup [bP false,lg w,iP 0] | none=>.tup [bP true,lg [],iP 0]) else .tup [bP false,lg [],iP (ni c)]
theorem amT (c:aS) (y:Mk) (k:Nat):rH (om c k) y.1=lX c y k:=by
 unfold rH lX vT;rw[Bool.and_comm];rfl
theorem amZ:aL Tryz.prog 15 (iR (fun c:aS=>[jH c]) je mX):=by
 refine aX (Tb:=tab) mixed aB Tryz.func15 rfl rfl ?_
 rintro (c:aS) hpre
 refine ai (ai rfl (ai rfl rfl)) ?_
 have ho:je c:=hpre
 refine ei _ (ai (ado) (ei (c) (ei [] (ai (a4 (ai (fun _=>Or.inl rfl) (ai nof (Or.inl rfl)))) (ai (by exact (ai rfl (ai (ai rfl (fun _ _=>rfl)) (ai (ai rfl (fun _ _=>rfl)) (ai rfl (fun _ _=>rfl)))))) (ai trivial (ai (ho) ?_)))))))
 refine bE (p:=bD c=0) (bT (by omega)) (fun h0=>?_) (fun h0=>?_)
 ·have e:=anO h0
  refine ai (ai (fun h=>absurd (show false=true from h) (by decide)) ?_) trivial
  show ak _ (mX c)
  rw[mX,e,if_neg h0]
  exact (ai rfl (ai rfl rfl))
 refine ei _ (ai ((jE ahB c ⟨h0,ho⟩ (r:=am7 c) (ape h0))) (ei (()) (ei [] (ai (a4 (ai (fun _=>Or.inl rfl) (ai nof (Or.inl rfl)))) (ai (by exact (ai rfl (ai (ai rfl (fun _ _=>rfl)) (ai (ai rfl (fun _ _=>rfl)) (ai rfl (fun _ _=>rfl)))))) (ai trivial (ai (trivial) ?_)))))))
 refine bE (p:=ni c=0) (bT (by omega)) (fun h1=>?_) (fun h1=>?_)
 ·refine ai (ai (fun h=>absurd (show false=true from h) (by decide)) ?_) trivial
  show ak _ (mX c)
  rw[mX,if_neg h1]
  exact (ai rfl (ai rfl rfl))
 obtain ⟨hc,hx⟩:=zl h1
 obtain ⟨hg,hl,hw⟩:=wW h1
 have h32:=(jg hc).2.2.2.1
 refine ei (bC.inv { X:=Nat,up:=fun a=>[(8,.s (iA a))],uo:=fun a=>[],inv:=fun a=>a≤(eZ c).length∧(oL c (eZ c)=oL c ((eZ c).drop a)),meas:=fun a=>(eZ c).length-a,x0:=0 }) ?_
 refine ai (ai (ai (by exact (a4 (ai rfl rfl))) (ai (by exact (ai (ai (fun _=>rfl) (iE (by simp only[zz,reduceCtorEq];rfl))) rfl)) (by exact trivial))) rfl) (ai (ai (abY _) ?_) ?_)
 ·rfl
 intro (a:Nat) ⟨ha,hs⟩
 refine ah (p:=a<(eZ c).length) (au (by omega)) (fun h2=>?_) (fun h2=>?_)
 ·have hd:(eZ c).drop a=(eZ c).getD a av :: (eZ c).drop (a+1):=by
   rw[anr h2,aaE,aaC h2];rfl
  have hy:=aaS (bH av h2)
  have hga:=hg _ hy
  have hwa:=hw _ hy
  refine ei (bC.inv { X:=Nat,up:=fun k=>[(9,.s (iA k))],uo:=fun k=>[],inv:=fun k=>k≤c.trs.length∧(∀j,j<k→lX c ((eZ c).getD a av) j=false),meas:=fun k=>c.trs.length-k,x0:=0 }) ?_
  refine ai (ai (ai (by exact (a4 (ai rfl rfl))) (ai (by exact (ai (ai (fun _=>rfl) (iE (by simp only[zz,reduceCtorEq];rfl))) rfl)) (by exact trivial))) rfl) (ai (ai (abY _) ?_) ?_)
  ·exact fun j hj=>absurd hj (akN _)
  intro (k:Nat) ⟨hk,hall⟩
  refine ah (p:=k<c.trs.length) (au (by omega)) (fun h3=>?_) (fun h3=>?_)
  ·obtain ⟨q1,q2,q3⟩:=kS hc h3
   have hto:=qd ho h3
   refine ei (.seq [0,1,2,3,4,5,6,7,8,9,10]) (ai (by kernel_rfl) ?_)
   refine ai (ai (aaI _) (iN (n:=c.trs.length) (by omega))) (ai rfl ?_)
   refine ai (ai (aaI _) (iN (n:=(eZ c).length) (by omega))) (ai rfl ?_)
   refine ei _ (ai ((zw anL (om c k,((eZ c).getD a av).1) ⟨⟨by show fU ((eZ c).getD a av).1.length _;rw[hga.1];exact q1.2,by show fU ((eZ c).getD a av).1.length _;rw[hga.1];exact q2.2⟩,hto.1,hto.2.1⟩ (r:=bP (lX c ((eZ c).getD a av) k)) (by rw[←amT]))) (ei (()) (ei [] (ai (a4 (ai (fun _=>Or.inl rfl) (ai nof (Or.inl rfl)))) (ai (by exact (ai (ai (ai rfl (fun _ _=>rfl)) (ai (ai rfl (fun _ _=>rfl)) (ai (iE (by simp only[zz,reduceCtorEq];rfl)) (ai (iE (by simp only[zz,reduceCtorEq];rfl)) (ai rfl (fun _ _=>rfl)))))) (ai rfl (fun _ _=>rfl)))) (ai trivial (ai (trivial) ?_)))))))
   refine aZ (b:=lX c ((eZ c).getD a av) k) rfl (fun h4=>?_) (fun h4=>?_)
   ·have e:oL c (eZ c)=some (((eZ c).getD a av).2++[(k:Int)]):=by rw[hs,hd,oL,ahX hall h4 h3]
    refine ai (ai (aaI _) (iN (n:=(eZ c).length) (by omega))) (ai rfl ?_)
    refine ai (mxL (n:=0+((eZ c).getD a av).2.length) (by omega) (by decide)) (ai (fun _ _=>rfl) ?_)
    refine ai (mxL (n:=0+((eZ c).getD a av).2.length+1) (by omega) (by decide)) (ai (aH 1 rfl) ?_)
    refine ai (ai (fun h=>absurd (show false=true from h) (by decide)) ?_) trivial
    show ak _ (mX c)
    rw[mX,if_pos h1,e]
    refine (ai rfl (ai (ai ?_ ?_) rfl))
    ·rw[aaA];exact congrArg (·+1) (afG _)
    ·exact vY _ _
   refine ei (k+1) (ai (ai rfl rfl) (ai (ai (ai rfl (ai (ai rfl rfl) (ai (ai rfl rfl) (ai (ai (ai (fun _=>rfl) (aO (by omega))) rfl) trivial)))) rfl) (ai (ai (iL (by omega)) ?_) (iM (by omega)))))
   intro j hj
   by_cases ej:j=k
   ·subst ej;exact h4
   ·exact hall j (by omega)
  ·obtain rfl:k=c.trs.length:=by omega
   refine ei (a+1) (ai (ai rfl rfl) (ai (ai (ai rfl (ai (ai rfl rfl) (ai (ai rfl rfl) (ai (ai (ai (fun _=>rfl) (aO (by omega))) rfl) trivial)))) rfl) (ai (ai (iL (by omega)) ?_) (iM (by omega)))))
   rw[hs,hd,oL,adD hall]
 ·have e:oL c (eZ c)=none:=by rw[hs,arO (by omega)];rfl
  refine ai (ai (fun h=>absurd (show false=true from h) (by decide)) ?_) trivial
  show ak _ (mX c)
  rw[mX,if_pos h1,e]
  exact (ai rfl (ai rfl rfl))
theorem gq (x y:Int):(x<y∧fC x y=-1)∨(x=y∧fC x y=0)∨(y<x∧fC x y=1):=by
 unfold fC
 by_cases h1:x<y
 ·exact .inl ⟨h1,if_pos h1⟩
 ·by_cases h2:y<x
  ·exact .inr (.inr ⟨h2,by rw[if_neg h1,if_pos h2]⟩)
  ·exact .inr (.inl ⟨by omega,by rw[if_neg h1,if_neg h2]⟩)
theorem y7:∀a:List Int,cmpL a a=0
 | []=>rfl
 | x :: a=>by
  have h:fC x x=0:=by rcases gq x x with h | h | h<;>omega
  rw[cmpL,if_pos h,y7 a]
theorem sW:∀{a b:List Int},a.length=b.length→∀x y:Int,cmpL (a++[x]) (b++[y])=if cmpL a b=0 then fC x y else cmpL a b
 | [],[],_,x,y=>by
  show (if fC x y=0 then cmpL [] [] else fC x y)=_
  rw[if_pos (show cmpL [] []=0 from rfl)]
  split
  ·rename_i h;rw[h];rfl
  ·rfl
 | p :: a,q :: b,h,x,y=>by
  have ih:=sW (a:=a) (b:=b) (by simpa using h) x y
  show (if fC p q=0 then cmpL (a++[x]) (b++[y]) else fC p q)=_
  rw[ih]
  rw[show cmpL (p :: a) (q :: b)=if fC p q=0 then cmpL a b else fC p q from rfl]
  by_cases e:fC p q=0
  ·rw[if_pos e,if_pos e]
  ·rw[if_neg e,if_neg e,if_neg e]
 | [],_ :: _,h,_,_=>by simp at h
 | _ :: _,[],h,_,_=>by simp at h
theorem agJ:∀{a b:List Int},cmpL a b<0→0<cmpL b a
 | [],[],h=>by simp[cmpL] at h
 | [],_ :: _,_=>by show (0:Int)<1;decide
 | _ :: _,[],h=>by simp[cmpL] at h
 | p :: a,q :: b,h=>by
  rw[show cmpL (p :: a) (q :: b)=if fC p q=0 then cmpL a b else fC p q from rfl] at h
  rw[show cmpL (q :: b) (p :: a)=if fC q p=0 then cmpL b a else fC q p from rfl]
  rcases gq p q with ⟨h1,h2⟩ | ⟨h1,h2⟩ | ⟨h1,h2⟩
  ·rcases gq q p with ⟨g1,g2⟩ | ⟨g1,g2⟩ | ⟨g1,g2⟩
   ·omega
   ·omega
   ·rw[g2];simp
  ·rcases gq q p with ⟨g1,g2⟩ | ⟨g1,g2⟩ | ⟨g1,g2⟩
   ·omega
   ·rw[if_pos h2] at h;rw[if_pos g2];exact agJ h
   ·omega
  ·rw[h2] at h;simp at h
theorem acM:∀{a b c:List Int},cmpL a b<0→cmpL b c<0→cmpL a c<0
 | [],[],_,h,_=>by simp[cmpL] at h
 | [],_ :: _,[],_,h=>by simp[cmpL] at h
 | [],_ :: _,_ :: _,_,_=>by show (-1:Int)<0;decide
 | _ :: _,[],_,h,_=>by simp[cmpL] at h
 | _ :: _,_ :: _,[],_,h=>by simp[cmpL] at h
 | p :: a,q :: b,r :: c,h,k=>by
  rw[show cmpL (p :: a) (q :: b)=if fC p q=0 then cmpL a b else fC p q from rfl] at h
  rw[show cmpL (q :: b) (r :: c)=if fC q r=0 then cmpL b c else fC q r from rfl] at k
  rw[show cmpL (p :: a) (r :: c)=if fC p r=0 then cmpL a c else fC p r from rfl]
  rcases gq p q with ⟨h1,h2⟩ | ⟨h1,h2⟩ | ⟨h1,h2⟩
  ·rcases gq q r with ⟨g1,g2⟩ | ⟨g1,g2⟩ | ⟨g1,g2⟩
   ·rcases gq p r with ⟨f1,f2⟩ | ⟨f1,f2⟩ | ⟨f1,f2⟩<;>first | omega | (rw[f2];decide)
   ·rcases gq p r with ⟨f1,f2⟩ | ⟨f1,f2⟩ | ⟨f1,f2⟩<;>first | omega | (rw[f2];decide)
   ·rw[g2] at k;simp at k
  ·rcases gq q r with ⟨g1,g2⟩ | ⟨g1,g2⟩ | ⟨g1,g2⟩
   ·rcases gq p r with ⟨f1,f2⟩ | ⟨f1,f2⟩ | ⟨f1,f2⟩<;>first | omega | (rw[f2];decide)
   ·rcases gq p r with ⟨f1,f2⟩ | ⟨f1,f2⟩ | ⟨f1,f2⟩<;>try omega
    rw[if_pos h2] at h;rw[if_pos g2] at k;rw[if_pos f2];exact acM h k
   ·rw[g2] at k;simp at k
  ·rw[h2] at h;simp at h
def wlt (a b:List Int):Prop:=a.length<b.length∨(a.length=b.length∧cmpL a b<0)
theorem xJ {a b c:List Int} (h:wlt a b) (k:wlt b c):wlt a c:=by
 rcases h with h | ⟨h,h2⟩<;>rcases k with k | ⟨k,k2⟩
 ·exact .inl (by omega)
 ·exact .inl (by omega)
 ·exact .inl (by omega)
 ·exact .inr ⟨h.trans k,acM h2 k2⟩
theorem anK {a b:List Int} (h:wlt a b) (x y:Int):wlt (a++[x]) (b++[y]):=by
 rcases h with h | ⟨h,h2⟩
 ·exact .inl (by rw[aaA,aaA];simp;exact h)
 ·refine .inr ⟨by rw[aaA,aaA,h];rfl,?_⟩
  rw[sW h,if_neg (by omega)];exact h2
theorem amK (a:List Int) {x y:Int} (h:x<y):wlt (a++[x]) (a++[y]):=by
 refine .inr ⟨by rw[aaA,aaA];rfl,?_⟩
 rw[sW rfl,if_pos (y7 a)]
 rcases gq x y with ⟨_,e⟩ | ⟨e,_⟩ | ⟨e,_⟩
 ·rw[e];decide
 ·omega
 ·omega
def aa6 (l:List Mk):Prop:=l.Pairwise fun x y=>wlt x.2 y.2
def below (l:List Mk) (w:List Int):Prop:=∀y∈l,wlt y.2 w
theorem ahE {c:aS} {l:List Mk} {a:Nat} (ha:a<l.length) (ho:aa6 l) (hb:below l ((l.getD a av).2++[(0:Int)])):∀k:Nat,aa6 (bW c l a k)∧below (bW c l a k) ((l.getD a av).2++[(k:Int)])
 | 0=>⟨ho,hb⟩
 | k+1=>by
  obtain ⟨h1,h2⟩:=ahE (c:=c) ha ho hb k
  have hs:wlt ((l.getD a av).2++[(k:Int)]) ((l.getD a av).2++[((k+1:Nat):Int)]):=amK _ (by omega)
  show aa6 (gZ c (bW c l a k) a k)∧below (gZ c (bW c l a k) a k) _
  unfold gZ
  split
  ·have en:(aC c (bW c l a k) a k).2=(l.getD a av).2++[(k:Int)]:=by
    show ((bW c l a k).getD a av).2++[(k:Int)]=_
    rw[jd ha]
   refine ⟨asF.2 ⟨h1,List.pairwise_singleton ..,fun x hx y hy=>?_⟩,fun y hy=>?_⟩
   ·simp only[afq] at hy;subst hy;rw[en];exact h2 x hx
   ·rcases afA.1 hy with hy | hy
    ·exact xJ (h2 y hy) hs
    ·simp only[afq] at hy;subst hy;rw[en];exact hs
  ·exact ⟨h1,fun y hy=>xJ (h2 y hy) hs⟩
theorem ah2 {c:aS}:∀{f:Nat} {l r:List Mk} {a:Nat},aa6 l→(a<l.length→below l ((l.getD a av).2++[(0:Int)]))→mI c f l a=some r→aa6 r
 | 0,l,r,a,ho,_,h=>by obtain rfl:=Option.some.inj h;exact ho
 | f+1,l,r,a,ho,hb,h=>by
  unfold mI at h
  split at h
  ·obtain rfl:=Option.some.inj h;exact ho
  ·rename_i h1
   split at h
   ·cases h
   ·have ha:a<l.length:=by omega
    obtain ⟨g1,g2⟩:=ahE (c:=c) ha ho (hb ha) c.trs.length
    refine ah2 g1 (fun hlt y hy=>?_) h
    obtain ⟨t,ht⟩:=nY c l a c.trs.length
    refine xJ (g2 y hy) (anK ?_ _ _)
    rw[←jd (c:=c) ha c.trs.length]
    have h3:=ar6.1 g1 a (a+1) (by omega) hlt (by omega)
    rw[aaE,aaE,aaC hlt,aaC (show a<(bW c l a c.trs.length).length by omega)]
    exact h3
theorem aoK {c:aS} (h:ni c=0):aa6 (eZ c):=by
 refine ah2 (f:=16385) (a:=0) (l:=mk1 c) (List.pairwise_singleton ..) (fun _ y hy=>?_) (zl h).2
 simp only[mk1,afq] at hy;subst hy
 exact .inl (by show 0<1;decide)
theorem yO {c:aS} {y:Mk} {s:Bst}:∀{n:Nat},tT c y n=none→bX c y s n=s
 | 0,_=>rfl
 | n+1,h=>by
  rw[tT] at h
  split at h
  ·cases h
  ·rename_i e
   split at h
   ·cases h
   ·rename_i hb
    show gF c y (bX c y s n) n=s
    rw[yO e];unfold gF;rw[if_neg hb]
theorem aea {c:aS} {y:Mk} {k:Nat}:∀{n:Nat},tT c y n=some k→bX c y ([],false) n=(y.2++[(k:Int)],true)∧k<n
 | 0,h=>by cases h
 | n+1,h=>by
  rw[tT] at h
  show gF c y (bX c y ([],false) n) n=_∧_
  split at h
  ·rename_i j e
   obtain rfl:=Option.some.inj h
   obtain ⟨h1,h2⟩:=aea e
   refine ⟨?_,by omega⟩
   rw[h1]
   unfold gF
   split
   ·have:¬cmpL (y.2++[(n:Int)]) (y.2++[(j:Int)])<0:=by
     rw[sW rfl,if_pos (y7 _)]
     rcases gq (n:Int) (j:Int) with ⟨_,e⟩ | ⟨_,e⟩ | ⟨_,e⟩<;>omega
    rw[if_neg (by simp[this])]
   ·rfl
  ·rename_i e
   split at h
   ·rename_i hb
    obtain rfl:=Option.some.inj h
    refine ⟨?_,by omega⟩
    rw[yO e];unfold gF;rw[if_pos hb,if_pos (by rfl)]
   ·cases h
theorem adV {c:aS} {w:List Int} {x:Int}:∀{l:List Mk},(∀y∈l,wlt w y.2)→o8 c l (w++[x],true)=(w++[x],true)
 | [],_=>rfl
 | y :: l,h=>by
  rw[o8]
  split
  ·rfl
  ·rename_i hb
   have hlen:¬(w++[x]).length<y.2.length+1:=by simpa using hb
   rw[aaA] at hlen
   have hlen:¬w.length+1<y.2.length+1:=hlen
   have hc:w.length=y.2.length∧cmpL w y.2<0:=by
    rcases h y (anu ..) with h | h
    ·omega
    ·exact h
   have hrow:∀n,bX c y (w++[x],true) n=(w++[x],true):=by
    intro n
    induction n with
    | zero=>rfl
    | succ n ih=>
     show gF c y (bX c y (w++[x],true) n) n=_
     rw[ih]
     unfold gF
     split
     ·have h2:=agJ hc.2
      have:¬cmpL (y.2++[(n:Int)]) (w++[x])<0:=by
       rw[sW hc.1.symm,if_neg (by omega)];omega
      rw[if_neg (by simp[this])]
     ·rfl
   rw[hrow]
   exact adV fun y hy=>h y (anw _ hy)
theorem aep {c:aS}:∀{l:List Mk},aa6 l→o8 c l ([],false)=match oL c l with | some w=>(w,true) | none=>([],false)
 | [],_=>rfl
 | y :: l,h=>by
  obtain ⟨h1,h2⟩:=aso.1 h
  rw[o8,if_neg (by simp),oL]
  cases e:tT c y c.trs.length with
  | none=>rw[yO e];exact aep h2
  | some k=>rw[(aea e).1];exact adV h1
theorem amY (c:aS):sZ c=mX c:=by
 unfold sZ mX
 split
 ·rename_i h
  unfold pU
  rw[aep (aoK h)]
  cases oL c (eZ c)<;>rfl
 ·rfl
end Go.Sx.Pe
namespace Go.Proofs
open Go.Shelf
def Tryz.vO:Go.Shelf.Ren:=⟨fun | 6=>99 | 15=>153 | 14=>152 | 28=>192 | 29=>193 | 20=>184 | 21=>185 | 22=>186 | 23=>187 | 24=>188 | 25=>189 | 26=>190 | 27=>191 | 46=>210 | 47=>211 | 48=>212 | 49=>213 | 50=>214 | 57=>225 | n=>n,fun | 22=>62 | 24=>72 | 25=>169 | 3=>3 | 39=>214 | 0=>0 | 53=>250 | 55=>252 | 4=>4 | 46=>244 | 45=>243 | 50=>101 | 5=>5 | 9=>9 | 66=>265 | 70=>269 | 76=>282 | 77=>283 | n=>n,fun | n=>n⟩
theorem Tryz.als : Go.Proofs.SlLaysF.n6 Tryz.prog Tryz.vO := {
  mixed := by kernel_rfl
  f6 := ⟨Tryz.f99.name, by decide, Tryz.func99.trans (congrArg some (by kernel_rfl))⟩
  f14 := ⟨Tryz.f152.name, by decide, Tryz.func152.trans (congrArg some (by kernel_rfl))⟩
  f15 := Tryz.func153.trans (congrArg some (by kernel_rfl))
  f20 := ⟨Tryz.f184.name, by decide, Tryz.func184.trans (congrArg some (by kernel_rfl))⟩
  f21 := ⟨Tryz.f185.name, by decide, Tryz.func185.trans (congrArg some (by kernel_rfl))⟩
  f22 := ⟨Tryz.f186.name, by decide, Tryz.func186.trans (congrArg some (by kernel_rfl))⟩
  f23 := ⟨Tryz.f187.name, by decide, Tryz.func187.trans (congrArg some (by kernel_rfl))⟩
  f24 := ⟨Tryz.f188.name, by decide, Tryz.func188.trans (congrArg some (by kernel_rfl))⟩
  f25 := ⟨Tryz.f189.name, by decide, Tryz.func189.trans (congrArg some (by kernel_rfl))⟩
  f26 := ⟨Tryz.f190.name, by decide, Tryz.func190.trans (congrArg some (by kernel_rfl))⟩
  f27 := ⟨Tryz.f191.name, by decide, Tryz.func191.trans (congrArg some (by kernel_rfl))⟩
  f28 := Tryz.func192.trans (congrArg some (by kernel_rfl))
  f29 := Tryz.func193.trans (congrArg some (by kernel_rfl))
  f46 := ⟨Tryz.f210.name, by decide, Tryz.func210.trans (congrArg some (by kernel_rfl))⟩
  f47 := Tryz.func211.trans (congrArg some (by kernel_rfl))
  f48 := Tryz.func212.trans (congrArg some (by kernel_rfl))
  f49 := ⟨Tryz.f213.name, by decide, Tryz.func213.trans (congrArg some (by kernel_rfl))⟩
  f50 := ⟨Tryz.f214.name, by decide, Tryz.func214.trans (congrArg some (by kernel_rfl))⟩
  f57 := ⟨Tryz.f225.name, by decide, Tryz.func225.trans (congrArg some (by kernel_rfl))⟩
  t0 := Tryz.underlying0
  a0 := Tryz.isAgg0
  z0 := Tryz.sizeOf0
  v0 := Tryz.zeroValue0
  t3 := Tryz.underlying3
  a3 := Tryz.isAgg3
  z3 := Tryz.sizeOf3
  v3 := Tryz.zeroValue3
  t4 := Tryz.underlying4
  a4 := Tryz.isAgg4
  z4 := Tryz.sizeOf4
  v4 := Tryz.zeroValue4
  t5 := Tryz.underlying5
  a5 := Tryz.isAgg5
  z5 := Tryz.sizeOf5
  v5 := Tryz.zeroValue5
  t9 := Tryz.underlying9
  a9 := Tryz.isAgg9
  z9 := Tryz.sizeOf9
  v9 := Tryz.zeroValue9
  t22 := Tryz.underlying62
  a22 := Tryz.isAgg62
  z22 := Tryz.sizeOf62
  v22 := Tryz.zeroValue62
  a24 := Tryz.isAgg72
  z24 := Tryz.sizeOf72
  t25 := Tryz.underlying169
  a25 := Tryz.isAgg169
  z25 := Tryz.sizeOf169
  v25 := Tryz.zeroValue169
  t39 := Tryz.underlying214
  a39 := Tryz.isAgg214
  z39 := Tryz.sizeOf214
  v39 := Tryz.zeroValue214
  t45 := Tryz.underlying243
  a45 := Tryz.isAgg243
  z45 := Tryz.sizeOf243
  v45 := Tryz.zeroValue243
  t46 := Tryz.underlying244
  a46 := Tryz.isAgg244
  z46 := Tryz.sizeOf244
  v46 := Tryz.zeroValue244
  t50 := Tryz.underlying101
  a50 := Tryz.isAgg101
  z50 := Tryz.sizeOf101
  v50 := Tryz.zeroValue101
  t53 := Tryz.underlying250
  a53 := Tryz.isAgg250
  z53 := Tryz.sizeOf250
  v53 := Tryz.zeroValue250
  t55 := Tryz.underlying252
  a55 := Tryz.isAgg252
  z55 := Tryz.sizeOf252
  v55 := Tryz.zeroValue252
  t66 := Tryz.underlying265
  a66 := Tryz.isAgg265
  z66 := Tryz.sizeOf265
  v66 := Tryz.zeroValue265
  t70 := Tryz.underlying269
  a70 := Tryz.isAgg269
  z70 := Tryz.sizeOf269
  v70 := Tryz.zeroValue269
  t76 := Tryz.underlying282
  a76 := Tryz.isAgg282
  z76 := Tryz.sizeOf282
  v76 := Tryz.zeroValue282
  t77 := Tryz.underlying283
  a77 := Tryz.isAgg283
  z77 := Tryz.sizeOf283
  v77 := Tryz.zeroValue283 }
end Go.Proofs
namespace Go.Sx.Pe
open Go Go.Proofs Go.Sx.Pn Go.RowKit Go.Shelf
def BS (w:World) (v:Value) (l:List Bool):Prop:=∃p c,v=.slice p l.length c∧∀k,k<l.length→∃bb o,p=some ⟨bb,o,none⟩∧w.cell? ⟨bb,o+k,none⟩=some (.bool (l.getD k false))
theorem ahj (a b:List Bool) (v1 v2:Value) (w:World) (hab:a.length=b.length) (hl:a.length≤1000000) (h1:BS w v1 a) (h2:BS w v2 b) :
  Calls Tryz.prog 100 #[v1,v2] w fun e w'=>e=.returned (.int .i64 (gQ a b))∧w'=w:=by
 obtain ⟨p1,c1,rfl,g1⟩:=h1
 obtain ⟨p2,c2,rfl,g2⟩:=h2
 rw[←hab] at g2 ⊢
 have g1:=Lib.hid g1
 have g2:=Lib.hid g2
 go_enter Tryz.func100,Tryz.ntmps100
 go_wp2_with (fail)
 go_loop [9] (fun i=>∃k:Nat,k≤a.length∧i=.int .i64 k∧a.take k=b.take k) (fun i=>a.length-(Proofs.intOf i).toNat)
 case atStart=>exact ⟨0,abY _,rfl,rfl⟩
 case round=>
  obtain ⟨k,hk,rfl,hall⟩:=hrel
  have hall:=Lib.hid hall
  by_cases hlt:k<a.length
  ·obtain ⟨x1,o1,rfl,e1⟩:=g1.out k hlt
   obtain ⟨x2,o2,hp2,e2⟩:=g2.out k hlt
   have he:=Lib.hid (anS hab hlt hall.out)
   have hs:=Lib.hid (aal false hlt (by omega) hall.out)
   obtain ⟨ba,hba⟩:∃x,a.getD k false=x:=⟨_,rfl⟩
   obtain ⟨bb,hbb⟩:∃x,b.getD k false=x:=⟨_,rfl⟩
   rw[hba] at e1
   rw[hbb] at e2
   replace hba:=Lib.hid hba
   replace hbb:=Lib.hid hbb
   subst hp2
   cases ba<;>cases bb
   ·go_wp2_with (fail)
    go_round
    case rel=>exact ⟨k+1,by omega,by go_num,hs.out (hba.out.trans hbb.out.symm)⟩
    case measure=>simp[Proofs.intOf];omega
   ·have hr:gQ a b=-1:=by rw[he.out (by rw[hba.out,hbb.out];decide),hbb.out];rfl
    have hr:=Lib.hid hr
    go_wp2_with (fail)
    go_ret
    exact ⟨by first | rfl | (rw[hr.out];rfl),rfl⟩
   ·have hr:gQ a b=1:=by rw[he.out (by rw[hba.out,hbb.out];decide),hbb.out];rfl
    have hr:=Lib.hid hr
    go_wp2_with (fail)
    go_ret
    exact ⟨by first | rfl | (rw[hr.out];rfl),rfl⟩
   ·go_wp2_with (fail)
    go_round
    case rel=>exact ⟨k+1,by omega,by go_num,hs.out (hba.out.trans hbb.out.symm)⟩
    case measure=>simp[Proofs.intOf];omega
  ·obtain rfl:k=a.length:=by omega
   have hr:gQ a b=0:=ahZ (by have:=hall.out;rw[afj,hab,afj] at this;exact this)
   have hr:=Lib.hid hr
   go_wp2_with (fail)
   go_ret
   exact ⟨by first | rfl | (rw[hr.out];rfl),rfl⟩
end Go.Sx.Pe
namespace Go.Sx.Pe
open Go Go.Proofs Go.Sx.Pn
theorem xM:∀a b:List Bool,gQ b a=-gQ a b
 | [],[]=>rfl
 | [],_ :: _=>rfl
 | _ :: _,[]=>rfl
 | x :: a,y :: b=>by
  have ih:=xM a b
  cases x<;>cases y<;>simp[gQ,ih]
theorem aer:∀{a b:List Bool},a.length=b.length→gQ a b=0→a=b
 | [],[],_,_=>rfl
 | [],_ :: _,h,_=>by simp at h
 | _ :: _,[],h,_=>by simp at h
 | x :: a,y :: b,h,e=>by
  have ih:=aer (a:=a) (b:=b) (by simpa using h)
  cases x<;>cases y<;>simp[gQ] at e<;>rw[ih e]
theorem wV:∀{a b c:List Bool},a.length=b.length→b.length=c.length→gQ a b<0→gQ b c<0→gQ a c<0
 | [],[],_,_,_,h,_=>by simp[gQ] at h
 | [],_ :: _,_,h,_,_,_=>by simp at h
 | _ :: _,[],_,h,_,_,_=>by simp at h
 | _ :: _,_ :: _,[],_,h,_,_=>by simp at h
 | x :: a,y :: b,z :: c,h1,h2,h,k=>by
  have ih:=wV (a:=a) (b:=b) (c:=c) (by simpa using h1) (by simpa using h2)
  cases x<;>cases y<;>cases z<;>simp[gQ] at h k ⊢<;>exact ih h k
def oC (a b:List Bool):Prop:=gQ a b<0
theorem ahL {n:Nat} {a b:List Bool} (ha:a.length=n) (hb:b.length=n) (h:¬oC a b):oC b a∨a=b:=by
 unfold oC at *
 by_cases e:gQ a b=0
 ·exact .inr (aer (ha.trans hb.symm) e)
 ·left;rw[xM a b];omega
theorem aiR (a:List Bool):¬oC a a:=by unfold oC;rw[ahZ rfl];decide
theorem ajW {a b:List Bool} (h:oC a b):¬oC b a:=by unfold oC at *;rw[xM a b];omega
theorem acf {n:Nat} {a b c:List Bool} (ha:a.length=n) (hb:b.length=n) (hc:c.length=n) (h:¬oC a b) (k:¬oC b c):¬oC a c:=by
 intro h3
 rcases ahL ha hb h with h | rfl
 ·exact k (wV (hb.trans ha.symm) (ha.trans hc.symm) h h3)
 ·exact k h3
theorem afC (a b:List Bool):al3 a b=true↔oC a b:=by
 unfold al3 oC
 rw[beq_iff_eq]
 have:gQ a b=-1∨gQ a b=0∨gQ a b=1:=by
  induction a generalizing b with
  | nil=>exact .inr (.inl (by cases b<;>rfl))
  | cons x a ih=>
   cases b with
   | nil=>exact .inr (.inl rfl)
   | cons y b=>
    rw[gQ]
    split
    ·exact ih b
    ·split
     ·exact .inl rfl
     ·exact .inr (.inr rfl)
 omega
def posR (A:List (List Bool)) (x:List Bool):Nat→Nat
 | 0=>0
 | k+1=>if al3 x (A.getD k []) then posR A x k else k+1
def rowAt (A:List (List Bool)) (x:List Bool) (k:Nat):List (List Bool):=A.take k++x :: A.drop k
def ajp (A:List (List Bool)) (x:List Bool):List (List Bool):=rowAt A x (posR A x A.length)
def nu (l:List (List Bool)):List (List Bool):=l.foldl ajp []
theorem ad8 (l:List (List Bool)) (x:List Bool):nu (l++[x])=ajp (nu l) x:=by unfold nu;rw[aq6];rfl
theorem aiY (A:List (List Bool)) (x:List Bool) (k:Nat):(rowAt A x k).Perm (x :: A):=by
 unfold rowAt
 refine List.perm_middle.trans ?_
 rw[arQ]
theorem afi {α:Type} {p:List α→Prop} (h0:p []) (hs:∀l x,p l→p (l++[x])) (l:List α):p l:=by
 rw[←List.reverse_reverse l]
 induction l.reverse with
 | nil=>exact h0
 | cons x l ih=>rw[List.reverse_cons];exact hs _ _ ih
theorem ad5 (l:List (List Bool)):(nu l).Perm l:=by
 refine afi (p:=fun l=>(nu l).Perm l) .nil (fun l x ih=>?_) l
 rw[ad8]
 refine (aiY _ _ _).trans ?_
 refine (ih.cons x).trans ?_
 exact (List.perm_append_singleton x l).symm
def yt (l:List (List Bool)):Prop:=l.Pairwise fun a b=>¬oC b a
theorem ahQ (A:List (List Bool)) (x:List Bool):∀k,posR A x k≤k
 | 0=>aff _
 | k+1=>by
  rw[posR];split
  ·have:=ahQ A x k;omega
  ·exact aff _
theorem ahK (A:List (List Bool)) (x:List Bool):∀k j,posR A x k≤j→j<k→oC x (A.getD j [])
 | 0,j,_,h=>by omega
 | k+1,j,h1,h2=>by
  rw[posR] at h1
  split at h1
  ·rename_i h
   by_cases e:j=k
   ·subst e;exact (afC _ _).1 h
   ·exact ahK A x k j h1 (by omega)
  ·omega
theorem aiH (A:List (List Bool)) (x:List Bool):∀k,0<posR A x k→¬oC x (A.getD (posR A x k-1) [])
 | 0,h=>by simp[posR] at h
 | k+1,h=>by
  rw[posR] at h ⊢
  split
  ·rename_i hb;rw[if_pos hb] at h;exact aiH A x k h
  ·rename_i hb
   exact fun hl=>hb ((afC _ _).2 hl)
theorem amo {n:Nat} {A:List (List Bool)} {x:List Bool} (hx:x.length=n) (hA:∀y∈A,y.length=n) (h:yt A):yt (ajp A x):=by
 have hp:=ahQ A x A.length
 have hlo:=aiH A x A.length
 have hhi:=ahK A x A.length
 unfold ajp rowAt
 generalize posR A x A.length=p at *
 have hs:yt (A.take p++A.drop p):=by rw[arQ];exact h
 obtain ⟨s1,s2,s3⟩:=asF.1 hs
 have hd:∀y∈A.drop p,oC x y:=fun y hy=>by
  obtain ⟨i,hi,rfl⟩:=apr hy
  rw[apA] at hi
  have:=hhi (p+i) (by omega) (by omega)
  rw[List.getElem_drop]
  rwa [aaE,aaC (by omega)] at this
 have ht:∀y∈A.take p,¬oC x y:=fun y hy=>by
  obtain ⟨i,hi,rfl⟩:=apr hy
  rw[aiq] at hi
  rw[List.getElem_take]
  have h0:=hlo (by omega)
  rw[aaE,aaC (by omega)] at h0
  by_cases e:i=p-1
  ·subst e;exact h0
  ·have h1:=ar6.1 h i (p-1) (by omega) (by omega) (by omega)
   exact acf hx (hA _ (ar2 _)) (hA _ (ar2 _)) h0 h1
 refine asF.2 ⟨s1,aso.2 ⟨fun y hy=>ajW (hd y hy),s2⟩,fun a ha b hb=>?_⟩
 rcases aia.1 hb with rfl | hb
 ·exact ht a ha
 ·exact s3 a ha b hb
theorem alR {n:Nat} {l:List (List Bool)} (hl:∀y∈l,y.length=n):yt (nu l):=by
 refine afi (p:=fun l=>(∀y∈l,y.length=n)→yt (nu l)) (fun _=>List.Pairwise.nil) (fun l x ih hl=>?_) l hl
 rw[ad8]
 refine amo (n:=n) (hl x (by simp)) (fun y hy=>hl y ?_) (ih fun y hy=>hl y (by simp[hy]))
 have:=(ad5 l).mem_iff.1 hy
 simp[this]
theorem ab6 {n:Nat}:∀{a b:List (List Bool)},a.Perm b→(∀y∈a,y.length=n)→yt a→yt b→a=b
 | [],b,h,_,_,_=>by rw[List.nil_perm.1 h]
 | x :: a,[],h,_,_,_=>by have:=h.length_eq;simp at this
 | x :: a,y :: b,h,hn,ha,hb=>by
  obtain ⟨a1,a2⟩:=aso.1 ha
  obtain ⟨b1,b2⟩:=aso.1 hb
  have e:x=y:=by
   rcases aia.1 (h.mem_iff.1 (anu ..)) with e | hx
   ·exact e
   ·rcases aia.1 (h.mem_iff.2 (anu ..)) with e | hy
    ·exact e.symm
    ·have h1:=b1 x hx
     have h2:=a1 y hy
     rcases ahL (n:=n) (hn x (anu ..)) (hn y (anw _ hy)) h1 with h3 | h3
     ·exact absurd h3 h2
     ·exact h3
  subst e
  rw[ab6 ((List.perm_cons x).1 h) (fun y hy=>hn y (anw _ hy)) a2 b2]
end Go.Sx.Pe
namespace Go.Sx.Pe
open Go Go.Proofs Go.Sx.Pn Go.RowKit Go.Sort
theorem anz {E:Env} {W:World} (hm:acL E.mem W) {v:Value} {l:List Bool} (h:aN E.mem v (lN l)):BS W v l:=by
 unfold lN at h
 cases hl:l with
 | nil=>
  subst hl
  cases h with
  | nil=>exact ⟨none,0,rfl,fun k hk=>absurd hk (akN _)⟩
  | emp a cap=>exact ⟨_,_,rfl,fun k hk=>absurd hk (akN _)⟩
  | seq b o n cap sz f cs u hm' hcap hmax hl' hc he=>exact ⟨_,_,rfl,fun k hk=>absurd hk (akN _)⟩
 | cons x t=>
  rw[←hl]
  have hpos:0<l.length:=by rw[hl];simp
  generalize hn:l.length=n at h hpos
  cases h with
  | nil=>exact absurd hpos (Nat.lt_irrefl _)
  | emp a cap=>exact absurd hpos (Nat.lt_irrefl _)
  | seq b o _ cap sz f cs u hm' hcap hmax hl' hc he=>
   refine ⟨some ⟨b,o,none⟩,cap,by rw[hn],fun k hk=>⟨b,o,rfl,?_⟩⟩
   have hk:k<n:=by omega
   obtain ⟨T,fr,hw⟩:=hm _ _ hm'
   have hs:sz=1:=(hl' k hk).symm
   subst hs
   have h1:=hc k 0 _ hk rfl
   have h2:=he k 0 _ hk rfl
   rw[h2.aK,anD,aq1] at h1
   simp only[World.cell?,hw]
   exact h1.1
def rz (l:List (List Bool)):Ob:=.row 72 1 l.length (fun k=>[lN (l.getD k [])])
def aqg (n:Nat) (l:List (List Bool)):Prop:=l.length≤1000000000∧∀x∈l,x.length=n
def anZ (n:Nat):Spec:={ A:=List (List Bool),args:=fun _=>[.row 0,.fn 100 []],objs:=fun l=>[rz l],pre:=aqg n,res:=fun _=>.tup [],objs':=fun l=>[rz (nu l)],fresh:=true,ro:=0 }
theorem ak6 (n : Nat) (hn : n ≤ 1000000) : aL Tryz.prog 99 (anZ n) := by
  refine ⟨⟨Tryz.f99, Tryz.func99, rfl, rfl⟩, fun (l : List (List Bool)) hpre E vs w _ hh hA => ?_⟩
  obtain ⟨hbig, hlen⟩ := hpre
  have hbig : l.length ≤ 1000000000 := hbig
  have hob : (iB [rz l]).obj 0 = some (.row 72 1 l.length (fun k => [lN (l.getD k [])])) := rfl
  obtain ⟨hs1, hs2⟩ := hA
  obtain ⟨v, fv, rfl⟩ : ∃ v fv, vs = #[v, fv] := by
    have h1 : vs.size = 2 := hs1
    exact ⟨vs[0]'(by omega), vs[1]'(by omega), by
      apply Array.ext
      · simp [h1]
      · intro i hi hi2
        match i, hi2 with
        | 0, _ => rfl
        | 1, _ => rfl⟩
  have hv := hs2 0 v (.row 0) rfl rfl
  have hf := hs2 1 fv (.fn 100 []) rfl rfl
  obtain rfl : fv = .func (.func 100) #[] #[] := by
    cases hf with
    | fn _ us _ hl he => 
      have : us = #[] := Array.eq_empty_of_size_eq_zero (by simpa using hl)
      rw [this]
  have hR := hh.ob 0 _ hob
  have hrep := hR
  cases hv with
  | row _ _ hd0 hsl =>
  cases hR with
  | row _ _ _ _ v' xs u hhd hw hmax hl hc he =>
  rw [hd0] at hhd
  obtain rfl := Option.some.inj hhd
  have hnone : ∀ (p : Option Addr) (cap : Nat), Calls Tryz.prog 99 #[.slice p 0 cap, .func (.func 100) #[] #[]] w fun e w' => e = .returned (.tuple #[]) ∧ w' = w := fun p cap =>
    AnyF.slices_SortFunc_none (P := Tryz.prog) (ρ := Tryz.vO) { Tryz.als with } p cap _ w
  by_cases h0 : l = []
  · subst h0
    have hw2 := hw.2
    obtain ⟨p, cap, rfl⟩ : ∃ p cap, v = .slice p 0 cap := by
      rcases hw2 with ⟨rfl, _⟩ | ⟨g, cap, cur, rfl, _⟩
      · exact ⟨_, _, rfl⟩
      · exact ⟨_, _, rfl⟩
    refine (hnone p cap).mono ?_
    rintro e w' ⟨rfl, rfl⟩
    exact ⟨.tuple #[], E, rfl, .tup _ _ rfl (fun k u s hu => by simp at hu), hh⟩
  have hpos : 0 < l.length := asi.2 h0
  rcases hw.2 with ⟨rfl, hn0⟩ | ⟨g, cap, cur, rfl, _⟩
  · exact absurd hn0 (by omega)
  obtain ⟨_, cur, u', hA⟩ := hrep.jd hd0
  -- the elements, with what they stand for
  let α : Type := { p : Value × List Bool // p.2.length = n ∧ p.1.oneCell' = true ∧ aN E.mem p.1 (lN p.2) }
  have hel : ∀ j, j < l.length → cur[j]? = some (u' j 0) ∧ (u' j 0).oneCell' = true ∧ aN E.mem (u' j 0) (lN (l.getD j [])) := fun j hj => by
    have c1 := hA.hc j 0 (lN (l.getD j [])) hj rfl
    have c2 := hA.he j 0 (lN (l.getD j [])) hj rfl
    rw [anD, aq1] at c1
    exact ⟨c1.1, c1.2, c2⟩
  have mem : ∀ j, j < l.length → (l.getD j []).length = n := fun j hj => hlen _ (aaS (bH [] hj))
  let el : Fin l.length → α := fun j => ⟨(u' j 0, l.getD j []), mem j j.2, (hel j j.2).2.1, (hel j j.2).2.2⟩
  haveI : Inhabited α := ⟨el ⟨0, hpos⟩⟩
  let enc : α → Value := fun x => x.1.1
  have h1 : ∀ a, (enc a).oneCell' = true := fun a => a.2.2.1
  let d : Array α := Array.ofFn el
  have hds : d.size = l.length := Array.size_ofFn
  have hdat : ∀ j (hj : j < l.length), d[j]! = el ⟨j, hj⟩ := fun j hj => by
    rw [getElem!_pos d j (by rw [hds]; exact hj)]
    simp [d]
  let cf : α → α → Int := fun x y => gQ x.1.2 y.1.2
  have hlt : ∀ x y : α, ltOf cf x y = true ↔ oC x.1.2 y.1.2 := fun x y => by
    show decide (gQ x.1.2 y.1.2 < 0) = true ↔ _
    rw [decide_eq_true_iff]; rfl
  have hltf : ∀ x y : α, ltOf cf x y = false ↔ ¬ oC x.1.2 y.1.2 := fun x y => by rw [← hlt, Bool.not_eq_true]
  have hO : SWO (ltOf cf) := {
    irrefl := fun x => (hltf x x).2 (aiR _)
    trans := fun x y z h k => (hlt x z).2 (wV (x.2.1.trans y.2.1.symm) (y.2.1.trans z.2.1.symm) ((hlt x y).1 h) ((hlt y z).1 k))
    ntrans := fun x y z h k => (hltf x z).2 (acf x.2.1 y.2.1 z.2.1 ((hltf x y).1 h) ((hltf y z).1 k)) }
  have hg : g < w.heap.size := (aaN.1 hA.heap).1
  have hnc := hA.hn
  have hsz := hA.size
  -- the world with another order
  have hW : ∀ (m : Nat) (os : Array Obj) (dk : Array α), dk.size = l.length → bn (jU w E [rz l] 0) E ((iB [rz l]).bY 0 (some (rz (dk.toList.map fun x => x.1.2)))) (sortWorld enc w g 0 m dk os) := by
    intro m os dk hdk
    have hw1 : (putRow enc (Sort.ahead w m) g 0 dk).heap[g]? = some (.cells (putCells enc 0 dk cur) 72 (0, 0)) := by
      show (w.heap.modify g (onCells _))[g]? = _
      rw [apR, if_pos rfl, hA.heap]; rfl
    have hw2 : ∀ k, k ≠ g → (putRow enc (Sort.ahead w m) g 0 dk).heap[k]? = w.heap[k]? := fun k hk => by
      show (w.heap.modify g (onCells _))[k]? = _
      rw [apR, if_neg fun e => hk e.symm]
    have hbang : ∀ k, k < l.length → (dk.toList.map fun x : α => x.1.2).getD k [] = (dk[k]!).1.2 := fun k hk => by
      rw [aaE, ait, adR, abJ (by omega), getElem!_pos dk k (by omega)]; rfl
    have hlm : (dk.toList.map fun x : α => x.1.2).length = l.length := by rw [anq, ak5, hdk]
    have hat : ∀ j, j < l.length → (putCells enc 0 dk cur)[j]? = some (enc dk[j]!) := fun j hj => by
      rw [ahw, if_pos (by omega), if_pos (by omega)]
    have hh2 : bn (jU w E [rz l] 0) E ((iB [rz l]).bY 0 (some (rz (dk.toList.map fun x => x.1.2)))) (putRow enc (Sort.ahead w m) g 0 dk) := by
      refine hh.write (i := 0) (b := g) hob (by simp [Env.blk, hd0, aF]) (aff _)
        (.row 72 1 _ _ _ ((putCells enc 0 dk cur).toList.take (l.length * 1)) (fun j _ => enc dk[j]!) hd0 ?_ (by rw [hlm]; exact hA.hmax) (fun j _ => rfl) ?_ ?_) rfl rfl rfl (by simp) hw2
      · rw [hlm]
        refine ⟨?_, .inr ⟨g, cap, _, rfl, abY _, hw1, hA.hn, hA.hcap, by rw [w9]; exact hA.size, rfl⟩⟩
        have h3 : (putCells enc 0 dk cur).toList.length = cap * 1 := by rw [ak5, w9]; exact hA.size
        rw [aiq, h3]
        omega
      · intro j k s hj hs
        rw [hlm] at hj
        have hk : k = 0 := by
          have := (aaM.1 hs).1
          simpa using this
        subst hk
        rw [akd, if_pos (by omega), adR, anD, aq1]
        exact ⟨hat j hj, h1 _⟩
      · intro j k s hj hs
        rw [hlm] at hj
        have hk : k = 0 := by
          have := (aaM.1 hs).1
          simpa using this
        subst hk
        simp only [asr, Option.some.injEq] at hs
        subst hs
        rw [hbang j hj]
        exact (dk[j]!).2.2.2
    exact hh2.below (w' := sortWorld enc w g 0 m dk os) ⟨rfl, rfl, rfl, by simp [sortWorld], fun k hk => by
      show (_ ++ os)[k]? = _
      rw [ana hk]⟩
  have hcmp : CmpLays1 Tryz.prog 100 #[] enc cf g 0 d.size w := CmpReads.lays fun m os dk hdk x y => by
    have hm := (hW m os dk (by rw [hdk, hds])).mem
    refine (ahj x.1.2 y.1.2 x.1.1 y.1.1 _ (x.2.1.trans y.2.1.symm) (by rw [x.2.1]; exact hn) (anz hm x.2.2.2) (anz hm y.2.2.2)).mono ?_
    rintro e w' ⟨rfl, rfl⟩
    exact ⟨rfl, 0, rfl⟩
  have hH : Holds enc w g 0 d := fun j hj => by
    have hj : j < l.length := by omega
    refine ⟨?_, ?_⟩
    · simp only [World.cell?, hA.heap, afG]
      rw [hdat j hj]; exact (hel j hj).1
    · simp [World.frozen?, hA.heap]
  have hsort := Any.slices_SortFunc (P := Tryz.prog) (ρ := Tryz.vO) Tryz.als enc h1 cf hO 100 #[] g 0 cap d w (enters_of Tryz.func100 (by kernel_rfl) rfl) hcmp hH hg (by omega)
  rw [hds] at hsort
  refine Calls.mono hsort ?_
  rintro e w' ⟨rfl, d', m, os, hp, hs, rfl⟩
  have hd's : d'.size = l.length := hp.1.trans hds
  have hl' : (d'.toList.map fun x : α => x.1.2) = nu l := by
    have hpd : d'.toList.Perm d.toList := by
      have := hp.2.2
      rwa [show d'.extract 0 l.length = d' by rw [← hd's]; simp, show d.extract 0 l.length = d by rw [← hds]; simp] at this
    have hdl : (d.toList.map fun x : α => x.1.2) = l := by
      apply List.ext_getElem?
      intro k
      rw [ait, adR]
      by_cases hk : k < l.length
      · rw [abJ (by omega), aaC hk]
        simp only [d, Array.getElem_ofFn, ane, Option.some.injEq]
        show l.getD k [] = _
        rw [aaE, aaC hk]; rfl
      · rw [am9 (by omega), aqY (by omega)]; rfl
    have hperm : (d'.toList.map fun x : α => x.1.2).Perm l := by
      have := hpd.map fun x : α => x.1.2
      rwa [hdl] at this
    refine ab6 (n := n) (hperm.trans (ad5 l).symm) (fun y hy => hlen y (hperm.mem_iff.1 hy)) ?_ (alR hlen)
    unfold yt
    rw [List.pairwise_map, ar6]
    intro i j hi hj hij
    have hi : i < d'.size := by simpa using hi
    have hj : j < d'.size := by simpa using hj
    have := hs i j (abY _) hij (by omega)
    rw [hltf, getElem!_pos d' i hi, getElem!_pos d' j hj] at this
    exact this
  have hfin := hW m os d' hd's
  rw [hl'] at hfin
  refine ⟨.tuple #[], E, rfl, .tup _ _ rfl (fun k u s hu => by simp at hu), ?_⟩
  have key : ∀ (st : St), (∀ i o, st.obj i = some o → ((iB [rz l]).bY 0 (some (rz (nu l)))).obj i = some o) → st.no = 1 → st.k = none → bn (jU w E [rz l] 0) E st (sortWorld enc w g 0 m d' os) := fun st ho hno hk => by
    have hkk := hfin.kk
    exact ⟨fun i o h => hfin.ob i o (ho i o h), fun i j o o' b h1 h2 => hfin.sep i j o o' b (ho i o h1) (ho j o' h2), fun i o b h => hfin.own i o b (ho i o h), hfin.mem, hfin.mem0, hfin.memnew, fun i hi => hfin.new i (by rw [hno] at hi; exact hi), hfin.base, hfin.fr, hfin.hd0, by rw [hno]; exact hfin.mno, hfin.mkh, by rw [hk]; exact hkk⟩
  refine key _ (fun i o ho => ?_) rfl rfl
  have e1 : St.obj ⟨[], [(0, some (rz (nu l)))], 1, none⟩ i = some o := ho
  rw [kJ (no := 1) (c := none)] at e1
  have e2 := kJ (iB [rz l]).fr (iB [rz l]).ob 1 1 (c := none) (c' := none) 0 (some (rz (nu l))) i
  refine Eq.trans e2 ?_
  by_cases hi : 0 = i
  · rw [if_pos hi] at e1 ⊢; exact e1
  · rw [if_neg hi] at e1
    simp [St.obj, look] at e1
end Go.Sx.Pe
namespace Go.Sx.Pe
open Go Go.Proofs Go.Sx.Pn
def bbP (l:List (List Bool)):PV:=.seq l.length (fun k=>[lN (l.getD k [])])
def bbR (l:List (List Bool)):LV:=.rw 72 1 l.length (fun k=>[lN (l.getD k [])])
def mE (c:aS):List (List Bool):=(eZ c).map (·.1)
def qj (c:aS):PV:=.tup [bbP (nu (mE c)),iP (ni c)]
theorem anN (a:List (List Bool)) (x:List Bool):∀k,k<a.length+1→bN a.length (fun k=>[lN (a.getD k [])]) (bg 1 [lN x]) k=[lN ((a++[x]).getD k [])]:=by
 intro k hk
 unfold bN
 by_cases h:k<a.length
 ·rw[if_pos h]
  show [lN (a.getD k [])]=_
  rw[aaE,aaE,aee h]
 ·obtain rfl:k=a.length:=by omega
  rw[if_neg h,aqX,aaE,aeD (aff _),aqX];rfl
theorem alP:aL Tryz.prog 98 (bQ (fun a:aS×List Bool=>[jH a.1,uG a.2]) (fun a=>a.1.sts.length≤24∧a.2.length=a.1.sts.length) (fun a=>lN a.2)):=by
 refine ⟨ah3.1,fun ⟨c,m⟩ hp E vs w hg hh hA=>?_⟩
 obtain ⟨h1,h2⟩:=hp
 have h1:c.sts.length≤24:=h1
 have h2:m.length=c.sts.length:=h2
 have e1:uG (cK m)=uG m:=by unfold uG tZ;rw[aaq]
 have key:=ah3.2 (c,cK m) ⟨h1,nX (by omega)⟩ E vs w hg hh (by
  show jN E vs [jH c,uG (cK m)]
  rw[e1];exact hA)
 refine key.mono fun e w' ⟨v,E',h3,h4,h5⟩=>⟨v,E',h3,?_,h5⟩
 have e2:(cK m).take c.sts.length=m:=by unfold cK;rw[←h2,List.take_left'];rfl
 show aN _ v (lN m)
 rw[←e2];exact h4
theorem aaX:aL Tryz.prog 29 (iR (fun c:aS=>[jH c]) je qj):=by
 refine aX (Tb:=tab) mixed aB Tryz.func29 rfl rfl ?_
 rintro (c:aS) hpre
 refine ai (ai rfl (ai rfl rfl)) ?_
 have ho:je c:=hpre
 refine ei _ (ai (aaT) (ei (c) (ei [] (ai (a4 (ai (fun _=>Or.inl rfl) (ai nof (Or.inl rfl)))) (ai (by exact (ai rfl (ai (ai rfl (fun _ _=>rfl)) (ai (ai rfl (fun _ _=>rfl)) (ai rfl (fun _ _=>rfl)))))) (ai trivial (ai (ho) ?_)))))))
 refine bE (p:=ni c=0) (bT (by omega)) (fun h1=>?_) (fun h1=>?_)
 ·have e:mE c=[]:=by
   unfold mE eZ
   unfold ni at h1
   split
   ·rename_i h
    rw[if_pos h] at h1
    cases ee:l8 c with
    | none=>rfl
    | some l=>rw[ee] at h1;exact absurd rfl h1
   ·rfl
  refine ai (ai (fun h=>absurd (show false=true from h) (by decide)) ?_) trivial
  show ak _ (qj c)
  rw[qj,e]
  exact (ai rfl rfl)
 obtain ⟨hc,hx⟩:=zl h1
 obtain ⟨hg,hl,hw⟩:=wW h1
 have h24:=(jg hc).2.2.1.2
 have hA:qj c=.tup [bbP (nu (mE c)),iP 0]:=by unfold qj;rw[h1]
 have hml:(mE c).length=(eZ c).length:=anq _
 have htk:∀k,k<(eZ c).length→(mE c).take (k+1)=(mE c).take k++[((eZ c).getD k av).1]:=fun k hk=>by
  rw[aP [] (by omega)]
  congr 2
  unfold mE
  rw[aaE,aaE,ait,aaC hk];rfl
 refine ei (bC.inv { X:=Nat,up:=fun k=>[(21,.s (iA k)),(7,bbR ((mE c).take k))],uo:=fun k=>[],inv:=fun k=>k≤(eZ c).length∧(True),meas:=fun k=>(eZ c).length-k,x0:=0 }) ?_
 refine ai (ai (ai (by exact (a4 (ai rfl rfl))) (ai (by exact (ai (ai (ai (fun _=>rfl) (iE (by simp only[zz,reduceCtorEq];rfl))) rfl) rfl)) (by exact trivial))) rfl) (ai (ai (abY _) ?_) ?_)
 ·trivial
 intro (k:Nat) ⟨hk,_⟩
 have hkl:((mE c).take k).length=k:=by rw[aiq];omega
 refine ah (p:=k<(eZ c).length) (au (by omega)) (fun h2=>?_) (fun h2=>?_)
 ·refine ai (ai (aaI _) (iN (n:=(eZ c).length) (by omega))) (ai rfl ?_)
  refine ei (fZ ((eZ c).getD k av).1) (ai (agU _) ?_)
  have hgk:=hg _ (aaS (bH av h2))
  refine ei _ (ai (alP) (ei ((c,((eZ c).getD k av).1)) (ei [] (ai (a4 (ai (fun _=>Or.inl rfl) (ai nof (Or.inl rfl)))) (ai (by exact (ai (ai rfl (ai (ai rfl (fun _ _=>rfl)) (ai (ai rfl (fun _ _=>rfl)) (ai rfl (fun _ _=>rfl))))) (ai rfl (fun _ _=>rfl)))) (ai trivial (ai (⟨h24,hgk.1⟩) ?_)))))))
  refine ai (mxL (n:=((mE c).take k).length+1) (by omega) (by decide)) (ai (aH 1 rfl) ?_)
  refine ei (k+1) (ai (ai rfl rfl) (ai (ai (ai rfl (ai (ai rfl rfl) (ai (ai rfl rfl) (ai (ai (ai (ai (fun _=>rfl) (aO (by omega))) rfl) (ai rfl (ai rfl (ai ?_ ?_)))) trivial)))) rfl) (ai (ai (iL (by omega)) trivial) (iM (by omega)))))
  ·rw[htk k h2,aaA];rfl
  ·rw[htk k h2];exact anN _ _
 ·obtain rfl:k=(eZ c).length:=by omega
  rw[show (mE c).take (eZ c).length=mE c from ar3 (by omega)]
  refine ei _ (ai (ak6 c.sts.length (by omega)) (ei (mE c) (ei [1] (ai (ai rfl (ai rfl (ai rfl (ai rfl (ai nof (ai nof (Or.inl rfl))))))) (ai (by exact (ai rfl (ai rfl trivial))) (ai (by exact (ai rfl (ai rfl (ai rfl (fun _ _=>rfl))))) (ai (⟨by show (mE c).length≤1000000000;omega,fun x hx=>by obtain ⟨y,hy,rfl⟩:=arK.1 hx;exact (hg y hy).1⟩) ?_)))))))
  refine ai (ai (fun h=>absurd (show false=true from h) (by decide)) ?_) trivial
  show ak _ (qj c)
  rw[hA]
  exact (ai (ai rfl (fun _ _=>rfl)) rfl)
def aqz:Spec:=bQ (fun a:List (Int)×List (Int)=>[isA a.1,isA a.2]) (fun a=>a.1.length≤1000000) (fun a=>bP (decide (a.1=a.2)))
theorem aoT:aL Tryz.prog 59 aqz:=by
 refine aX (Tb:=tab) mixed aB Tryz.func59 rfl rfl ?_
 rintro (a:List (Int)×List (Int)) hpre
 refine ai (ai rfl (ai rfl rfl)) ?_
 have hl:a.1.length≤1000000:=hpre
 refine bE (p:=a.1.length=a.2.length) (bT (by omega)) (fun h1=>?_) (fun h1=>?_)
 ·refine ai (ai (fun _=>trivial) ?_) trivial
  show ak _ (bP (decide (a.1=a.2)))
  rw[decide_eq_false (fun h=>h1 (congrArg List.length h))]
  exact rfl
 refine ei (bC.inv { X:=Nat,up:=fun k=>[(13,.s (iA k))],uo:=fun k=>[],inv:=fun k=>k≤a.1.length∧(a.1.take k=a.2.take k),meas:=fun k=>a.1.length-k,x0:=0 }) ?_
 refine ai (ai (ai (by exact (a4 (ai rfl rfl))) (ai (by exact (ai (ai (fun _=>rfl) (iE (by simp only[zz,reduceCtorEq];rfl))) rfl)) (by exact trivial))) rfl) (ai (ai (abY _) ?_) ?_)
 ·rfl
 intro (k:Nat) ⟨hk,hall⟩
 refine ah (p:=k<a.1.length) (au (by omega)) (fun h4=>?_) (fun h4=>?_)
 ·refine ei (.seq [0,1,2,3,4,5,6,7,8]) (ai (by kernel_rfl) ?_)
  refine ai (ai (aaI _) (iN (n:=a.1.length) (by omega))) (ai rfl ?_)
  refine ai (ai (aaI _) (iN (n:=a.2.length) (by omega))) (ai rfl ?_)
  refine bE (p:=a.1.getD k 0=a.2.getD k 0) (by exact bne_iff_ne) (fun h5=>?_) (fun h5=>?_)
  ·refine ai (ai (fun _=>trivial) ?_) trivial
   show ak _ (bP (decide (a.1=a.2)))
   rw[decide_eq_false (fun h=>h5 (by rw[h]))]
   exact rfl
  refine ei (k+1) (ai (ai rfl rfl) (ai (ai (ai rfl (ai (ai rfl rfl) (ai (ai rfl rfl) (ai (ai (ai (fun _=>rfl) (aO (by omega))) rfl) trivial)))) rfl) (ai (ai (iL (by omega)) ?_) (iM (by omega)))))
  exact aal 0 h4 (by omega) hall h5
 ·obtain rfl:k=a.1.length:=by omega
  rw[afj,h1,afj] at hall
  refine ai (ai (fun _=>trivial) ?_) trivial
  show ak _ (bP (decide (a.1=a.2)))
  rw[decide_eq_true hall]
  exact rfl
theorem afb (f:Nat→List PV) (k:Nat) {g:Nat→List PV} (hg:g 0=f k):∀j,j<k+1→bN k f g j=f j:=by
 intro j hj
 unfold bN
 by_cases h:j<k
 ·rw[if_pos h]
 ·obtain rfl:j=k:=by omega
  rw[if_neg h,aqX,hg]
def amC (c:aS):Prop:=c.sts.length≤1000000∧c.trs.length≤1000000
def stF (c:aS) (k:Nat):List PV:=stK (c.sts.getD k st0)
def trF (c:aS) (k:Nat):List PV:=trK (c.trs.getD k aM)
theorem adk:aL Tryz.prog 14 (iR (fun c:aS=>[jH c]) amC (fun c=>uE c)):=by
 refine aX (Tb:=tab) mixed aB Tryz.func14 rfl rfl ?_
 rintro (c:aS) hpre
 refine ai (ai rfl (ai rfl rfl)) ?_
 obtain ⟨hs,ht⟩:=hpre
 have hs:c.sts.length≤1000000:=hs
 have ht:c.trs.length≤1000000:=ht
 refine ei (bC.inv { X:=Nat,up:=fun k=>[(16,.s (iA k))],uo:=fun k=>[⟨2,36,[.s (iA c.act),.s (.p false (ssP c.ins)),.rw 89 2 k (stF c),.s abA]⟩],inv:=fun k=>k≤c.sts.length∧(True),meas:=fun k=>c.sts.length-k,x0:=0 }) ?_
 refine ai (ai (ai (by exact (a4 (ai rfl rfl))) (ai ?_ ?_)) rfl) (ai (ai (abY _) ?_) ?_)
 ·exact (ai (ai (fun _=>rfl) (iE (by simp only[zz,reduceCtorEq];rfl))) rfl)
 ·exact (ai (ai (ai (ai nof rfl) rfl) (ai (ai (ai nof (ai rfl (fun _ _=>rfl))) rfl) (ai rfl (ai (ai nof rfl) rfl)))) trivial)
 ·trivial
 intro (k:Nat) ⟨hk,_⟩
 refine ah (p:=k<c.sts.length) (au (by omega)) (fun h1=>?_) (fun h1=>?_)
 ·refine ai (ai (aaI _) (iN (n:=c.sts.length) (by omega))) (ai rfl ?_)
  refine ai (mxL (n:=k+1) (by omega) (by decide)) (ai (lt1 rfl) ?_)
  refine ei (k+1) (ai (ai rfl rfl) (ai (ai (ai rfl (ai (ai rfl rfl) (ai (ai rfl rfl) (ai (ai (ai (fun _=>rfl) (aO (by omega))) rfl) (ai (ai (ai (ai nof rfl) rfl) (ai (ai (ai nof (ai rfl (fun _ _=>rfl))) rfl) (ai (ai rfl (ai rfl (ai rfl ?_))) (ai (ai nof rfl) rfl)))) trivial))))) rfl) (ai (ai (iL (by omega)) trivial) (iM (by omega)))))
  exact afb (stF c) k rfl
 obtain rfl:k=c.sts.length:=by omega
 refine ei (bC.inv { X:=Nat,up:=fun k=>[(34,.s (iA k))],uo:=fun k=>[⟨2,36,[.s (iA c.act),.s (.p false (ssP c.ins)),.rw 89 2 c.sts.length (stF c),.rw 123 5 k (trF c)]⟩],inv:=fun k=>k≤c.trs.length∧(True),meas:=fun k=>c.trs.length-k,x0:=0 }) ?_
 refine ai (ai (ai (by exact (a4 (ai rfl rfl))) (ai ?_ ?_)) rfl) (ai (ai (abY _) ?_) ?_)
 ·exact (ai (ai (fun _=>rfl) (iE (by simp only[zz,reduceCtorEq];rfl))) rfl)
 ·exact (ai (ai (ai (ai nof rfl) rfl) (ai (ai (ai nof (ai rfl (fun _ _=>rfl))) rfl) (ai (ai rfl (ai rfl (ai rfl (fun _ _=>rfl)))) rfl))) trivial)
 ·trivial
 intro (k:Nat) ⟨hk,_⟩
 refine ah (p:=k<c.trs.length) (au (by omega)) (fun h1=>?_) (fun h1=>?_)
 ·refine ai (ai (aaI _) (iN (n:=c.trs.length) (by omega))) (ai rfl ?_)
  refine ai (mxL (n:=k+1) (by omega) (by decide)) (ai (lt1 rfl) ?_)
  refine ei (k+1) (ai (ai rfl rfl) (ai (ai (ai rfl (ai (ai rfl rfl) (ai (ai rfl rfl) (ai (ai (ai (fun _=>rfl) (aO (by omega))) rfl) (ai (ai (ai (ai nof rfl) rfl) (ai (ai (ai nof (ai rfl (fun _ _=>rfl))) rfl) (ai (ai rfl (ai rfl (ai rfl (fun _ _=>rfl)))) (ai rfl (ai rfl (ai rfl ?_)))))) trivial))))) rfl) (ai (ai (iL (by omega)) trivial) (iM (by omega)))))
  exact afb (trF c) k rfl
 obtain rfl:k=c.trs.length:=by omega
 refine ai (ai (fun h=>absurd (show false=true from h) (by decide)) ?_) trivial
 show ak _ (uE c)
 rw[show uE c=.agg [iP c.act,ssP c.ins,.seq c.sts.length (stF c),.seq c.trs.length (trF c)] from rfl]
 exact (ai rfl (ai (ai rfl (fun _ _=>rfl)) (ai (ai rfl (fun _ _=>rfl)) (ai rfl (fun _ _=>rfl)))))
def bbA (l:List (List Bool)):SV:=.p false (bbP l)
def akw (l:List (List Bool)):Prop:=l.length≤1000000∧∀m∈l,m.length≤1000000
theorem ai8:aL Tryz.prog 33 (bQ (fun a:List (List Bool)×List (List Bool)=>[bbA a.1,bbA a.2]) (fun a=>akw a.1) (fun a=>bP (decide (a.1=a.2)))):=by
 refine aX (Tb:=tab) mixed aB Tryz.func33 rfl rfl ?_
 rintro (a:List (List Bool)×List (List Bool)) hpre
 refine ai (ai rfl (ai rfl rfl)) ?_
 obtain ⟨hl,hm⟩:=hpre
 have hl:a.1.length≤1000000:=hl
 refine bE (p:=a.1.length=a.2.length) (bT (by omega)) (fun h1=>?_) (fun h1=>?_)
 ·refine ai (ai (fun _=>trivial) ?_) trivial
  show ak _ (bP (decide (a.1=a.2)))
  rw[decide_eq_false (fun h=>h1 (congrArg List.length h))]
  exact rfl
 refine ei (bC.inv { X:=Nat,up:=fun k=>[(5,.s (iA k))],uo:=fun k=>[],inv:=fun k=>k≤a.1.length∧(a.1.take k=a.2.take k),meas:=fun k=>a.1.length-k,x0:=0 }) ?_
 refine ai (ai (ai (by exact (a4 (ai rfl rfl))) (ai (by exact (ai (ai (fun _=>rfl) (iE (by simp only[zz,reduceCtorEq];rfl))) rfl)) (by exact trivial))) rfl) (ai (ai (abY _) ?_) ?_)
 ·rfl
 intro (k:Nat) ⟨hk,hall⟩
 refine ah (p:=k<a.1.length) (au (by omega)) (fun h4=>?_) (fun h4=>?_)
 ·refine ei (.seq [0,1,2,3,4,5,6,7,8,9]) (ai (by kernel_rfl) ?_)
  refine ai (ai (aaI _) (iN (n:=a.1.length) (by omega))) (ai rfl ?_)
  refine ai (ai (aaI _) (iN (n:=a.2.length) (by omega))) (ai rfl ?_)
  refine ei _ (ai (af8) (ei ((a.1.getD k [],a.2.getD k [])) (ei [] (ai (a4 (ai (fun _=>Or.inl rfl) (ai nof (Or.inl rfl)))) (ai (by exact (ai (ai rfl (fun _ _=>rfl)) (ai rfl (fun _ _=>rfl)))) (ai trivial (ai (hm _ (aaS (bH [] h4))) ?_)))))))
  refine bE (p:=a.1.getD k []=a.2.getD k []) (by (show (!decide (a.1.getD k []=a.2.getD k []))=true↔_;simp)) (fun h5=>?_) (fun h5=>?_)
  ·refine ai (ai (fun _=>trivial) ?_) trivial
   show ak _ (bP (decide (a.1=a.2)))
   rw[decide_eq_false (fun h=>h5 (by rw[h]))]
   exact rfl
  refine ei (k+1) (ai (ai rfl rfl) (ai (ai (ai rfl (ai (ai rfl rfl) (ai (ai rfl rfl) (ai (ai (ai (fun _=>rfl) (aO (by omega))) rfl) trivial)))) rfl) (ai (ai (iL (by omega)) ?_) (iM (by omega)))))
  exact aal [] h4 (by omega) hall h5
 ·obtain rfl:k=a.1.length:=by omega
  rw[afj,h1,afj] at hall
  refine ai (ai (fun _=>trivial) ?_) trivial
  show ak _ (bP (decide (a.1=a.2)))
  rw[decide_eq_true hall]
  exact rfl
def qb (t:iU):Bool:=decide (t.fr.length≤40)&&(decide (t.to.length≤40)&&kY t.wh)
def jo (c:aS):Bool:=(decide (c.ins.length≤40)&&(decide (c.sts.length≤60)&&decide (c.trs.length≤60)))&&((c.ins.all fun t=>decide (t.length≤100))&&((c.sts.all fun x=>decide (x.st.length≤40))&&((c.trs.all qb)&&((decide (c.sts.length≤7)&&decide (c.trs.length≤9))||decide (¬bD c=0)))))
theorem wD {c:aS} (h:¬(c.ins.length≤40∧c.sts.length≤60∧c.trs.length≤60)):jo c=false:=by
 unfold jo
 rw[←asG,←asG,decide_eq_false h,anC]
theorem alA {c:aS} (h:∃x∈c.ins,¬x.length≤100):jo c=false:=by
 obtain ⟨x,hx,h⟩:=h
 unfold jo
 rw[show (c.ins.all fun t=>decide (t.length≤100))=false from aqW.2 ⟨x,hx,by simpa using h⟩,anC,apv]
theorem af4 {c:aS} (h:∃x∈c.sts,¬x.st.length≤40):jo c=false:=by
 obtain ⟨x,hx,h⟩:=h
 unfold jo
 rw[show (c.sts.all fun x=>decide (x.st.length≤40))=false from aqW.2 ⟨x,hx,by simpa using h⟩,anC,apv,apv]
theorem wH {c:aS} (h:∃x∈c.trs,qb x=false):jo c=false:=by
 obtain ⟨x,hx,h⟩:=h
 unfold jo
 rw[show c.trs.all qb=false from aqW.2 ⟨x,hx,by rw[h];decide⟩,anC,apv,apv,apv]
theorem amj {c:aS} (h1:c.ins.length≤40∧c.sts.length≤60∧c.trs.length≤60) (h2:∀x∈c.ins,x.length≤100) (h3:∀x∈c.sts,x.st.length≤40) (h4:∀x∈c.trs,qb x=true):jo c=((decide (c.sts.length≤7)&&decide (c.trs.length≤9))||decide (¬bD c=0)):=by
 unfold jo
 rw[←asG,←asG,decide_eq_true h1,ahS,show (c.ins.all fun t=>decide (t.length≤100))=true from akZ.2 fun x hx=>decide_eq_true (h2 x hx),ahS,show (c.sts.all fun x=>decide (x.st.length≤40))=true from akZ.2 fun x hx=>decide_eq_true (h3 x hx),ahS,akZ.2 h4,ahS]
theorem am2 {t:iU} (h:qb t=true):t.fr.length≤40∧t.to.length≤40∧kY t.wh=true:=by
 unfold qb at h
 rw[ae7,ae7] at h
 exact ⟨of_decide_eq_true h.1,of_decide_eq_true h.2.1,h.2.2⟩
theorem agv {c:aS} (h1:c.ins.length≤40∧c.sts.length≤60∧c.trs.length≤60) (h3:∀x∈c.sts,x.st.length≤40) (h4:∀x∈c.trs,qb x=true):je c:=by
 refine ⟨fun s hs=>?_,fun t ht=>?_⟩
 ·have:=h3 s hs;omega
 ·obtain ⟨h5,h6,h7⟩:=am2 (h4 t ht)
  have:=akI h7
  exact ⟨by omega,by omega,by omega⟩
theorem apy (x:Int):decide (¬x=0)=(x != 0):=by
 by_cases h:x=0
 ·subst h;rfl
 ·rw[decide_eq_true h];exact (bne_iff_ne.2 h).symm
theorem alD:aL Tryz.prog 11 (bQ (fun c:aS=>[jH c]) (fun _=>True) (fun c=>bP (jo c))):=by
 refine aX (Tb:=tab) mixed aB Tryz.func11 rfl rfl ?_
 rintro (c:aS) hpre
 refine ai (ai rfl (ai rfl rfl)) ?_
 refine ah (p:=40<c.ins.length) (au (by omega)) (fun h1=>?_) (fun h1=>?_)
 ·refine ai (ai (fun _=>trivial) ?_) trivial
  show ak _ (bP (jo c))
  rw[wD (fun h=>absurd h.1 (by omega))]
  exact rfl
 refine ah (p:=60<c.sts.length) (au (by omega)) (fun h2=>?_) (fun h2=>?_)
 ·refine ai (ai (fun _=>trivial) ?_) trivial
  show ak _ (bP (jo c))
  rw[wD (fun h=>absurd h.2.1 (by omega))]
  exact rfl
 refine ah (p:=60<c.trs.length) (au (by omega)) (fun h3=>?_) (fun h3=>?_)
 ·refine ai (ai (fun _=>trivial) ?_) trivial
  show ak _ (bP (jo c))
  rw[wD (fun h=>absurd h.2.2 (by omega))]
  exact rfl
 have hs1:c.ins.length≤40∧c.sts.length≤60∧c.trs.length≤60:=⟨by omega,by omega,by omega⟩
 refine ei (bC.inv { X:=Nat,up:=fun k=>[(3,.s (iA k))],uo:=fun k=>[],inv:=fun k=>k≤c.ins.length∧(∀y∈c.ins.take k,y.length≤100),meas:=fun k=>c.ins.length-k,x0:=0 }) ?_
 refine ai (ai (ai (by exact (a4 (ai rfl rfl))) (ai (by exact (ai (ai (fun _=>rfl) (iE (by simp only[zz,reduceCtorEq];rfl))) rfl)) (by exact trivial))) rfl) (ai (ai (abY _) ?_) ?_)
 ·exact fun y hy=>absurd hy (by simp)
 intro (k:Nat) ⟨hk,hall⟩
 refine ah (p:=k<c.ins.length) (au (by omega)) (fun h4=>?_) (fun h4=>?_)
 ·refine ai (ai (aaI _) (iN (n:=c.ins.length) (by omega))) (ai rfl ?_)
  have hz:=dI (c.ins.getD k [])
  refine ah (p:=100<(c.ins.getD k []).length) (by exact au (by show (100:Int)<((strOf (c.ins.getD k [])).size:Int)↔_;rw[hz];omega)) (fun h5=>?_) (fun h5=>?_)
  ·refine ai (ai (fun _=>trivial) ?_) trivial
   show ak _ (bP (jo c))
   rw[alA ⟨_,aaS (bH [] h4),by omega⟩]
   exact rfl
  refine ei (k+1) (ai (ai rfl rfl) (ai (ai (ai rfl (ai (ai rfl rfl) (ai (ai rfl rfl) (ai (ai (ai (fun _=>rfl) (aO (by omega))) rfl) trivial)))) rfl) (ai (ai (iL (by omega)) ?_) (iM (by omega)))))
  intro y hy
  rw[aP [] h4] at hy
  rcases afA.1 hy with hy | hy
  ·exact hall y hy
  ·simp only[afq] at hy;subst hy;omega
 obtain rfl:k=c.ins.length:=by omega
 rw[afj] at hall
 have hins:=hall
 clear hall
 refine ei (bC.inv { X:=Nat,up:=fun k=>[(4,.s (iA k))],uo:=fun k=>[],inv:=fun k=>k≤c.sts.length∧(∀y∈c.sts.take k,y.st.length≤40),meas:=fun k=>c.sts.length-k,x0:=0 }) ?_
 refine ai (ai (ai (by exact (a4 (ai rfl rfl))) (ai (by exact (ai (ai (fun _=>rfl) (iE (by simp only[zz,reduceCtorEq];rfl))) rfl)) (by exact trivial))) rfl) (ai (ai (abY _) ?_) ?_)
 ·exact fun y hy=>absurd hy (by simp)
 intro (k:Nat) ⟨hk,hall⟩
 refine ah (p:=k<c.sts.length) (au (by omega)) (fun h4=>?_) (fun h4=>?_)
 ·refine ai (ai (aaI _) (iN (n:=c.sts.length) (by omega))) (ai rfl ?_)
  refine ah (p:=40<(c.sts.getD k st0).st.length) (by simp only[zz,reduceCtorEq];omega) (fun h5=>?_) (fun h5=>?_)
  ·refine ai (ai (fun _=>trivial) ?_) trivial
   show ak _ (bP (jo c))
   rw[af4 ⟨_,aaS (bH st0 h4),by omega⟩]
   exact rfl
  refine ei (k+1) (ai (ai rfl rfl) (ai (ai (ai rfl (ai (ai rfl rfl) (ai (ai rfl rfl) (ai (ai (ai (fun _=>rfl) (aO (by omega))) rfl) trivial)))) rfl) (ai (ai (iL (by omega)) ?_) (iM (by omega)))))
  intro y hy
  rw[aP st0 h4] at hy
  rcases afA.1 hy with hy | hy
  ·exact hall y hy
  ·simp only[afq] at hy;subst hy;omega
 obtain rfl:k=c.sts.length:=by omega
 rw[afj] at hall
 have hsts:=hall
 clear hall
 refine ei (bC.inv { X:=Nat,up:=fun k=>[(5,.s (iA k))],uo:=fun k=>[],inv:=fun k=>k≤c.trs.length∧(∀y∈c.trs.take k,qb y=true),meas:=fun k=>c.trs.length-k,x0:=0 }) ?_
 refine ai (ai (ai (by exact (a4 (ai rfl rfl))) (ai (by exact (ai (ai (fun _=>rfl) (iE (by simp only[zz,reduceCtorEq];rfl))) rfl)) (by exact trivial))) rfl) (ai (ai (abY _) ?_) ?_)
 ·exact fun y hy=>absurd hy (by simp)
 intro (k:Nat) ⟨hk,hall⟩
 refine ah (p:=k<c.trs.length) (au (by omega)) (fun h4=>?_) (fun h4=>?_)
 ·refine ai (ai (aaI _) (iN (n:=c.trs.length) (by omega))) (ai rfl ?_)
  refine ah (p:=40<(c.trs.getD k aM).fr.length) (by simp only[zz,reduceCtorEq];omega) (fun h5=>?_) (fun h5=>?_)
  ·refine ai (ai (fun _=>trivial) ?_) trivial
   show ak _ (bP (jo c))
   rw[wH ⟨_,aaS (bH aM h4),by unfold qb;rw[decide_eq_false (by omega),anC]⟩]
   exact rfl
  refine ah (p:=40<(c.trs.getD k aM).to.length) (by simp only[zz,reduceCtorEq];omega) (fun h6=>?_) (fun h6=>?_)
  ·refine ai (ai (fun _=>trivial) ?_) trivial
   show ak _ (bP (jo c))
   rw[wH ⟨_,aaS (bH aM h4),by unfold qb;rw[decide_eq_false (p:=(c.trs.getD k aM).to.length≤40) (by omega),anC,apv]⟩]
   exact rfl
  refine ei _ (ai (aqk) (ei ((c.trs.getD k aM).wh) (ei [] (ai (a4 (ai (fun _=>Or.inl rfl) (ai nof (Or.inl rfl)))) (ai (by exact (ai (iE (by simp only[zz,reduceCtorEq])) (ai (iE (by simp only[zz,reduceCtorEq])) (ai rfl (fun _ _=>rfl))))) (ai trivial (ai (trivial) ?_)))))))
  refine aZ (b:=!kY (c.trs.getD k aM).wh) rfl (fun h7=>?_) (fun h7=>?_)
  ·have h7:kY (c.trs.getD k aM).wh=false:=by simpa using h7
   refine ai (ai (fun _=>trivial) ?_) trivial
   show ak _ (bP (jo c))
   rw[wH ⟨_,aaS (bH aM h4),by unfold qb;rw[h7,apv,apv]⟩]
   exact rfl
  have h7:kY (c.trs.getD k aM).wh=true:=by simpa using h7
  refine ei (k+1) (ai (ai rfl rfl) (ai (ai (ai rfl (ai (ai rfl rfl) (ai (ai rfl rfl) (ai (ai (ai (fun _=>rfl) (aO (by omega))) rfl) trivial)))) rfl) (ai (ai (iL (by omega)) ?_) (iM (by omega)))))
  intro y hy
  rw[aP aM h4] at hy
  rcases afA.1 hy with hy | hy
  ·exact hall y hy
  ·simp only[afq] at hy;subst hy;unfold qb;rw[decide_eq_true (by omega),decide_eq_true (by omega),h7];rfl
 obtain rfl:k=c.trs.length:=by omega
 rw[afj] at hall
 have hy:=amj hs1 hins hsts hall
 have ho:=agv hs1 hsts hall
 refine ah (p:=c.sts.length≤7) (cB (by omega)) (fun h4=>?_) (fun h4=>?_)
 ·refine ah (p:=c.trs.length≤9) (cB (by omega)) (fun h5=>?_) (fun h5=>?_)
  ·refine ai (ai (fun _=>trivial) ?_) trivial
   show ak _ (bP (jo c))
   rw[hy,decide_eq_true h4,decide_eq_true h5,ahS,ajY]
   exact rfl
  ·refine ei _ (ai (ado) (ei (c) (ei [] (ai (a4 (ai (fun _=>Or.inl rfl) (ai nof (Or.inl rfl)))) (ai (by exact (ai rfl (ai (ai rfl (fun _ _=>rfl)) (ai (ai rfl (fun _ _=>rfl)) (ai rfl (fun _ _=>rfl)))))) (ai trivial (ai (ho) ?_)))))))
   refine ai (ai (fun _=>trivial) ?_) trivial
   show ak _ (bP (jo c))
   rw[hy,decide_eq_false h5,apv,aoV,apy (bD c)]
   exact rfl
 ·refine ei _ (ai (ado) (ei (c) (ei [] (ai (a4 (ai (fun _=>Or.inl rfl) (ai nof (Or.inl rfl)))) (ai (by exact (ai rfl (ai (ai rfl (fun _ _=>rfl)) (ai (ai rfl (fun _ _=>rfl)) (ai rfl (fun _ _=>rfl)))))) (ai trivial (ai (ho) ?_)))))))
  refine ai (ai (fun _=>trivial) ?_) trivial
  show ak _ (bP (jo c))
  rw[hy,decide_eq_false h4,anC,aoV,apy (bD c)]
  exact rfl
theorem aoP {c:aS} (h:jo c=true):je c∧amC c∧c.ins.length≤1000000:=by
 by_cases h1:c.ins.length≤40∧c.sts.length≤60∧c.trs.length≤60
 ·by_cases h3:∀x∈c.sts,x.st.length≤40
  ·by_cases h4:∀x∈c.trs,qb x=true
   ·exact ⟨agv h1 h3 h4,⟨by omega,by omega⟩,by omega⟩
   ·simp only[Classical.not_forall] at h4
    obtain ⟨x,hx,h4⟩:=h4
    rw[wH ⟨x,hx,by simpa using h4⟩] at h;cases h
  ·simp only[Classical.not_forall] at h3
   obtain ⟨x,hx,h3⟩:=h3
   rw[af4 ⟨x,hx,h3⟩] at h;cases h
 ·rw[wD h1] at h;cases h
def p10:Array Value:=(Lib.pow10Tab.map fun z=>Value.int .u64 z).toArray
def glP:List (Nat×Array Value):=[(0,p10)]
def fnG {α:Type} (args:α→List SV) (pre:α→Prop) (res:α→PV):Spec:={ A:=α,args:=args,objs:=fun _=>[],pre:=pre,res:=res,objs':=fun _=>[],fresh:=true,ro:=0,gl:=glP }
theorem arp {w:World} (h:∀p∈glP,∃T fr,w.heap[p.1]?=some (.cells p.2 T fr)):Lib.TabIs Tryz.prog w "internal/strconv.uint64pow10" .u64 Lib.pow10Tab:=by
 obtain ⟨T,fr,hw⟩:=h _ (afq.2 rfl)
 have hg:Tryz.prog.globalNamed "internal/strconv.uint64pow10"=some 0:=by kernel_rfl
 show World.var? _ w _=_
 unfold World.var?
 rw[hg]
 show (match w.heap[0]? with | some (.cells cs _ _)=>some cs | _=>none)=_
 rw[show w.heap[0]?=some (.cells p10 T fr) from hw]
 rfl
theorem afD:aL Tryz.prog 79 (fnG (fun n:Nat=>[iA n]) (fun n=>n≤1000000) (fun n=>sP (dec n))):=
 ahW (gl:=glP) Tryz.func79 rfl rfl (vals:=fun n:Nat=>[.int .i64 n]) (pre:=fun n=>n≤1000000) (ret:=fun n=>.string (strOf (dec n))) (fun _ _=>rfl) fun n hn w h=>by
  refine (Tryz.strconv_Itoa n (by omega) (by have:n≤1000000:=hn;omega) w (arp h)).mono fun e w' hh=>?_
  obtain ⟨h1,k,os,rfl⟩:=hh
  refine ⟨?_,?_⟩
  ·rw[h1]
   have:Lib.itoa (n:Int)=dec n:=by unfold Lib.itoa;rw[if_neg (by omega)];rfl
   rw[this];rfl
  ·exact ⟨rfl,rfl,rfl,by simp[Sort.grow],fun k hk=>by rw[Sort.heap_grow_old _ _ (by exact hk)];rfl⟩
def nP (x:Sk):List UInt8:=[UInt8.ofNat (65+x.1.toNat),if x.2 then 43 else 45]
theorem ai6:aL Tryz.prog 138 (bQ (fun x:Sk=>[skA x]) (fun x=>0≤x.1∧x.1<6) (fun x=>sP (nP x))):=by
 refine aX (Tb:=tab) mixed aB Tryz.func138 rfl rfl ?_
 rintro ⟨n,b⟩ hpre
 refine ai (ai rfl (ai rfl rfl)) ?_
 obtain ⟨h0,h6⟩:=hpre
 have h0:0≤n:=h0
 have h6:n<6:=h6
 obtain ⟨d,rfl⟩:∃d:Nat,n=(d:Int):=⟨n.toNat,by omega⟩
 have hv:IntKind.i32.wrap (IntKind.i64.wrap (65+(d:Int)))=((65+d:Nat):Int):=by
  rw[wrI (n:=65+(d:Int)) (by omega) (by omega)]
  simp[IntKind.wrap,IntKind.bits,IntKind.signed]<;>omega
 refine ai (by show 0≤IntKind.i32.wrap (IntKind.i64.wrap (65+(d:Int)))∧IntKind.i32.wrap (IntKind.i64.wrap (65+(d:Int)))<128;rw[hv];omega) ?_
 have hx:(⟨#[UInt8.ofNat (IntKind.i32.wrap (IntKind.i64.wrap (65+(d:Int)))).toNat]⟩:ByteArray)=strOf [UInt8.ofNat (65+d)]:=by rw[hv];rfl
 have hxs:(((((⟨#[UInt8.ofNat (IntKind.i32.wrap (IntKind.i64.wrap (65+(d:Int)))).toNat]⟩:ByteArray)).size+1:Nat)):Int)≤9223372036854775807:=by rw[hx,dI];show ((1+1:Nat):Int)≤_;decide
 refine aZ (b:=b) rfl (fun h=>?_) (fun h=>?_)
 ·refine ai hxs ?_
  refine ai (ai (fun _=>trivial) ?_) trivial
  show ak _ (sP (nP ((d:Int),b)))
  rw[show nP ((d:Int),b)=[UInt8.ofNat (65+d)]++[43] by unfold nP;rw[h];rfl,show sP ([UInt8.ofNat (65+d)]++[43])=.val (.string ((⟨#[UInt8.ofNat (IntKind.i32.wrap (IntKind.i64.wrap (65+(d:Int)))).toNat]⟩:ByteArray)++strOf [43])) by rw[hx,eD];rfl]
  exact rfl
 ·refine ai hxs ?_
  refine ai (ai (fun _=>trivial) ?_) trivial
  show ak _ (sP (nP ((d:Int),b)))
  rw[show nP ((d:Int),b)=[UInt8.ofNat (65+d)]++[45] by unfold nP;rw[h];rfl,show sP ([UInt8.ofNat (65+d)]++[45])=.val (.string ((⟨#[UInt8.ofNat (IntKind.i32.wrap (IntKind.i64.wrap (65+(d:Int)))).toNat]⟩:ByteArray)++strOf [45])) by rw[hx,eD];rfl]
  exact rfl
def ac7 (x:Sk):Int:=if 0≤x.1∧x.1<6 then 0 else 2
theorem aop:aL Tryz.prog 137 (bQ (fun x:Sk=>[skA x]) (fun _=>True) (fun x=>iP (ac7 x))):=by
 refine aX (Tb:=tab) mixed aB Tryz.func137 rfl rfl ?_
 rintro (x:Sk) hpre
 refine ai (ai rfl (ai rfl rfl)) ?_
 refine ei _ (ai (ael) (ei (x.1) (ei [] (ai (a4 (ai (fun _=>Or.inl rfl) (ai nof (Or.inl rfl)))) (ai (by exact rfl) (ai trivial (ai (trivial) ?_)))))))
 refine aZ (b:=!(decide (0≤x.1)&&decide (x.1<6))) rfl (fun h=>?_) (fun h=>?_)
 ·have h:¬(0≤x.1∧x.1<6):=fun e=>by rw[decide_eq_true e.1,decide_eq_true e.2] at h;cases h
  refine ai (ai (fun _=>trivial) ?_) trivial
  show ak _ (iP (ac7 x))
  rw[ac7,if_neg h]
  exact rfl
 ·have h:0≤x.1∧x.1<6:=by
   have h:(decide (0≤x.1)&&decide (x.1<6))=true:=by simpa using h
   rw[ae7] at h
   exact ⟨of_decide_eq_true h.1,of_decide_eq_true h.2⟩
  refine ai (ai (fun _=>trivial) ?_) trivial
  show ak _ (iP (ac7 x))
  rw[ac7,if_pos h]
  exact rfl
theorem af2:aL Tryz.prog 80 (iR (fun x:Sk=>[skA x]) (fun x=>0≤x.1∧x.1<6) (fun x=>.tup [sP (nP x),iP 0])):=by
 refine aX (Tb:=tab) mixed aB Tryz.func80 rfl rfl ?_
 rintro (x:Sk) hpre
 refine ai (ai rfl (ai rfl rfl)) ?_
 obtain ⟨h0,h6⟩:=hpre
 have h0:0≤x.1:=h0
 have h6:x.1<6:=h6
 refine ei _ (ai (aop) (ei (x) (ei [] (ai (a4 (ai (fun _=>Or.inl rfl) (ai nof (Or.inl rfl)))) (ai (by exact (ai rfl rfl)) (ai trivial (ai (trivial) ?_)))))))
 refine bE (p:=ac7 x=0) (bT (by omega)) (fun h=>?_) (fun h=>?_)
 ·exact absurd (if_pos ⟨h0,h6⟩) h
 refine ei _ (ai (ai6) (ei (x) (ei [] (ai (a4 (ai (fun _=>Or.inl rfl) (ai nof (Or.inl rfl)))) (ai (by exact (ai rfl rfl)) (ai trivial (ai (⟨h0,h6⟩) ?_)))))))
 refine ai (ai (fun _=>(by exact (ai trivial trivial))) ?_) trivial
 exact (ai rfl rfl)
def spI (l:List Int):List UInt8:=l.flatMap fun x=>dec x.toNat++[32]
theorem uZ {n:Nat} (h:n<100):(dec n).length≤2:=by
 have:∀n:Fin 100,(Lib.decDigits n.1).length≤2:=by decide +kernel
 exact this ⟨n,h⟩
theorem aoG {l:List Int} (h:fU 100 l):(spI l).length≤3*l.length:=by
 induction l with
 | nil=>simp[spI]
 | cons x l ih=>
  have h1:0≤x∧x<100:=h x (by simp)
  have h2:=ih fun y hy=>h y (by simp[hy])
  have h3:=uZ (n:=x.toNat) (by omega)
  show ((dec x.toNat++[32])++spI l).length≤_
  simp only[aaA,aik,anl];omega
theorem aK {μ:Nat→Option (Array Value)} {u v:Value} (h:aN μ u (.val v)):u=v:=by cases h;rfl
def an0 (a:List (List UInt8)×List UInt8):Prop:=a.1.length≤1000000∧(Lib.join a.1 a.2).length≤140737488355328
theorem aoI:aL Tryz.prog 143 (bQ (fun a:List (List UInt8)×List UInt8=>[ssA a.1,sA a.2]) an0 (fun a=>sP (Lib.join a.1 a.2))):=by
 refine ⟨⟨_,Tryz.func143,rfl,rfl⟩,fun a hpre E vs w _ hh hA=>?_⟩
 obtain ⟨l,sep⟩:=a
 obtain ⟨hll,hpre⟩:=hpre
 have hll:l.length≤1000000:=hll
 have hpre:(Lib.join l sep).length≤140737488355328:=hpre
 obtain ⟨hsz,hA⟩:=hA
 have hsz:vs.size=2:=hsz
 have hp:∀{u:Value} {d:PV},aJ E u (.p false d)→aN (E.m false) u d:=fun hx=>by cases hx with | p _ _ _ hp=>exact hp
 have h0:aN (E.m false) (vs[0]'(by omega)) (ssP l):=hp (hA 0 _ _ (abJ (by omega)) rfl)
 have h1:vs[1]'(by omega)=.string (strOf sep):=aK (hp (hA 1 _ (sA sep) (abJ (by omega)) rfl))
 have hvs:vs=#[vs[0]'(by omega),.string (strOf sep)]:=by
  apply asa
  intro k
  match k with
  | 0=>rw[abJ (by omega)];rfl
  | 1=>rw[abJ (by omega),h1];rfl
  | k+2=>rw[am9 (by omega)];simp
 generalize hv0:vs[0]'(by omega)=v0 at *
 clear h1 hv0 hA
 subst hvs
 have key:∀{n:Nat} {f:Nat→List PV},aN (E.m false) v0 (.seq n f)→n=l.length→f=(fun k=>[sP (l.getD k [])])→Calls Tryz.prog 143 #[v0,.string (strOf sep)] w fun e w'=>e=.returned (.string (strOf (Lib.join l sep)))∧Go.RowKit.Below w.heap.size w w':=by
  intro n f h hn hf
  cases h with
  | nil=>
   obtain rfl:l=[]:=aoZ.1 hn.symm
   exact (Tryz.strings_Join_none none 0 (strOf sep) w).mono fun e w' ⟨h1,h2⟩=>by subst h2;exact ⟨h1,RowKit.Below.refl _ _⟩
  | emp a c=>
   obtain rfl:l=[]:=aoZ.1 hn.symm
   exact (Tryz.strings_Join_none (some a) c (strOf sep) w).mono fun e w' ⟨h1,h2⟩=>by subst h2;exact ⟨h1,RowKit.Below.refl _ _⟩
  | seq b o _ cap sz _ cs u hm hcap hmax hl hc he=>
   subst hn;subst hf
   obtain ⟨T,fr,hw⟩:=hh.mem _ _ hm
   have hcell:∀(j:Nat) x,(l.map strOf)[j]?=some x→w.cell? ⟨b,o+j,none⟩=some (.string x):=by
    intro j x hx
    rw[ait] at hx
    obtain ⟨y,hy,rfl⟩:=arN.1 hx
    have hj:j<l.length:=(aaM.1 hy).1
    have hg:l.getD j []=y:=by rw[aaE,hy];rfl
    have hs1:1=sz:=hl j hj
    subst hs1
    have h2:=hc j 0 (sP (l.getD j [])) hj rfl
    have h3:=aK (he j 0 (sP (l.getD j [])) hj rfl)
    rw[h3,hg] at h2
    have h4:=h2.1
    rw[anD,aq1] at h4
    simp[World.cell?,hw,h4]
   have e:(l.map strOf).map (·.data.toList)=l:=by
    rw[List.map_map]
    exact (List.map_congr_left fun x _=>rfl).trans (List.map_id l)
   have hb:b<w.heap.size:=by
    rcases apF b w.heap.size with h | h
    ·exact h
    ·rw[am9 h] at hw;cases hw
   have:=Tryz.strings_Join b o cap (l.map strOf) (strOf sep) w hcell hb (by rw[anq];omega) (by rw[anq];exact hcap) (by rw[e];exact hpre)
   rw[anq,e] at this
   exact this.mono fun e w' ⟨h1,h2⟩=>⟨h1,h2⟩
 exact (key h0 rfl rfl).mono fun e w' ⟨he,hw⟩=>⟨_,E,he,.val _,hh.below hw⟩
def lW (l:List Int):List (List UInt8):=l.map fun x=>dec x.toNat
def inT (l:List Int):List UInt8:=Lib.join (lW l) [32]
theorem ahG:∀{l:List Int},l≠[]→spI l=inT l++[32]
 | [],h=>absurd rfl h
 | [x],_=>by show (dec x.toNat++[32])++[]=_;simp[inT,lW,Lib.join]
 | x :: y :: l,_=>by
  have:=ahG (l:=y :: l) (by simp)
  show (dec x.toNat++[32])++spI (y :: l)=_
  rw[this]
  simp[inT,lW,Lib.join,List.intercalate_cons_cons]
theorem adK {l:List Int} (h:fU 100 l):(inT l).length≤3*l.length:=by
 by_cases hl:l=[]
 ·subst hl;simp[inT,lW,Lib.join]
 ·have:=aoG h
  rw[ahG hl,aaA] at this;omega
theorem abX:aL Tryz.prog 83 (bQ (fun l:List Int=>[isA l]) (fun l=>fU 100 l∧l.length≤1000) (fun l=>sP (inT l))):=by
 refine aX (Tb:=tab) mixed aB Tryz.func83 rfl rfl ?_
 rintro (l:List Int) hpre
 refine ai (ai rfl (ai rfl rfl)) ?_
 obtain ⟨hx,hl⟩:=hpre
 have hx:fU 100 l:=hx
 have hl:l.length≤1000:=hl
 refine ei (bC.inv { X:=Nat,up:=fun k=>[(8,.s (iA k)),(3,ssR (lW (l.take k)))],uo:=fun k=>[],inv:=fun k=>k≤l.length∧(True),meas:=fun k=>l.length-k,x0:=0 }) ?_
 refine ai (ai (ai (by exact (a4 (ai rfl rfl))) (ai (by exact (ai (ai (ai (fun _=>rfl) (iE (by simp only[zz,reduceCtorEq];rfl))) rfl) rfl)) (by exact trivial))) rfl) (ai (ai (abY _) ?_) ?_)
 ·trivial
 intro (k:Nat) ⟨hk,_⟩
 have hdl:(lW (l.take k)).length=k:=by unfold lW;rw[anq,aiq];omega
 refine ah (p:=k<l.length) (au (by omega)) (fun h1=>?_) (fun h1=>?_)
 ·refine ai (ai (aaI _) (iN (n:=l.length) (by omega))) (ai rfl ?_)
  have hk1:=kN hx h1
  obtain ⟨d,hd⟩:∃d:Nat,l.getD k 0=(d:Int):=⟨(l.getD k 0).toNat,by omega⟩
  have e:lW (l.take (k+1))=lW (l.take k)++[dec d]:=by rw[aP 0 h1];unfold lW;rw[aq3,hd];rfl
  refine ei _ (ai (wU) (ei (d) (ei [] (ai (a4 (ai (fun _=>Or.inl rfl) (ai nof (Or.inl rfl)))) (ai ?_ (ai (by exact trivial) (ai ((by show d<100;omega)) ?_)))))))
  ·exact (iE (by simp only[zz,reduceCtorEq];omega))
  refine ai (aeQ (by show (lW (l.take k)).length+1≤10000;omega)) (ai (aH 1 rfl) ?_)
  refine ei (k+1) (ai (ai rfl rfl) (ai (ai (ai rfl (ai (ai rfl rfl) (ai (ai rfl rfl) (ai (ai (ai (ai (fun _=>rfl) (aO (by omega))) rfl) (ai rfl (ai rfl (ai ?_ ?_)))) trivial)))) rfl) (ai (ai (iL (by omega)) trivial) (iM (by omega)))))
  all_goals rw[e]
  ·rw[aaA];rfl
  ·exact fun j hj=>aah (a:=lW (l.take k)) (b:=[dec d]) (n:=(lW (l.take k)).length) (f:=fun k=>[sP ((lW (l.take _)).getD k [])]) rfl (fun _ _=>rfl) (ahY rfl) j (by rw[aaA];exact hj)
 ·obtain rfl:k=l.length:=by omega
  have et:l.take l.length=l:=afj
  refine ei _ (ai (aoI) (ei ((lW (l.take l.length),[32])) (ei [] (ai (ai rfl (ai rfl (ai rfl (ai rfl (ai (fun _=>Or.inl rfl) (ai (fun _=>ai rfl rfl) (Or.inl rfl))))))) (ai (by exact (ai (ai rfl (fun _ _=>rfl)) rfl)) (ai trivial (ai (⟨by show (lW (l.take l.length)).length≤1000000;omega,by show (Lib.join (lW (l.take l.length)) [32]).length≤140737488355328;rw[et];have:=adK hx;unfold inT at this;omega⟩) ?_)))))))
  refine ai (ai (fun _=>trivial) ?_) trivial
  show ak _ (sP (inT l))
  rw[show inT l=Lib.join (lW (l.take l.length)) [32] by rw[et];rfl]
  exact rfl
end Go.Sx.Pe
namespace Go.Sx.Pe
open Go Go.Proofs Go.RowKit Go.Sx.Pn
theorem cell_of {w:World} {b:Nat} {vs:Array Value} {T:TypeId} {off:Nat} {v:Value} (h:w.heap[b]?=some (.cells vs T (0,0))) (hv:vs[off]?=some v):w.cell? ⟨b,off,none⟩=some v:=by
 simp[World.cell?,h,hv]
theorem afE {w:World} {b:Nat} {vs:Array Value} {T:TypeId} (h:w.heap[b]?=some (.cells vs T (0,0))):w.shape? b=some (T,vs.size):=by
 simp[World.shape?,h]
theorem akr {w:World} {b off:Nat} {vs:Array Value} {T:TypeId} (h:w.heap[b]?=some (.cells vs T (0,0))):w.frozen? ⟨b,off,none⟩=false:=by
 simp[World.frozen?,h]
set_option maxRecDepth 100000 in
theorem amX (b:Nat) (w:World) (h0:w.cell? ⟨b,0,none⟩=some (.pointer (some ⟨b,0,none⟩))) :
  Calls Tryz.prog 135 #[.pointer (some ⟨b,0,none⟩)] w fun e w'=>e=.returned (.tuple #[])∧w'=w:=by
 obtain ⟨j,hj,_⟩:=arN.1 (show (Tryz.prog.info? 143).map (·.size)=some 2 by kernel_rfl)
 go_enter Tryz.func135,Tryz.ntmps135
 go_wp2
 rw[Lib.run_neq_ptr_same w _ Tryz.underlying140 hj]
 go_wp2
 go_end0
 exact ⟨rfl,rfl⟩
set_option maxRecDepth 100000 in
theorem akH (T n b:Nat) (hlies:liesAt Tryz.prog Tryz.prog.depth T (n / Tryz.prog.cellsOf T) 0 143 1=true) (hn:0<n) (w:World) (h0:w.cell? ⟨b,0,none⟩=some (.pointer none)) (hsh:w.shape? b=some (T,n)) (hfz:w.frozen? ⟨b,0,none⟩=false) :
  Calls Tryz.prog 135 #[.pointer (some ⟨b,0,none⟩)] w fun e w'=>e=.returned (.tuple #[])∧w'=w.setCell ⟨b,0,none⟩ (.pointer (some ⟨b,0,none⟩)):=by
 obtain ⟨j,hj,hjs⟩:=arN.1 (show (Tryz.prog.info? 143).map (·.size)=some 2 by kernel_rfl)
 go_enter Tryz.func135,Tryz.ntmps135
 go_wp2
 rw[Lib.run_to_unsafe w ⟨b,0,none⟩ Tryz.underlying140 Tryz.underlying226 hj (by rw[hjs];decide) hsh hn]
 simp only[Result.andThen]
 rw[Oper.upon_value]
 go_wp2
 rw[run_callFunc_extern Tryz.func166 (by kernel_rfl) (by kernel_rfl) (by kernel_rfl) (e:=Extern.AbiNoEscape.same) (by kernel_rfl)]
 rw[Lib.run_noEscape]
 simp only[Result.andThen]
 rw[Oper.upon_value]
 go_wp2
 rw[Lib.run_from_unsafe w ⟨b,0,none⟩ Tryz.underlying226 Tryz.underlying140 hj hsh hlies]
 simp only[Result.andThen]
 rw[Oper.upon_value]
 go_wp2
 go_end0
 exact ⟨rfl,rfl⟩
theorem agr (T n:Nat) (hlies:liesAt Tryz.prog Tryz.prog.depth T (n / Tryz.prog.cellsOf T) 0 143 1=true) (hn:0<n):acG Tryz.prog 135 T n:=
 ⟨⟨_,Tryz.func135,rfl,rfl⟩,fun b vs w hw hs=>⟨fun h0=>akH T n b hlies hn w (cell_of hw h0) (by rw[afE hw,hs]) (akr hw),fun h0=>amX b w (cell_of hw h0)⟩⟩
theorem aeV:acG Tryz.prog 135 143 2:=agr _ _ (by kernel_rfl) (by decide)
theorem anj:acG Tryz.prog 135 202 3:=agr _ _ (by kernel_rfl) (by decide)
set_option maxRecDepth 100000 in
theorem aiJ (T n:Nat):ant Tryz.prog 84 T n 5:=by
 refine ⟨⟨_,Tryz.func84,rfl,rfl⟩,fun b vs w g cap cur l hw hs h1 hg hnc hcm hcs hcell h0=>?_⟩
 have hl0:l.length≠0:=by simpa using h0
 have c1:w.drew.cell? ⟨b,1,none⟩=some (.slice (some ⟨g,0,none⟩) l.length cap):=cell_of (w:=w.drew) hw h1
 have hSD:(Builtin.unsafeSliceData_ #[141] 206 #[.slice (some ⟨g,0,none⟩) l.length cap]).run Tryz.prog w.drew=.ok (.pointer (some ⟨g,0,none⟩)) w.drew:=
  Lib.run_unsafeSliceData_row _ _ _ _ _ _ (by omega)
 have hUS:(Builtin.unsafeString_ #[206,3] 9 #[.pointer (some ⟨g,0,none⟩),.int .i64 l.length]).run Tryz.prog w.drew=.ok (.string ⟨l.toArray⟩) (w.drew.freeze ⟨g,0,none⟩ l.length):=by
  refine Lib.run_unsafeString_row w.drew 206 3 9 5 Tryz.underlying206 (by kernel_rfl) g cur.size (afE (w:=w.drew) hg) l h0 (by omega) (by unfold maxLen at hcm;omega) ?_
  intro j x hx
  rw[Addr.add_lit]
  exact cell_of (w:=w.drew) hg (by rw[afG];exact hcell j x hx)
 have mixed:=mixed
 go_enter Tryz.func84,Tryz.ntmps84
 go_wp2
 go_region_o
 all_goals (go_wp2;go_ret;exact ⟨rfl,rfl⟩)
end Go.Sx.Pe
namespace Go.Sx.Pe
open Go Go.Proofs Go.Sx.Pn
def nZ (l:List UInt8):Ob:=.row 5 1 l.length (fun k=>[cP (l.getD k 0)])
def apW:SV:=.p false (.val .nilIface)
theorem mV {a b:List UInt8} {n:Nat} {f g:Nat→List PV} (hn:n=a.length) (hf:∀k,k<a.length→f k=[cP (a.getD k 0)]) (hg:∀k,k<b.length→g k=[cP (b.getD k 0)]):∀k,k<(a++b).length→bN n f g k=[cP ((a++b).getD k 0)]:=by
 intro k hk
 subst hn
 unfold bN
 by_cases h:k<a.length
 ·rw[if_pos h,hf k h,aaE,aaE,aee h]
 ·have hb:k-a.length<b.length:=by rw[aaA] at hk;omega
  rw[if_neg h,hg _ hb,aaE,aaE,aeD (by omega)]
theorem one_byte {c:UInt8}:∀k,k<[c].length→bg 1 [cP c] k=[cP ([c].getD k 0)]:=by
 intro k hk
 have hk:k<1:=hk
 obtain rfl:k=0:=by omega
 rfl
theorem tX (l:List UInt8):∀k,jS (strOf l) k=[cP (l.getD k 0)]:=by
 intro k
 show [PV.val (.int .u8 ((strOf l).data.getD k 0).toNat)]=_
 have:(strOf l).data.getD k 0=l.getD k 0:=by
  show l.toArray.getD k 0=_
  simp[aci]
 rw[this];rfl
theorem afU (l:List UInt8):(strOf l).size=l.length:=by
 show l.toArray.size=_
 simp
def adr:Bool→SV
 | true=>.own 0 0
 | false=>.p false (.val (.pointer none))
def bld (T:Nat) (rest:List SV) (st:Bool:=true):Ob:=.cells T (adr st :: .row 1 :: rest)
abbrev NM := List (List UInt8)
def wbG (T:Nat) (rest:NM→List SV):qz:={ A:=Bool×NM×List UInt8×UInt8,fix:=1,args:=fun a=>[.own 0 0,cA a.2.2.2],objs:=fun a=>[bld T (rest a.2.1) a.1,nZ a.2.2.1],pre:=fun a=>a.2.2.1.length≤1000000,res:=fun _=>apW,objs':=fun a=>[bld T (rest a.2.1),nZ (a.2.2.1++[a.2.2.2])],inl:=[135] }
def wsG (T:Nat) (rest:NM→List SV):qz:={ A:=Bool×NM×List UInt8×List UInt8,fix:=1,args:=fun a=>[.own 0 0,sA a.2.2.2],objs:=fun a=>[bld T (rest a.2.1) a.1,nZ a.2.2.1],pre:=fun a=>a.2.2.1.length≤1000000∧a.2.2.2.length≤1000000,res:=fun a=>.tup [iA a.2.2.2.length,apW],objs':=fun a=>[bld T (rest a.2.1),nZ (a.2.2.1++a.2.2.2)],inl:=[135] }
def noR:NM→List SV:=fun _=>[]
def nmR:NM→List SV:=fun l=>[ssA l]
theorem sM:jJ Tryz.prog 78 (wsG 143 noR):=by
 refine oW (Tb:=tab) mixed aB Tryz.func78 rfl rfl ?_
 rintro ⟨st,a⟩ hpre
 refine ai (ai rfl (ai rfl rfl)) ?_
 have hl:a.2.1.length≤1000000:=hpre.1
 have hl2:a.2.2.length≤1000000:=hpre.2
 have hz:=afU a.2.2
 cases st with
 | true=>
  refine rW aeV rfl rfl rfl (.inl rfl) ?_
  refine ai (ai (ai rfl rfl) (ai (by show a.2.1.length+_≤_;rw[hz];unfold maxLen;omega) (by show a.2.1.length+_≤_;rw[hz];omega))) ?_
  refine ei [0,2] (ai (ai rfl (ai rfl rfl)) (ai ?_ ?_))
  ·exact (ai (iE (by simp only[zz,reduceCtorEq];rfl)) rfl)
  ·refine (ai (ai rfl (ai (ai rfl rfl) rfl)) (ai rfl (ai rfl (ai ?_ ?_))))
   ·show a.2.1.length+(strOf a.2.2).size=(a.2.1++a.2.2).length
    rw[hz,aaA]
   ·exact mV rfl (fun _ _=>rfl) (fun k _=>tX _ k)
 | false=>
  refine rW aeV rfl rfl rfl (.inr ⟨_,rfl⟩) ?_
  refine ai (ai (ai rfl rfl) (ai (by show a.2.1.length+_≤_;rw[hz];unfold maxLen;omega) (by show a.2.1.length+_≤_;rw[hz];omega))) ?_
  refine ei [0,2] (ai (ai rfl (ai rfl rfl)) (ai ?_ ?_))
  ·exact (ai (iE (by simp only[zz,reduceCtorEq];rfl)) rfl)
  ·refine (ai (ai rfl (ai (ai rfl rfl) rfl)) (ai rfl (ai rfl (ai ?_ ?_))))
   ·show a.2.1.length+(strOf a.2.2).size=(a.2.1++a.2.2).length
    rw[hz,aaA]
   ·exact mV rfl (fun _ _=>rfl) (fun k _=>tX _ k)
theorem agq:jJ Tryz.prog 78 (wsG 202 nmR):=by
 refine oW (Tb:=tab) mixed aB Tryz.func78 rfl rfl ?_
 rintro ⟨st,a⟩ hpre
 refine ai (ai rfl (ai rfl rfl)) ?_
 have hl:a.2.1.length≤1000000:=hpre.1
 have hl2:a.2.2.length≤1000000:=hpre.2
 have hz:=afU a.2.2
 cases st with
 | true=>
  refine rW anj rfl rfl rfl (.inl rfl) ?_
  refine ai (ai (ai rfl rfl) (ai (by show a.2.1.length+_≤_;rw[hz];unfold maxLen;omega) (by show a.2.1.length+_≤_;rw[hz];omega))) ?_
  refine ei [0,2] (ai (ai rfl (ai rfl rfl)) (ai ?_ ?_))
  ·exact (ai (iE (by simp only[zz,reduceCtorEq];rfl)) rfl)
  ·refine (ai (ai rfl (ai (ai rfl rfl) (ai rfl (ai rfl (fun _ _=>rfl))))) (ai rfl (ai rfl (ai ?_ ?_))))
   ·show a.2.1.length+(strOf a.2.2).size=(a.2.1++a.2.2).length
    rw[hz,aaA]
   ·exact mV rfl (fun _ _=>rfl) (fun k _=>tX _ k)
 | false=>
  refine rW anj rfl rfl rfl (.inr ⟨_,rfl⟩) ?_
  refine ai (ai (ai rfl rfl) (ai (by show a.2.1.length+_≤_;rw[hz];unfold maxLen;omega) (by show a.2.1.length+_≤_;rw[hz];omega))) ?_
  refine ei [0,2] (ai (ai rfl (ai rfl rfl)) (ai ?_ ?_))
  ·exact (ai (iE (by simp only[zz,reduceCtorEq];rfl)) rfl)
  ·refine (ai (ai rfl (ai (ai rfl rfl) (ai rfl (ai rfl (fun _ _=>rfl))))) (ai rfl (ai rfl (ai ?_ ?_))))
   ·show a.2.1.length+(strOf a.2.2).size=(a.2.1++a.2.2).length
    rw[hz,aaA]
   ·exact mV rfl (fun _ _=>rfl) (fun k _=>tX _ k)
def arn (T:Nat) (rest:NM→List SV):qz:={ A:=NM×List UInt8,fix:=1,args:=fun a=>[.own 0 0],objs:=fun a=>[bld T (rest a.1),nZ a.2],pre:=fun a=>True,res:=fun a=>iA a.2.length,objs':=fun a=>[bld T (rest a.1),nZ a.2] }
theorem aoq:jJ Tryz.prog 142 (arn 202 nmR):=by
 refine oW (Tb:=tab) mixed aB Tryz.func142 rfl rfl ?_
 rintro (a:NM×List UInt8) hpre
 refine ai (ai rfl (ai rfl rfl)) ?_
 refine ei [0,1] (ai (ai rfl (ai rfl rfl)) (ai ?_ ?_))
 ·exact rfl
 ·exact (ai (ai rfl (ai (ai rfl rfl) (ai rfl (ai rfl (fun _ _=>rfl))))) (ai rfl (ai rfl (ai rfl (fun _ _=>rfl)))))
theorem acd:jJ Tryz.prog 81 (wbG 143 noR):=by
 refine oW (Tb:=tab) mixed aB Tryz.func81 rfl rfl ?_
 rintro ⟨st,a⟩ hpre
 refine ai (ai rfl (ai rfl rfl)) ?_
 have hl:a.2.1.length≤1000000:=hpre
 cases st with
 | true=>
  refine rW aeV rfl rfl rfl (.inl rfl) ?_
  refine ai (mxL (n:=a.2.1.length+1) (by omega) (by decide)) ?_
  refine ai (lt1 rfl) ?_
  refine ei [0,3] (ai (ai rfl (ai rfl rfl)) (ai ?_ ?_))
  ·exact rfl
  ·refine (ai (ai rfl (ai (ai rfl rfl) rfl)) (ai rfl (ai rfl (ai ?_ ?_))))
   ·show a.2.1.length+1=(a.2.1++[a.2.2]).length
    simp
   ·exact mV rfl (fun _ _=>rfl) one_byte
 | false=>
  refine rW aeV rfl rfl rfl (.inr ⟨_,rfl⟩) ?_
  refine ai (mxL (n:=a.2.1.length+1) (by omega) (by decide)) ?_
  refine ai (lt1 rfl) ?_
  refine ei [0,3] (ai (ai rfl (ai rfl rfl)) (ai ?_ ?_))
  ·exact rfl
  ·refine (ai (ai rfl (ai (ai rfl rfl) rfl)) (ai rfl (ai rfl (ai ?_ ?_))))
   ·show a.2.1.length+1=(a.2.1++[a.2.2]).length
    simp
   ·exact mV rfl (fun _ _=>rfl) one_byte
def iY (sep:List UInt8):List (List UInt8)→List UInt8
 | []=>[]
 | [x]=>x
 | x :: y :: l=>x++(sep++iY sep (y :: l))
theorem acr (sep x:List UInt8):∀l:List (List UInt8),iY sep (l++[x])=if l=[] then x else iY sep l++(sep++x)
 | []=>rfl
 | [y]=>by rw[if_neg (by simp)];rfl
 | y :: z :: l=>by
  rw[if_neg (by simp)]
  show y++(sep++iY sep (z :: l++[x]))=y++(sep++iY sep (z :: l))++(sep++x)
  rw[acr sep x (z :: l),if_neg (by simp)]
  simp
def za (o:Int):List UInt8:=if o=4 then [32,124,32] else [32,38,32]
def ac5 (b:Bool) (t:List UInt8):List UInt8:=if b then 40 :: (t++[41]) else t
def brA (o x:Int):Bool:=decide (x=4)||(decide (x=3)&&decide (o≠4))
mutual
def dY (nm:NM):Ex→List UInt8
 | .node o i l=>if o=0 then [if i=0 then 48 else 49] else if o=1 then nm.getD i.toNat [] else if o=2 then 33 :: (arE nm o l).headD [] else iY (za o) (arE nm o l)
def arE (nm:NM) (o:Int):List Ex→List (List UInt8)
 | []=>[]
 | x :: l=>ac5 (brA o x.op) (dY nm x) :: arE nm o l
end
def lu (nm:NM) (o:Int) (x:Ex):List UInt8:=ac5 (brA o x.op) (dY nm x)
theorem aiA (nm:NM) (o:Int):∀l:List Ex,arE nm o l=l.map (lu nm o)
 | []=>by rw[arE];rfl
 | x :: l=>by rw[arE,aiA nm o l];rfl
theorem pX (nm:NM) (x:Ex):dY nm x=if x.op=0 then [if x.idx=0 then 48 else 49] else if x.op=1 then nm.getD x.idx.toNat [] else if x.op=2 then 33 :: (x.args.map (lu nm x.op)).headD [] else iY (za x.op) (x.args.map (lu nm x.op)):=by
 obtain ⟨o,i,l⟩:=x;rw[dY,aiA]
def wrB (o out:Int):Bool:=(decide (o=3)||decide (o=4))&&(decide (0≤out)&&(decide (o=4)||decide (out≠4)))
def o9 (nm:NM) (x:Ex) (out:Int):List UInt8:=ac5 (wrB x.op out) (dY nm x)
theorem ah5 (nm:NM) (x:Ex) {o:Int} (h:0≤o):o9 nm x o=lu nm o x:=by
 unfold o9 lu
 have:wrB x.op o=brA o x.op:=by
  unfold wrB brA
  rw[decide_eq_true h,ahS]
  by_cases h3:x.op=3
  ·rw[h3];simp
  ·by_cases h4:x.op=4
   ·rw[h4];simp
   ·rw[decide_eq_false h3,decide_eq_false h4];rfl
 rw[this]
theorem wQ (b:Bool) (t:List UInt8):(ac5 b t).length≤t.length+2:=by unfold ac5;split<;>simp
def abC (nm:NM):Prop:=∀k,(nm.getD k []).length≤100
theorem yY (sep:List UInt8):∀l:List (List UInt8),(iY sep l).length≤(l.map fun t=>t.length+sep.length).sum
 | []=>by simp[iY]
 | [x]=>by simp[iY]
 | x :: y :: l=>by
  have:=yY sep (y :: l)
  simp only[iY,aaA,anB,asN] at this ⊢
  omega
theorem ae3 (o:Int):(za o).length=3:=by unfold za;split<;>rfl
theorem abl {nm:NM} {o:Int}:∀(l:List Ex),(∀x∈l,(dY nm x).length+5≤110*x.size)→((l.map (lu nm o)).map fun t=>t.length+3).sum≤110*sizes l
 | [],_=>by simp
 | x :: l,h=>by
  have h1:=h x (by simp)
  have h2:=abl (nm:=nm) (o:=o) l fun y hy=>h y (by simp[hy])
  have h3:=wQ (brA o x.op) (dY nm x)
  rw[sizes]
  simp only[anB,asN] at h2 ⊢
  unfold lu at h2 ⊢
  omega
theorem abz {nm:NM} (hnm:abC nm):∀(n:Nat) (x:Ex),x.size≤n→(dY nm x).length+5≤110*x.size
 | 0,x,h=>by have:=size_pos x;omega
 | n+1,x,h=>by
  have hsz:=x.size_eq
  have ih:∀y∈x.args,(dY nm y).length+5≤110*y.size:=fun y hy=>abz hnm n y (by have:=lq hy;omega)
  have h4:=abl (nm:=nm) (o:=x.op) x.args ih
  rw[pX]
  split
  ·simp;omega
  ·split
   ·have:=hnm x.idx.toNat;omega
   ·split
    ·cases hc:x.args with
     | nil=>simp;omega
     | cons y l=>
      rw[hc,sizes] at hsz
      have h1:=ih y (by rw[hc];simp)
      have h3:=wQ (brA x.op y.op) (dY nm y)
      simp only[anB,List.headD_cons,aik]
      unfold lu
      omega
    ·have h5:=yY (za x.op) (x.args.map (lu nm x.op))
     rw[ae3] at h5
     omega
def jm (nm:NM) (base sep:List UInt8) (o:Int) (l:List Ex) (k:Nat):List UInt8:=base++iY sep ((l.take k).map (lu nm o))
theorem uq (nm:NM) (base sep:List UInt8) (o:Int) (l:List Ex):jm nm base sep o l 0=base:=by unfold jm;simp[iY]
theorem alU {nm:NM} {base sep:List UInt8} {o:Int} {l:List Ex} (h:0<l.length):jm nm base sep o l 1=base++lu nm o (l.getD 0 dQ):=by
 unfold jm;rw[aP dQ h];rfl
theorem aj4 {nm:NM} {base sep:List UInt8} {o:Int} {l:List Ex} {k:Nat} (h:k+1<l.length):jm nm base sep o l (k+1+1)=jm nm base sep o l (k+1)++sep++lu nm o (l.getD (k+1) dQ):=by
 unfold jm
 have hne:(l.take (k+1)).map (lu nm o)≠[]:=by
  cases l with
  | nil=>simp at h
  | cons y l=>simp
 rw[aP dQ h,aq3,List.map_singleton,acr,if_neg hne]
 simp
theorem alz (nm:NM) (base sep:List UInt8) (o:Int) (l:List Ex):jm nm base sep o l l.length=base++iY sep (l.map (lu nm o)):=by unfold jm;rw[afj]
theorem ab3 (sep:List UInt8):∀l:List (List UInt8),l≠[]→(iY sep l).length+sep.length≤(l.map fun t=>t.length+sep.length).sum
 | [],h=>absurd rfl h
 | [x],_=>by simp[iY]
 | x :: y :: l,_=>by
  have:=ab3 sep (y :: l) (by simp)
  simp only[iY,aaA,anB,asN] at this ⊢
  omega
theorem alT {nm:NM} (hnm:abC nm) {base sep:List UInt8} (hsep:sep.length=3) {o:Int} {l:List Ex} {k:Nat} (hk:k≤l.length):(jm nm base sep o l k).length+(if k=0 then 0 else 3)≤base.length+110*sizes (l.take k):=by
 have h4:=abl (nm:=nm) (o:=o) (l.take k) fun x _=>abz hnm x.size x (aff _)
 unfold jm
 rw[aaA]
 cases k with
 | zero=>simp[iY,sizes]
 | succ k=>
  have hne:(l.take (k+1)).map (lu nm o)≠[]:=by
   cases l with
   | nil=>simp at hk
   | cons y l=>simp
  have h5:=ab3 sep _ hne
  rw[hsep] at h5
  rw[if_neg (by omega)]
  omega
structure WrA where
 st:Bool
 nm:NM
 bs:List UInt8
 x:Ex
 out:Int
def aiM (a:WrA):Prop:=l5 a.nm.length a.x∧a.x.size≤256∧abC a.nm∧a.nm.length≤256∧a.bs.length+110*a.x.size≤500000
def wrG (n:Nat):qz:={ A:=WrA,fix:=1,args:=fun a=>[.own 0 0,ug a.x,iA a.out],objs:=fun a=>[bld 202 (nmR a.nm) a.st,nZ a.bs],pre:=fun a=>aiM a∧a.x.size≤n,res:=fun _=>.tup [],objs':=fun a=>[bld 202 (nmR a.nm),nZ (a.bs++o9 a.nm a.x a.out)],inl:=[141,81,78] }
def arG (st:Bool):Nat→SV
 | 0=>adr st
 | _+1=>.own 0 0
theorem ajL (c:UInt8) (h:iH c=true):gX c=true:=by
 unfold iH dU jl r9 at h
 unfold gX gu
 simp only[ao4,ae7,decide_eq_true_eq] at h ⊢
 omega
theorem ahc (c:UInt8) (h:jl c=true):gu c=true:=by
 unfold jl at h
 unfold gu
 simp only[ao4,ae7,decide_eq_true_eq] at h ⊢
 omega
theorem ajK {s:List UInt8} (h:dM s=0):s.length≤24∧resE s=false∧jw s=true:=by
 unfold dM at h
 split at h
 ·cases h
 rename_i h1
 split at h
 ·cases h
 rename_i h2
 split at h
 ·rename_i h3
  simp only[ao4,not_or,apb,Bool.not_eq_true,Bool.not_eq_false'] at h2
  obtain ⟨⟨h4,h5⟩,h6⟩:=h2
  refine ⟨by omega,h6,?_⟩
  unfold jw
  rw[akZ.2 fun c hc=>ajL c (akZ.1 h3 c hc),h4,ahc _ (by simpa using h5)];rfl
 ·cases h
def aas (b:Bool) (s:List UInt8):Bool:=decide (s.length≤24)&&(jw s&&(resE s==b))
theorem adS {b:Bool} {s:List UInt8} (h:aas b s=true):s.length≤24∧jw s=true∧resE s=b:=by
 unfold aas at h
 simp only[ae7,decide_eq_true_eq,beq_iff_eq] at h
 exact ⟨h.1,h.2.1,h.2.2⟩
theorem amM {n:Nat} (h:n≤6):(jf n).all (aas true)=true∧(jf n).Nodup∧(jf n).all (fun s=>s.getD 0 0 != 121)=true:=by
 have:∀n:Fin 7,(jf n.1).all (aas true)=true∧(jf n.1).Nodup∧(jf n.1).all (fun s=>s.getD 0 0 != 121)=true:=by decide +kernel
 exact this ⟨n,by omega⟩
theorem amv {n:Nat} (h:n≤24):(nk n).all (aas true)=true∧(nk n).Nodup∧(nk n).all (fun s=>s.getD 0 0==121)=true:=by
 have:∀n:Fin 25,(nk n.1).all (aas true)=true∧(nk n.1).Nodup∧(nk n.1).all (fun s=>s.getD 0 0==121)=true:=by decide +kernel
 exact this ⟨n,by omega⟩
theorem ah6 {α:Type} [BEq α] [LawfulBEq α] {x:α} {l:List α}:l.any (fun y=>x==y)=false↔x∉l:=by
 rw[arM]
 constructor
 ·intro h hx;exact h x hx (by simp)
 ·intro h y hy e;exact h (by rw[beq_iff_eq.1 e];exact hy)
theorem ajF {α:Type} {l:List α} {k:Nat} {d:α} (hn:l.Nodup) (hk:k<l.length):l.getD k d∉l.take k:=by
 have h1:(l.take (k+1)).Nodup:=hn.sublist (List.take_sublist _ _)
 rw[aP d hk,asw] at h1
 intro hx
 exact h1.2.2 _ hx _ (afq.2 rfl) rfl
theorem aeI {α:Type} {d:α}:∀{l:List α},(∀k,k<l.length→l.getD k d∉l.take k)→l.Nodup:=by
 intro l h
 rw[List.Nodup,ar6]
 intro i j hi hj hij e
 refine h j hj ?_
 have e2:l.getD j d=l[j]:=by rw[aaE,aaC hj];rfl
 rw[e2,←e]
 exact List.mem_iff_getElem.2 ⟨i,by rw[aiq];omega,by simp⟩
theorem ahl {l:List (List UInt8)} (h:dJ l=0):(∀s∈l,s.length≤24∧resE s=false∧jw s=true)∧l.Nodup:=by
 unfold dJ at h
 split at h
 ·cases h
 have h1:=oz h
 have key:∀k,k<l.length→dM (l.getD k [])=0∧l.getD k []∉l.take k:=fun k hk=>by
  have h2:=h1 k hk
  unfold q9 at h2
  split at h2
  ·rename_i h3;exact absurd h2 h3
  rename_i h3
  split at h2
  ·cases h2
  rename_i h4
  exact ⟨aqv.1 h3,ah6.1 (aq7.2 h4)⟩
 refine ⟨fun s hs=>?_,aeI (d:=[]) fun k hk=>(key k hk).2⟩
 obtain ⟨k,hk,rfl⟩:=apr hs
 have:=(key k hk).1
 rw[aaE,aaC hk] at this
 exact ajK this
theorem qH {c:aS} (h:bD c=0):(∀s∈dP c,s.length≤24∧jw s=true)∧(dP c).Nodup∧((dP c).length:Int)=nU c∧(dP c).length≤52:=by
 obtain ⟨h1,h2,h3,_⟩:=jg h
 have hi:=ahl h2
 have hil:=rJ h2
 obtain ⟨a1,a2,a3⟩:=amM (n:=c.act.toNat) (by omega)
 obtain ⟨b1,b2,b3⟩:=amv (n:=c.sts.length) (by omega)
 have A:∀s∈jf c.act.toNat,s.length≤24∧jw s=true∧resE s=true:=fun s hs=>adS (akZ.1 a1 s hs)
 have B:∀s∈nk c.sts.length,s.length≤24∧jw s=true∧resE s=true:=fun s hs=>adS (akZ.1 b1 s hs)
 refine ⟨fun s hs=>?_,?_,?_,?_⟩
 ·unfold dP at hs
  simp only[afA] at hs
  rcases hs with (hs | hs) | hs
  ·exact ⟨(A s hs).1,(A s hs).2.1⟩
  ·exact ⟨(hi.1 s hs).1,(hi.1 s hs).2.2⟩
  ·exact ⟨(B s hs).1,(B s hs).2.1⟩
 ·unfold dP
  rw[asw,asw]
  refine ⟨⟨a2,hi.2,fun x hx y hy e=>?_⟩,b2,fun x hx y hy e=>?_⟩
  ·subst e;have:=(A x hx).2.2;rw[(hi.1 x hy).2.1] at this;cases this
  ·subst e
   rcases afA.1 hx with hx | hx
   ·have p:=akZ.1 a3 x hx
    have q:=akZ.1 b3 x hy
    rw[beq_iff_eq] at q
    rw[q] at p;cases p
   ·have:=(B x hy).2.2;rw[(hi.1 x hx).2.1] at this;cases this
 ·unfold dP nU
  rw[aaA,aaA,aaf,aar];omega
 ·unfold dP
  rw[aaA,aaA,aaf,aar];omega
theorem ajh {c:aS} (h:bD c=0):jY (dP c)=0:=by
 obtain ⟨h1,h2,_,h3⟩:=qH h
 unfold jY
 rw[if_neg (by omega)]
 refine fQ fun k hk=>?_
 have hm:(dP c).getD k []∈dP c:=aaS (bH [] hk)
 have:=h1 _ hm
 unfold oN
 rw[if_neg (by rw[this.2];decide),if_neg (by omega),if_neg]
 rw[ah6.2 (ajF h2 hk)];decide
theorem ab8 {nm:NM} {o:Int}:∀(l:List Ex),(∀x∈l,(dY nm x).length+5≤34*x.size)→((l.map (lu nm o)).map fun t=>t.length+3).sum≤34*sizes l
 | [],_=>by simp
 | x :: l,h=>by
  have h1:=h x (by simp)
  have h2:=ab8 (nm:=nm) (o:=o) l fun y hy=>h y (by simp[hy])
  have h3:=wQ (brA o x.op) (dY nm x)
  rw[sizes]
  simp only[anB,asN] at h2 ⊢
  unfold lu at h2 ⊢
  omega
theorem abF {nm:NM} (hnm:∀k,(nm.getD k []).length≤24):∀(n:Nat) (x:Ex),x.size≤n→(dY nm x).length+5≤34*x.size
 | 0,x,h=>by have:=size_pos x;omega
 | n+1,x,h=>by
  have hsz:=x.size_eq
  have ih:∀y∈x.args,(dY nm y).length+5≤34*y.size:=fun y hy=>abF hnm n y (by have:=lq hy;omega)
  have h4:=ab8 (nm:=nm) (o:=x.op) x.args ih
  rw[pX]
  split
  ·simp;omega
  ·split
   ·have:=hnm x.idx.toNat;omega
   ·split
    ·cases hc:x.args with
     | nil=>simp;omega
     | cons y l=>
      rw[hc,sizes] at hsz
      have h1:=ih y (by rw[hc];simp)
      have h3:=wQ (brA x.op y.op) (dY nm y)
      simp only[anB,List.headD_cons,aik]
      unfold lu
      omega
    ·have h5:=yY (za x.op) (x.args.map (lu nm x.op))
     rw[ae3] at h5
     omega
theorem agN {c:aS} (h:bD c=0) (k:Nat):((dP c).getD k []).length≤24:=by
 rcases apF k (dP c).length with hk | hk
 ·exact ((qH h).1 _ (aaS (bH [] hk))).1
 ·rw[aaE,aqY hk];simp
theorem p8 {a b:ByteArray} {l m:List UInt8} (ha:a=strOf l) (hb:b=strOf m) (h:l.length+m.length≤9223372036854775807):(((a.size+b.size:Nat)):Int)≤9223372036854775807:=by
 subst ha hb;rw[dI,dI];omega
def stepW:List UInt8:=[115,116,101,112,32]
def iJ (l:List Sk):List UInt8:=l.flatMap fun y=>32 :: nP y
def sH (w:Int):List UInt8:=if 0<w then 32 :: dec w.toNat else []
def gJ (k:Nat):List UInt8:=(stepW++dec k)++[58]
def lnK (k:Nat) (x:Stp):List UInt8:=((gJ k++iJ x.st)++sH x.wt)++[10]
def bK (l:List Stp):Nat→List UInt8
 | 0=>[]
 | k+1=>bK l k++lnK k (l.getD k st0)
def lnT (nm:NM) (t:iU):List UInt8:=(((((inT t.fr++[32,62,32])++inT t.to)++[58,32])++dY nm t.wh)++[10])
def nA (nm:NM) (l:List iU):Nat→List UInt8
 | 0=>[]
 | k+1=>nA nm l k++lnT nm (l.getD k aM)
def ajf (c:aS):List UInt8:=bK c.sts c.sts.length++nA (dP c) c.trs c.trs.length
def uJ (c:aS):PV:=.tup [sP (if bD c=0 then ajf c else []),iP (bD c)]
theorem agk:∀(j n:Nat),n<10 ^ j→(adE n).length≤j
 | 0,n,h=>by
  have:n=0:=by rw[Nat.pow_zero] at h;omega
  subst this;simp[adE]
 | j+1,n,h=>by
  rw[akS]
  split
  ·simp
  ·have:=agk j (n / 10) (by rw[Nat.div_lt_iff_lt_mul (by decide)];rw[Nat.pow_succ] at h;exact h)
   rw[aaA,asC];omega
theorem aa9 {n:Nat} (h:n≤1000000):(dec n).length≤7:=by
 by_cases h0:n=0
 ·subst h0;have:=uZ (n:=0) (by decide);omega
 ·have:=agk 7 n (by show n<10 ^ 7;omega)
  unfold adE at this
  rw[if_neg h0] at this;exact this
theorem adl (l:List Sk):(iJ l).length=3*l.length:=by
 induction l with
 | nil=>rfl
 | cons x l ih=>
  show ((32 :: nP x)++iJ l).length=_
  rw[aaA,ih]
  simp[nP];omega
theorem aog {w:Int} (h:w≤1000000):(sH w).length≤8:=by
 unfold sH
 split
 ·have:=aa9 (n:=w.toNat) (by omega)
  rw[aik];omega
 ·simp
theorem akF {n:Int} {l:List Int} (h0:∀x∈l,0≤x∧x<n) (h1:∀k,0<k→k<l.length→l.getD (k-1) 0<l.getD k 0):(l.length:Int)≤max n 0:=by
 have key:∀k,k<l.length→(k:Int)≤l.getD k 0:=by
  intro k
  induction k with
  | zero=>intro hk;exact (h0 _ (aaS (bH 0 hk))).1
  | succ k ih=>
   intro hk
   have:=h1 (k+1) (by omega) hk
   have:=ih (by omega)
   simp only[Nat.add_sub_cancel] at *
   omega
 rcases apq l.length with h | h
 ·omega
 ·have h2:=key (l.length-1) (by omega)
  have h3:=(h0 _ (aaS (bH 0 (show l.length-1<l.length by omega)))).2
  omega
theorem af5 {n:Nat} {l:List Int} (h:gP n l=0) (hn:n≤24):l.length≤24:=by
 have h0:=(aay h hn).2.1
 unfold gP at h
 split at h
 ·cases h
 have h1:=oz h
 have:=akF (n:=(n:Int)) (l:=l) h0 fun k hk hl=>by
  have h2:=h1 k hl
  unfold mq at h2
  split at h2
  ·cases h2
  split at h2
  ·cases h2
  ·rename_i h3;omega
 omega
theorem aoD {act:Int} {x:Stp} (ha:1≤act∧act≤6) (h:eO act x=0):x.st.length≤6∧okS 6 x.st∧0≤x.wt∧x.wt≤1000000:=by
 unfold eO at h
 split at h
 ·rename_i h1;exact absurd h h1
 rename_i h1
 split at h
 ·cases h
 rename_i h2
 have h3:=oz (aqv.1 h1)
 have hk:∀k,k<x.st.length→(0≤(x.st.getD k bI).1∧(x.st.getD k bI).1<act)∧(0<k→(x.st.getD (k-1) bI).1<(x.st.getD k bI).1):=fun k hk=>by
  have h4:=h3 k hk
  unfold iZ at h4
  split at h4
  ·cases h4
  split at h4
  ·cases h4
  ·rename_i h5 h6;exact ⟨by omega,fun h7=>by omega⟩
 have hs:okS 6 x.st:=fun y hy=>by
  obtain ⟨k,hk1,rfl⟩:=apr hy
  have:=(hk k hk1).1
  rw[aaE,aaC hk1] at this
  have this:0≤x.st[k].1∧x.st[k].1<act:=this
  omega
 refine ⟨?_,hs,by omega,by omega⟩
 have gm:∀k,k<x.st.length→(x.st.map (·.1)).getD k 0=(x.st.getD k bI).1:=fun k hk1=>by
  rw[aaE,aaE,ait,aaC hk1];rfl
 have:=akF (n:=6) (l:=x.st.map (·.1)) (fun y hy=>by
  obtain ⟨z,hz,rfl⟩:=arK.1 hy
  exact hs z hz) fun k hk0 hkl=>by
   rw[anq] at hkl
   rw[gm k hkl,gm (k-1) (by omega)]
   exact (hk k hkl).2 hk0
 rw[anq] at this
 omega
theorem agT {c:aS} (h:bD c=0) {k:Nat} (hk:k<c.sts.length):(c.sts.getD k st0).st.length≤6∧okS 6 (c.sts.getD k st0).st∧0≤(c.sts.getD k st0).wt∧(c.sts.getD k st0).wt≤1000000:=by
 obtain ⟨h1,_,_,_,h5,_⟩:=jg h
 exact aoD h1 (h5 k hk)
theorem ada {k:Nat} (h:k<100):(gJ k).length≤8:=by
 have:=uZ h
 unfold gJ stepW
 simp only[aaA,aik,anl];omega
theorem aoA {k:Nat} {x:Stp} (h:k<100) (h1:x.st.length≤6) (h2:x.wt≤1000000):(lnK k x).length≤35:=by
 have h3:=ada h
 have h4:=adl x.st
 have h5:=aog h2
 unfold lnK
 simp only[aaA,aik,anl];omega
theorem ag6 {c:aS} (h:bD c=0):∀{k:Nat},k≤c.sts.length→(bK c.sts k).length≤35*k
 | 0,_=>by simp[bK]
 | k+1,hk=>by
  have h1:=agT h (k:=k) (by omega)
  have h2:=(jg h).2.2.1
  have h3:=aoA (k:=k) (by omega) h1.1 h1.2.2.2
  have h4:=ag6 h (k:=k) (by omega)
  rw[bK,aaA];omega
theorem aie {c:aS} (h:bD c=0) {k:Nat} (hk:k<c.trs.length):((c.trs.getD k aM).fr.length≤24∧(c.trs.getD k aM).to.length≤24)∧(c.trs.getD k aM).to≠[]∧(c.trs.getD k aM).wh.size≤256∧l5 (dP c).length (c.trs.getD k aM).wh:=by
 obtain ⟨_,_,h3,_,_,h6⟩:=jg h
 have h7:=h6 k hk
 have hw:=(kS h hk).2.2
 unfold iF at h7
 split at h7
 ·rename_i h8;exact absurd h7 h8
 rename_i h8
 split at h7
 ·rename_i h9;exact absurd h7 h9
 rename_i h9
 have h9:=aqv.1 h9
 have hn:=(qH h).2.2.1
 obtain ⟨_,h10,h11⟩:=aaJ.1 hw
 refine ⟨⟨af5 (aqv.1 h8) h3.2,af5 h9 h3.2⟩,?_,h10.1,by rw[hn];exact h11⟩
 have:=(aay h9 h3.2).2.2
 intro e
 rw[e] at this;simp at this
theorem anx {c:aS} (h:bD c=0):abC (dP c):=fun k=>aiC (agN h k) (by decide)
theorem wJ {n:Nat} {l:List Int} (h:fU n l) (hn:n≤24):fU 100 l:=fun x hx=>by have:=h x hx;omega
theorem air {c:aS} (h:bD c=0) {k:Nat} (hk:k<c.trs.length):((inT (c.trs.getD k aM).fr).length≤72∧(inT (c.trs.getD k aM).to).length≤72)∧(dY (dP c) (c.trs.getD k aM).wh).length≤28160∧(lnT (dP c) (c.trs.getD k aM)).length≤28310:=by
 obtain ⟨h1,h2,h3,h4⟩:=aie h hk
 have h5:=kS h hk
 have h6:=adK (wJ h5.1.1 (by decide))
 have h7:=adK (wJ h5.2.1.1 (by decide))
 have h8:=abz (anx h) _ _ (aff (c.trs.getD k aM).wh.size)
 refine ⟨⟨by omega,by omega⟩,by omega,?_⟩
 unfold lnT
 simp only[aaA,aik,anl];omega
theorem af0 {c:aS} (h:bD c=0):∀{k:Nat},k≤c.trs.length→(nA (dP c) c.trs k).length≤28310*k
 | 0,_=>by simp[nA]
 | k+1,hk=>by
  have h1:=air h (k:=k) (by omega)
  have h2:=af0 h (k:=k) (by omega)
  rw[nA,aaA];omega
def aqy:SV:=.p false (.val (.pointer none))
def arw:Nat→SV
 | 0=>aqy
 | _+1=>.own 1 0
def ac3 (l:List UInt8) (k:Nat):List PV:=[cP (l.getD k 0)]
theorem lU {l m:List UInt8} (h:l=m) {n:Nat}:∀j,j<n→ac3 l j=ac3 m j:=fun j _=>by rw[h]
def pJ:SV:=.p false (.val (.pointer none))
def yZ:SV:=.p false (.val (.slice none 0 0))
theorem agS {P:Program} {f T:Nat} {A:Type} {args:A→List SV} {rest:A→List SV} {pre:A→Prop} {res:A→SV} {objs':A→List Ob}
  (h:jJ P f { A:=A,fix:=1,args:=args,objs:=fun a=>[.cells T (pJ :: .row 1 :: rest a),nZ []],pre:=pre,res:=res,objs':=objs' }) :
  jJ P f { A:=A,fix:=1,args:=args,objs:=fun a=>[.cells T (pJ :: yZ :: rest a)],pre:=pre,res:=res,objs':=objs' }:=by
 refine ⟨h.1,fun a hp base E vs w hg H hA=>?_⟩
 have H:bn (y9 w E [.cells T (pJ :: yZ :: rest a)] base 1) E (iB [.cells T (pJ :: yZ :: rest a)]) w:=H
 have hA:jN E vs (args a):=hA
 have hn1:∀i,1≤i→E.hd i=none:=fun i hi=>H.new i hi
 obtain ⟨E2,hE2⟩:∃E2:Env,E2={ E with hd:=fun i=>if i=1 then some (.slice none 0 0) else E.hd i }:=⟨_,rfl⟩
 have hd1:E2.hd 1=some (.slice none 0 0):=by rw[hE2];rfl
 have hdn:∀i,i≠1→E2.hd i=E.hd i:=fun i hi=>by rw[hE2];exact if_neg hi
 have hm:E2.mem=E.mem:=by rw[hE2]
 have ht:E2.tm=E.tm:=by rw[hE2]
 have hws:E2.ws=E.ws:=by rw[hE2]
 have hI:E2.I=E.I:=by rw[hE2]
 have hk:E2.k=E.k:=by rw[hE2]
 have hle:E.Le E2:=⟨fun i v hv=>by
  by_cases hi:i=1
  ·subst hi;rw[hn1 1 (aff _)] at hv;cases hv
  ·rw[hdn i hi];exact hv,fun b cs hb=>by rw[hm];exact hb,ht⟩
 have hbl:∀i,i≠1→E2.blk i=E.blk i:=fun i hi=>by unfold Env.blk;rw[hdn i hi]
 have hb1:E2.blk 1=none:=by unfold Env.blk;rw[hd1];rfl
 have hbor:kC E2.hd [.cells T (pJ :: .row 1 :: rest a),nZ []] 0=kC E.hd [.cells T (pJ :: yZ :: rest a)] 0:=by
  funext b
  refine propext ⟨fun ⟨k,o,_,hk,hb⟩=>?_,fun ⟨k,o,_,hk,hb⟩=>?_⟩
  ·match k with
   | 0=>exact ⟨0,_,aff _,rfl,by rw[←hdn 0 (by decide)];exact hb⟩
   | 1=>rw[hd1] at hb;cases hb
   | k+2=>simp at hk
  ·match k with
   | 0=>exact ⟨0,_,aff _,rfl,by rw[hdn 0 (by decide)];exact hb⟩
   | k+1=>simp at hk
 have hobj:∀i o,(iB [.cells T (pJ :: .row 1 :: rest a),nZ []]).obj i=some o→i=0∧o=.cells T (pJ :: .row 1 :: rest a)∨i=1∧o=nZ []:=fun i o ho=>by
  rw[dO] at ho
  match i with
  | 0=>cases ho;exact .inl ⟨rfl,rfl⟩
  | 1=>cases ho;exact .inr ⟨rfl,rfl⟩
  | i+2=>simp at ho
 have ob0:(iB [.cells T (pJ :: yZ :: rest a)]).obj 0=some (.cells T (pJ :: yZ :: rest a)):=by rw[dO];rfl
 have HR:bn (y9 w E2 [.cells T (pJ :: .row 1 :: rest a),nZ []] base 1) E2 (iB [.cells T (pJ :: .row 1 :: rest a),nZ []]) w:=by
  refine ⟨fun i o ho=>?_,fun i j o o' b ho ho' hb hb'=>?_,fun i o b ho hb=>?_,fun b cs hb=>H.mem b cs (by rw[←hm];exact hb),fun b cs hb=>hb,fun b cs hb=>.inl hb,fun i hi=>?_,?_,?_,fun k _=>rfl,by show 1≤2;decide,abY _,by rw[hk];exact H.kk⟩
  ·rcases hobj i o ho with ⟨rfl,rfl⟩ | ⟨rfl,rfl⟩
   ·cases (H.ob 0 _ ob0).mono hle with
    | cells b T vs cs hh hw hl h1 he=>
     refine .cells b T vs _ hh hw hl h1 fun k u s hu hs=>?_
     match k with
     | 0=>exact he 0 u s hu hs
     | 1=>
      cases hs
      have:=he 1 u yZ hu rfl
      cases this with
      | p _ _ _ hp=>cases hp;exact .row 1 _ hd1 rfl
     | k+2=>exact he (k+2) u s hu hs
   ·exact .row 5 1 0 _ _ [] (fun _ _=>undef) hd1 ⟨rfl,.inl ⟨rfl,rfl⟩⟩ (abY _) (fun j hj=>absurd hj (akN _)) (fun j _ _ hj=>absurd hj (akN _)) (fun j _ _ hj=>absurd hj (akN _))
  ·rcases hobj i o ho with ⟨rfl,rfl⟩ | ⟨rfl,rfl⟩
   ·rcases hobj j o' ho' with ⟨rfl,rfl⟩ | ⟨rfl,rfl⟩
    ·rfl
    ·rw[hb1] at hb';cases hb'
   ·rw[hb1] at hb;cases hb
  ·rcases hobj i o ho with ⟨rfl,rfl⟩ | ⟨rfl,rfl⟩
   ·have:=H.own 0 _ b ob0 (by rw[←hbl 0 (by decide)];exact hb)
    unfold Env.mine at this ⊢
    rw[hm,hws,hI];exact this
   ·rw[hb1] at hb;cases hb
  ·have hi:2≤i:=hi
   rw[hdn i (by omega)];exact hn1 i (by omega)
  ·rw[ht];exact H.base
  ·obtain ⟨f1,f2,f3,f4,f5,f6,f7,f8,f9⟩:=H.fr
   refine ⟨f1,f2,f3,by rw[hws];exact f4,by rw[hws];exact f5,by rw[hws];exact f6,by rw[hws,hI];exact f7,by rw[hws,hI];exact f8,?_⟩
   obtain ⟨g1,g2,g3⟩:=f9
   exact ⟨by rw[hk];exact g1,by rw[hI];exact g2.trans hbor.symm,by rw[hws];exact g3⟩
 refine (h.2 a hp base E2 vs w (fun p hp=>by rw[hm];exact hg p hp) HR ⟨hA.1,fun k u s hu hs=>(hA.2 k u s hu hs).mono hle⟩).mono fun e w' ⟨v,E',he,hv,R⟩=>⟨v,E',he,hv,?_⟩
 obtain ⟨r1,r2,r3,r4,r5,r6,r7,r8,⟨f1,f2,f3,f4,f5,f6,f7,f8,g1,g2,g3⟩,r10,r11,r12,r13⟩:=R
 refine ⟨r1,r2,r3,r4,fun b cs hb=>r5 b cs (by show E2.mem b=some cs;rw[hm];exact hb),fun b cs hb=>(r6 b cs hb).imp (fun hb=>by show E.mem b=some cs;rw[←hm];exact hb) id,r7,r8,⟨f1,f2,f3,f4,f5,f6,f7,f8,g1,g2.trans hbor,g3⟩,fun k hk=>(r10 k hk).trans (hdn k (by have hk:k<1:=hk;omega)),r11,r12,r13⟩
theorem amc {sep:List UInt8} {l:List (List UInt8)} (hs:sep≠[]) (h:2≤l.length):iY sep l≠[]:=by
 match l with
 | x :: y :: l=>
  intro e
  have:(iY sep (x :: y :: l)).length=0:=by rw[e];rfl
  simp only[iY,aaA] at this
  have:sep.length=0:=by omega
  exact hs (aoZ.1 this)
theorem amR {nm:NM} {x:Ex} (hg:l5 nm.length x) (hn:∀s∈nm,s≠[]):dY nm x≠[]:=by
 obtain ⟨hn0,_⟩:=(wL _ _).1 hg
 obtain ⟨ho,hle,hi⟩:=rD hn0
 rw[pX]
 split
 ·simp
 rename_i h0
 split
 ·rename_i h1
  have ht:vW x.op nm.length=nm.length-1:=by unfold vW;rw[if_neg h0,if_pos h1]
  rw[ht] at hi
  exact hn _ (aaS (bH [] (show x.idx.toNat<nm.length by omega)))
 rename_i h1
 split
 ·simp
 ·rename_i h2
  have:oH x.op=2:=by unfold oH;rw[if_neg h2,if_pos (by omega)]
  exact amc (by unfold za;split<;>simp) (by rw[anq];omega)
theorem aok {nm:NM} {x:Ex} {out:Int} (h:out<0):o9 nm x out=dY nm x:=by
 unfold o9 wrB
 rw[decide_eq_false (show ¬0≤out by omega),anC,apv];rfl
def wrC (Q:WrA→Prop):qz:={ wrG 0 with pre:=fun a=>aiM a∧Q a }
theorem arz:jJ Tryz.prog 141 (wrC fun a=>a.st=true∧a.x.op=1):=by
 refine oW (Tb:=tab) mixed aB Tryz.func141 rfl rfl ?_
 rintro ⟨st,nm,bs,x,out⟩ hpre
 refine ai (ai rfl (ai rfl rfl)) ?_
 obtain ⟨⟨hg,hs,hnm,hnl,hlen⟩,hst,hQ⟩:=hpre
 obtain rfl:st=true:=hst
 have hg:l5 nm.length x:=hg
 have hnm:abC nm:=hnm
 have hlen:bs.length+110*x.size≤500000:=hlen
 obtain ⟨hn0,hga⟩:=(wL _ _).1 hg
 obtain ⟨ho,hle,hi⟩:=rD hn0
 have hA:=pX nm x
 have hQ:x.op=1:=hQ
 refine ah (p:=x.op=0) (gY (by omega)) (fun h0=>?_) (fun h0=>?_)
 ·exact absurd h0 (by omega)
 rw[if_neg h0] at hA
 refine ah (p:=x.op=1) (gY (by omega)) (fun h1=>?_) (fun h1=>?_)
 ·rw[if_pos h1] at hA
  have hnk:(nm.getD x.idx.toNat []).length≤100:=hnm _
  have ht:vW x.op nm.length=nm.length-1:=by rw[h1];rfl
  rw[ht] at hi
  have hW:o9 nm x out=nm.getD x.idx.toNat []:=by
   unfold o9 wrB;rw[hA,h1];rfl
  refine ei (.one 0 (.one 1 (.one 2 (.one 3 (.one 4 (.one 5 (.one 6 (.one 7 (.one 8 (.one 9 (.one 10 (.wr 11 .done)))))))))))) (ai (by kernel_rfl) ?_)
  refine ai (ai hi.1 (by show x.idx<(nm.length:Int);omega)) ?_
  refine ai rfl ?_
  refine eB (agq) ((true,nm,bs,nm.getD x.idx.toNat [])) [0,1] (a4 (ai rfl rfl)) (Or.inl rfl) (by exact (ai (ai rfl rfl) rfl)) (by exact (ai (ai rfl (ai (ai rfl rfl) (ai rfl (ai rfl (fun _ _=>rfl))))) (ai rfl (ai rfl (ai rfl (fun _ _=>rfl)))))) (⟨by show bs.length≤1000000;omega,by show (nm.getD x.idx.toNat []).length≤1000000;exact aiC hnk (by decide)⟩) ?_
  refine ei [0,3] (ai (ai rfl (ai rfl rfl)) (ai (by exact trivial) ?_))
  refine (ai (ai rfl (ai (ai rfl rfl) (ai rfl (ai rfl (fun _ _=>rfl))))) (ai rfl (ai rfl (ai ?_ ?_))))
  ·exact congrArg List.length (congrArg (fun t=>bs++t) hW.symm)
  ·exact fun k _=>congrArg (fun l=>[cP (l.getD k 0)]) (congrArg (fun t=>bs++t) hW.symm)
 exact absurd hQ h1
theorem alO:jJ Tryz.prog 141 (wrC fun a=>a.st=false∧a.x.op=1):=by
 refine oW (Tb:=tab) mixed aB Tryz.func141 rfl rfl ?_
 rintro ⟨st,nm,bs,x,out⟩ hpre
 refine ai (ai rfl (ai rfl rfl)) ?_
 obtain ⟨⟨hg,hs,hnm,hnl,hlen⟩,hst,hQ⟩:=hpre
 obtain rfl:st=false:=hst
 have hg:l5 nm.length x:=hg
 have hnm:abC nm:=hnm
 have hlen:bs.length+110*x.size≤500000:=hlen
 obtain ⟨hn0,hga⟩:=(wL _ _).1 hg
 obtain ⟨ho,hle,hi⟩:=rD hn0
 have hA:=pX nm x
 have hQ:x.op=1:=hQ
 refine ah (p:=x.op=0) (gY (by omega)) (fun h0=>?_) (fun h0=>?_)
 ·exact absurd h0 (by omega)
 rw[if_neg h0] at hA
 refine ah (p:=x.op=1) (gY (by omega)) (fun h1=>?_) (fun h1=>?_)
 ·rw[if_pos h1] at hA
  have hnk:(nm.getD x.idx.toNat []).length≤100:=hnm _
  have ht:vW x.op nm.length=nm.length-1:=by rw[h1];rfl
  rw[ht] at hi
  have hW:o9 nm x out=nm.getD x.idx.toNat []:=by
   unfold o9 wrB;rw[hA,h1];rfl
  refine ei (.one 0 (.one 1 (.one 2 (.one 3 (.one 4 (.one 5 (.one 6 (.one 7 (.one 8 (.one 9 (.one 10 (.wr 11 .done)))))))))))) (ai (by kernel_rfl) ?_)
  refine ai (ai hi.1 (by show x.idx<(nm.length:Int);omega)) ?_
  refine ai rfl ?_
  refine eB (agq) ((false,nm,bs,nm.getD x.idx.toNat [])) [0,1] (a4 (ai rfl rfl)) (Or.inl rfl) (by exact (ai (ai rfl rfl) rfl)) (by exact (ai (ai rfl (ai rfl (ai rfl (ai rfl (fun _ _=>rfl))))) (ai rfl (ai rfl (ai rfl (fun _ _=>rfl)))))) (⟨by show bs.length≤1000000;omega,by show (nm.getD x.idx.toNat []).length≤1000000;exact aiC hnk (by decide)⟩) ?_
  refine ei [0,3] (ai (ai rfl (ai rfl rfl)) (ai (by exact trivial) ?_))
  refine (ai (ai rfl (ai (ai rfl rfl) (ai rfl (ai rfl (fun _ _=>rfl))))) (ai rfl (ai rfl (ai ?_ ?_))))
  ·exact congrArg List.length (congrArg (fun t=>bs++t) hW.symm)
  ·exact fun k _=>congrArg (fun l=>[cP (l.getD k 0)]) (congrArg (fun t=>bs++t) hW.symm)
 exact absurd hQ h1
theorem ari:jJ Tryz.prog 141 (wrC fun a=>a.st=false∧(a.x.op=3∧a.out<0)∧∀y∈a.x.args,y.op=1):=by
 refine oW (Tb:=tab) mixed aB Tryz.func141 rfl rfl ?_
 rintro ⟨st,nm,bs,x,out⟩ hpre
 refine ai (ai rfl (ai rfl rfl)) ?_
 obtain ⟨⟨hg,hs,hnm,hnl,hlen⟩,hst,hQ,hv⟩:=hpre
 obtain rfl:st=false:=hst
 have hv:∀y∈x.args,y.op=1:=hv
 have hg:l5 nm.length x:=hg
 have hs:x.size≤256:=hs
 have hnm:abC nm:=hnm
 have hnl:nm.length≤256:=hnl
 have hlen:bs.length+110*x.size≤500000:=hlen
 have hsp:=size_pos x
 have hal:=vM x
 have hsz:=x.size_eq
 obtain ⟨hn0,hga⟩:=(wL _ _).1 hg
 obtain ⟨ho,hle,hi⟩:=rD hn0
 have hA:=pX nm x
 have hQ:x.op=3∧out<0:=hQ
 refine ah (p:=x.op=0) (gY (by omega)) (fun h0=>?_) (fun h0=>?_)
 ·exact absurd h0 (by omega)
 rw[if_neg h0] at hA
 refine ah (p:=x.op=1) (gY (by omega)) (fun h1=>?_) (fun h1=>?_)
 ·exact absurd h1 (by omega)
 rw[if_neg h1] at hA
 refine ah (p:=x.op=2) (gY (by omega)) (fun h2=>?_) (fun h2=>?_)
 ·exact absurd h2 (by omega)
 rw[if_neg h2] at hA
 have hl2:2≤x.args.length:=by
  have:oH x.op=2:=by unfold oH;rw[if_neg h2,if_pos (by omega)]
  omega
 have hW:o9 nm x out=dY nm x:=by
  unfold o9 wrB;rw[decide_eq_false (show ¬0≤out by omega)];simp[ac5]
 refine ah (p:=0≤out) (cB (by omega)) (fun h3=>?_) (fun h3=>?_)
 ·exact absurd h3 (by omega)
 refine ah (p:=x.op=4) (gY (by omega)) (fun h4=>?_) (fun h4=>?_)
 ·exact absurd h4 (by omega)
 ·refine ei (bC.inv { X:=Nat,up:=fun k=>[(71,.s (iA k))],uo:=fun k=>[⟨0,202,[.s (arG false k),.rw 5 1 (jm nm (bs) [32,38,32] x.op x.args k).length (fun j=>[cP ((jm nm (bs) [32,38,32] x.op x.args k).getD j 0)]),.s (ssA nm)]⟩],inv:=fun k=>k≤x.args.length∧(True),meas:=fun k=>x.args.length-k,x0:=0 }) ?_
  refine ai (ai (ai (by exact (a4 (ai rfl rfl))) (ai ?_ ?_)) rfl) (ai (ai (abY _) ?_) ?_)
  ·exact (ai (ai (fun _=>rfl) (iE (by simp only[zz,reduceCtorEq];rfl))) rfl)
  ·refine (ai (ai (ai (ai nof rfl) rfl) (ai (ai rfl (ai rfl (ai ?_ ?_))) (ai (ai nof (ai rfl (fun _ _=>rfl))) rfl))) trivial)
   ·exact congrArg List.length (uq nm (bs) [32,38,32] x.op x.args).symm
   ·exact fun j _=>congrArg (fun l=>[cP (l.getD j 0)]) (uq nm (bs) [32,38,32] x.op x.args).symm
  ·trivial
  intro (k:Nat) ⟨hk,_⟩
  have hpl:=alT (nm:=nm) (base:=bs) (sep:=[32,38,32]) (o:=x.op) hnm rfl hk
  cases k with
  | zero=>
   have hk0:0<x.args.length:=by omega
   refine ah (p:=0<x.args.length) (au (by dsimp only;omega)) (fun h5=>?_) (fun h5=>?_)
   ·refine ai (ai (aaI _) (iN (n:=x.args.length) (by omega))) (ai rfl ?_)
    have hy:x.args.getD 0 dQ∈x.args:=aaS (vJ hk0)
    have hms:=lq hy
    have hb0:=congrArg List.length (uq nm (bs) [32,38,32] x.op x.args)
    have hB:(bs).length≤bs.length+1:=by simp
    refine eB (alO) (⟨false,nm,jm nm (bs) [32,38,32] x.op x.args 0,x.args.getD 0 dQ,x.op⟩) [0,3] (a4 (ai rfl rfl)) (Or.inl rfl) (by exact (ai (ai rfl rfl) (ai (ai (iE (by simp only[zz,reduceCtorEq])) (ai (iE (by simp only[zz,reduceCtorEq])) (ai rfl (exE _)))) rfl))) (by exact (ai (ai rfl (ai rfl (ai rfl (ai rfl (fun _ _=>rfl))))) (ai rfl (ai rfl (ai rfl (fun _ _=>rfl)))))) (ai ⟨hga _ hy,by show (x.args.getD 0 dQ).size≤256;omega,hnm,hnl,by show (jm nm (bs) [32,38,32] x.op x.args 0).length+110*(x.args.getD 0 dQ).size≤_;omega⟩ ⟨rfl,hv _ hy⟩) ?_
    have eN:jm nm (bs) [32,38,32] x.op x.args 0++o9 nm (x.args.getD 0 dQ) x.op=jm nm (bs) [32,38,32] x.op x.args (0+1):=by
     rw[ah5 nm _ ho.1,uq,alU hk0]
    refine ei (0+1) (ai (ai rfl rfl) (ai (ai (ai rfl (ai (ai rfl rfl) (ai (ai rfl rfl) (ai (ai (ai (fun _=>rfl) (aO (by omega))) rfl) (ai (ai (ai (ai rfl rfl) rfl) (ai (ai rfl (ai rfl (ai ?_ ?_))) (ai (ai nof (ai rfl (fun _ _=>rfl))) rfl))) trivial))))) rfl) (ai (ai (iL (by omega)) trivial) (iM (by omega)))))
    ·exact congrArg List.length eN
    ·exact fun j _=>congrArg (fun l=>[cP (l.getD j 0)]) eN
   ·exact absurd hk0 h5
  | succ k=>
   refine ah (p:=k+1<x.args.length) (au (by dsimp only;omega)) (fun h5=>?_) (fun h5=>?_)
   ·refine ai (ai (aaI _) (iN (n:=x.args.length) (by omega))) (ai rfl ?_)
    have hy:x.args.getD (k+1) dQ∈x.args:=aaS (vJ h5)
    have hms:=lq hy
    have hss:=vV h5
    have hst:=acp x.args (k+1+1)
    have hB:(bs).length≤bs.length+1:=by simp
    rw[if_neg (by omega)] at hpl
    refine ah (p:=0<k+1) (au (by omega)) (fun h6=>?_) (fun h6=>?_)
    ·refine eB (agq) ((true,nm,jm nm (bs) [32,38,32] x.op x.args (k+1),[32,38,32])) [0,3] (a4 (ai rfl rfl)) (Or.inl rfl) (by exact (ai (ai rfl rfl) rfl)) (by exact (ai (ai rfl (ai (ai rfl rfl) (ai rfl (ai rfl (fun _ _=>rfl))))) (ai rfl (ai rfl (ai rfl (fun _ _=>rfl)))))) (⟨by show (jm nm (bs) [32,38,32] x.op x.args (k+1)).length≤1000000;omega,by show ([32,38,32]:List UInt8).length≤1000000;simp⟩) ?_
     refine eB (arz) (⟨true,nm,jm nm (bs) [32,38,32] x.op x.args (k+1)++[32,38,32],x.args.getD (k+1) dQ,x.op⟩) [0,5] (a4 (ai rfl rfl)) (Or.inl rfl) (by exact (ai (ai rfl rfl) (ai (ai (iE (by simp only[zz,reduceCtorEq])) (ai (iE (by simp only[zz,reduceCtorEq])) (ai rfl (exE _)))) rfl))) (by exact (ai (ai rfl (ai (ai rfl rfl) (ai rfl (ai rfl (fun _ _=>rfl))))) (ai rfl (ai rfl (ai rfl (fun _ _=>rfl)))))) (ai ⟨hga _ hy,by show (x.args.getD (k+1) dQ).size≤256;omega,hnm,hnl,by show (jm nm (bs) [32,38,32] x.op x.args (k+1)++[32,38,32]).length+110*(x.args.getD (k+1) dQ).size≤_;rw[aaA];show (jm nm (bs) [32,38,32] x.op x.args (k+1)).length+3+110*(x.args.getD (k+1) dQ).size≤_;omega⟩ ⟨rfl,hv _ hy⟩) ?_
     have eN:jm nm (bs) [32,38,32] x.op x.args (k+1)++[32,38,32]++o9 nm (x.args.getD (k+1) dQ) x.op=jm nm (bs) [32,38,32] x.op x.args (k+1+1):=by
      rw[ah5 nm _ ho.1,aj4 h5]
     refine ei ((k+1)+1) (ai (ai rfl rfl) (ai (ai (ai rfl (ai (ai rfl rfl) (ai (ai rfl rfl) (ai (ai (ai (fun _=>rfl) (aO (by omega))) rfl) (ai (ai (ai (ai rfl rfl) rfl) (ai (ai rfl (ai rfl (ai ?_ ?_))) (ai (ai nof (ai rfl (fun _ _=>rfl))) rfl))) trivial))))) rfl) (ai (ai (iL (by omega)) trivial) (iM (by omega)))))
     ·exact congrArg List.length eN
     ·exact fun j _=>congrArg (fun l=>[cP (l.getD j 0)]) eN
    ·exact absurd (Nat.succ_pos k) h6
   ·have hke:k+1=x.args.length:=by omega
    have eT:jm nm (bs) [32,38,32] x.op x.args (k+1)=bs++dY nm x:=by
     rw[hke,alz,hA];unfold za;rw[if_neg h4]
    refine ei [0,3] (ai (ai rfl (ai rfl rfl)) (ai (by exact trivial) ?_))
    refine (ai (ai rfl (ai (ai rfl rfl) (ai rfl (ai rfl (fun _ _=>rfl))))) (ai rfl (ai rfl (ai ?_ ?_))))
    ·exact congrArg List.length (eT.trans (congrArg (fun t=>bs++t) hW.symm))
    ·exact fun k _=>congrArg (fun l=>[cP (l.getD k 0)]) (eT.trans (congrArg (fun t=>bs++t) hW.symm))
def abk (x:Ex):Prop:=x.op=1∨x.op=3∧∀y∈x.args,y.op=1
theorem ak9:jJ Tryz.prog 141 (wrC fun a=>a.st=false∧a.out<0∧abk a.x):=
 ⟨alO.1,fun a hp base E vs w hg hh hA=>by
  obtain ⟨h1,h2,h3,h4⟩:=hp
  rcases h4 with h4 | ⟨h4,h5⟩
  ·exact alO.2 a ⟨h1,h2,h4⟩ base E vs w hg hh hA
  ·exact ari.2 a ⟨h1,h2,⟨h4,h3⟩,h5⟩ base E vs w hg hh hA⟩
def apY (a:NM×Ex×Int):Prop:=aiM ⟨false,a.1,[],a.2.1,a.2.2⟩∧a.2.2<0∧abk a.2.1
theorem aiP:jJ Tryz.prog 141 { A:=NM×Ex×Int,fix:=1,args:=fun a=>[.own 0 0,ug a.2.1,iA a.2.2],objs:=fun a=>[.cells 202 (pJ :: yZ :: nmR a.1)],pre:=apY,res:=fun _=>.tup [],objs':=fun a=>[bld 202 (nmR a.1),nZ ([]++o9 a.1 a.2.1 a.2.2)] }:=
 agS (T:=202) (rest:=fun a:NM×Ex×Int=>nmR a.1) ⟨ak9.1,fun a hp=>ak9.2 ⟨false,a.1,[],a.2.1,a.2.2⟩ ⟨hp.1,rfl,hp.2.1,hp.2.2⟩⟩
def aij (a:Ex×NM):Prop:=jY a.2=0∧dL a.1 a.2.length=0∧(∀k,(a.2.getD k []).length≤100)∧(∀s∈a.2,s≠[])∧a.1.size≤256∧(dY a.2 a.1).length≤4096∧abk a.1
theorem aiZ:aL Tryz.prog 82 (bQ (fun a:Ex×NM=>[ug a.1,ssA a.2]) aij (fun a=>.tup [sP (dY a.2 a.1),iP 0])):=by
 refine jG [141,142,84] ?_
 refine aX (Tb:=tab) mixed aB Tryz.func82 rfl rfl ?_
 rintro ⟨x,nm⟩ hpre
 refine ai (ai rfl (ai rfl rfl)) ?_
 obtain ⟨h1,h2,h3,h4,h5,h6,h7⟩:=hpre
 have h1:jY nm=0:=h1
 have h2:dL x nm.length=0:=h2
 have h3:∀k,(nm.getD k []).length≤100:=h3
 have h4:∀s∈nm,s≠[]:=h4
 have h5:x.size≤256:=h5
 have h6:(dY nm x).length≤4096:=h6
 obtain ⟨hn,_,hg⟩:=aaJ.1 h2
 have hnl:∀s∈nm,s.length≤1000000:=fun s hs=>by
  obtain ⟨k,hk,rfl⟩:=apr hs
  have:=h3 k
  rw[aaE,aaC hk] at this
  have this:(nm[k]).length≤100:=this
  omega
 refine ei _ (ai (amL) (ei (nm) (ei [] (ai (a4 (ai (fun _=>Or.inl rfl) (ai nof (Or.inl rfl)))) (ai (by exact (ai rfl (fun _ _=>rfl))) (ai trivial (ai (hnl) ?_)))))))
 refine bE (p:=jY nm=0) (bT (by omega)) (fun g1=>?_) (fun g1=>?_)
 ·exact absurd h1 g1
 refine ei _ (ai (agb) (ei ((x,(nm.length:Int))) (ei [] (ai (a4 (ai (fun _=>Or.inl rfl) (ai nof (Or.inl rfl)))) (ai (by exact (ai (ai rfl (ai rfl (ai rfl (fun _ _=>rfl)))) rfl)) (ai trivial (ai ((by show x.size≤1000000;omega)) ?_)))))))
 refine bE (p:=dL x nm.length=0) (bT (by dsimp only;omega)) (fun g2=>?_) (fun g2=>?_)
 ·exact absurd h2 g2
 refine eB (aiP) ((nm,x,-1)) [1] (a4 (ai rfl rfl)) (Or.inl rfl) (by exact (ai (ai rfl rfl) (ai (ai rfl (ai rfl (ai rfl (fun _ _=>rfl)))) rfl))) (by exact (ai rfl (ai rfl (ai rfl (ai rfl (fun _ _=>rfl)))))) (⟨⟨hg,h5,h3,by show nm.length≤256;omega,by show 0+110*x.size≤500000;omega⟩,(by show (-1:Int)<0;decide),h7⟩) ?_
 have eW:([]:List UInt8)++o9 nm x (-1)=dY nm x:=by rw[aok (by decide)];rfl
 refine eB (aoq) ((nm,[]++o9 nm x (-1))) [1,2] (a4 (ai rfl rfl)) (Or.inl rfl) (by exact (ai rfl rfl)) (by exact (ai (ai rfl (ai (ai rfl rfl) (ai rfl (ai rfl (fun _ _=>rfl))))) (ai rfl (ai rfl (ai rfl (fun _ _=>rfl)))))) (trivial) ?_
 refine ah (p:=4096<(([]:List UInt8)++o9 nm x (-1)).length) (au (by dsimp only;omega)) (fun g3=>?_) (fun g3=>?_)
 ·rw[eW] at g3;exact absurd h6 (by omega)
 refine alq (aiJ 202 3) rfl rfl rfl rfl ([]++o9 nm x (-1)) rfl (by rw[eW];exact amR hg h4) (fun k _=>rfl) ?_
 refine ai (ai (fun _=>(by exact (ai trivial trivial))) ?_) trivial
 show ak _ (PV.tup [sP (dY nm x),iP 0])
 rw[show dY nm x=[]++o9 nm x (-1) from eW.symm]
 exact (ai rfl rfl)
def an1 (c:aS):Prop:=je c∧(bD c=0→∀t∈c.trs,t.wh.size≤120∧abk t.wh)
theorem amW {c:aS} (h:bD c=0) (h2:∀t∈c.trs,t.wh.size≤120∧abk t.wh) {k:Nat} (hk:k<c.trs.length):aij ((c.trs.getD k aM).wh,dP c):=by
 have hn:=(qH h).2.2.1
 have hs:=h2 _ (aaS (bH aM hk))
 refine ⟨ajh h,?_,anx h,fun s hm e=>?_,by show (c.trs.getD k aM).wh.size≤256;omega,?_,hs.2⟩
 ·show dL (c.trs.getD k aM).wh ((dP c).length:Int)=0
  rw[hn];exact (kS h hk).2.2
 ·have:=((qH h).1 s hm).2
  rw[e] at this;exact absurd this (by decide)
 ·have:=abF (agN h) _ _ (aff (c.trs.getD k aM).wh.size)
  show (dY (dP c) (c.trs.getD k aM).wh).length≤4096
  omega
end Go.Sx.Pe
