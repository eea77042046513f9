/- ChartFires, part 6 of its proof: declarations that the last part uses. -/
import Derived.Test.YteenedbiifampaaGreatDoorF5
set_option maxHeartbeats 1000000
set_option maxRecDepth 4000
set_option linter.unusedSimpArgs false
set_option linter.unusedVariables false
set_option linter.unusedSectionVars false
namespace Go.Sx.Pe
open Go Go.Proofs Go.Sx.Pn
theorem afy:aG Tryz.prog 18 (gX (fun s:mO=>[sqA s]) (fun _=>True) ofP):=aej ain fun s _=>anb s
theorem aaP (m:List Bool):fA (bN m)=fA m:=funext fun k=>by unfold fA;rw[l6]
theorem apb (m:List Bool) {k:Nat} (hk:k<m.length) (b:Bool):(bN m).set k b=bN (m.set k b):=by
 unfold bN
 rw[List.set_append_left _ _ hk,atG]
theorem acp (b:Bool):∀{l:List Int} {m:List Bool},eP m.length l→bG (bN m) l b=bN (bG m l b)
 | [],_,_=>rfl
 | k :: l,m,h=>by
  show bG ((bN m).set k.toNat b) l b=bN (bG (m.set k.toNat b) l b)
  have hk:=h k (aoM ..)
  rw[apb m (by omega) b]
  exact acp b fun x hx=>by rw[atG];exact h x (aoB _ hx)
theorem akY {m:List Bool} {t:jK} (h1:eP m.length t.fr) (h2:eP m.length t.to):nU (bN m) t=bN (nU m t):=by
 unfold nU
 rw[acp false h1,acp true (by rw[bZ];exact h2)]
def aaH (c:aN) (m:List Bool) (i:Nat):PV:=.tup [mJ (bq c m i).1,bP (bq c m i).2]
theorem abb:aG Tryz.prog 61 (gX (fun a:aN×List Bool×Nat=>[iJ a.1,uS a.2.1,iA a.2.2]) (fun a=>bE a.1=0∧fC a.1∧a.2.1.length=a.1.sts.length∧a.2.2<a.1.trs.length) (fun a=>aaH a.1 a.2.1 a.2.2)):=by
 refine ⟨ams.1,fun ⟨c,m,i⟩ hp E vs w hg hh hA=>?_⟩
 obtain ⟨hc,ho,hm,hi⟩:=hp
 have hc:bE c=0:=hc
 have hm:m.length=c.sts.length:=hm
 have hi:i<c.trs.length:=hi
 obtain ⟨g1,g2,g3⟩:=jJ hc hi
 have h24:=(dW hc).2.2.1.2
 have e1:uS (bN m)=uS m:=by unfold uS mJ;rw[aaP]
 have e2:mJ (bq c (bN m) i).1=mJ (bq c m i).1∧(bq c (bN m) i).2=(bq c m i).2:=by
  unfold bq
  rw[abT]
  split
  ·refine ⟨?_,rfl⟩
   rw[akY (by rw[hm];exact g1.2) (by rw[hm];exact g2.2)]
   unfold mJ;rw[aaP]
  ·exact ⟨by unfold mJ;rw[aaP],rfl⟩
 have key:=ams.2 (c,bN m,i) ⟨hc,ho,ni (by omega),hi⟩ E vs w hg hh (by
  show kr E vs [iJ c,uS (bN m),iA i]
  rw[e1];exact hA)
 refine key.mono fun e w' ⟨v,E',h1,h2,h3⟩=>⟨v,E',h1,?_,h3⟩
 have:PV.tup [mJ (bq c (bN m) i).1,bP (bq c (bN m) i).2]=aaH c m i:=by unfold aaH;rw[e2.1,e2.2]
 show aQ _ v (aaH c m i)
 rw[←this];exact h2
def dJ (m:List Bool):List PV:=eD 24 (fA m)
def arn (l:List Mk):LV:=.rw 117 24 l.length (fun k=>dJ (l.getD k aA).1)
def aoR (l:List Mk):LV:=.rws 29 1 l.length (fun k=>[iV (l.getD k aA).2])
def yY (l:List Mk):MK→Option PV
 | .bools b=>if l.any (fun y=>decide (bN y.1=b)) then some (bP true) else none
 | _=>none
def knO (l:List Mk):Ob:=.map (.bools 24) l.length (yY l)
theorem anJ {a b:List Bool} (hl:a.length=b.length) (h:bN a=bN b):a=b:=by
 unfold bN at h
 rw[hl] at h
 exact (List.append_inj' h rfl).1
theorem aeu {l:List Mk} {m:List Bool} (hl:∀y∈l,y.1.length=m.length):yY l (.bools (bN m))=if sD l m then some (bP true) else none:=by
 unfold yY sD
 have:(l.any fun y=>decide (bN y.1=bN m))=l.any fun y=>decide (y.1=m):=by
  refine arH.2 ?_
  simp only[atI,decide_eq_true_eq]
  exact ⟨fun ⟨y,hy,h⟩=>⟨y,hy,anJ (hl y hy) h⟩,fun ⟨y,hy,h⟩=>⟨y,hy,by rw[h]⟩⟩
 show (if (l.any fun y=>decide (bN y.1=bN m))=true then some (bP true) else none)=_
 rw[this]
theorem aW (l:List Mk) (x:Mk) (k:MK):rQ (yY l) (.bools (bN x.1)) (bP true) k=yY (l++[x]) k:=by
 classical
 unfold rQ
 split
 ·rename_i h;subst h
  show some (bP true)=if ((l++[x]).any fun y=>decide (bN y.1=bN x.1))=true then some (bP true) else none
  rw[if_pos (by simp)]
 ·rename_i h
  cases k with
  | bools b=>
   unfold yY
   have:decide (bN x.1=b)=false:=decide_eq_false fun e=>h (by rw[e])
   simp only[atU,at5,List.any_nil,this,aul]
  | int a=>rfl
  | str a=>rfl
def am5 (l:List Mk):PV:=.seq l.length (fun k=>dJ (l.getD k aA).1)
def an2 (l:List Mk):PV:=.seq l.length (fun k=>[iV (l.getD k aA).2])
def xk (c:aN):PV:=match u6 c with
 | some l=>.tup [am5 l,an2 l,iP 0]
 | none=>.tup [am5 [],an2 [],iP 12]
theorem ajI {n:Nat} (h:0<n) (k:Nat):(sQ n).getD k false=(k==0):=by
 unfold sQ
 rw[abl,atM]
 by_cases e:k=0
 ·subst e;rw[if_pos rfl,if_pos (by rw[ato];exact h)];rfl
 ·rw[if_neg (fun h=>e h.symm),atJ,show (k==0)=false by simpa using e]
  split<;>rfl
theorem aiX {n:Nat} (h:0<n):fA (sQ n)=fA (sQ 1):=funext fun k=>by unfold fA;rw[ajI h,ajI (by decide)]
theorem agX (m:List Bool):takeN 24 (dM 0 (dJ m))=some (eD 24 (fA m)):=xJ 24 (fA m)
theorem aY (a:List Mk) (x:Mk) {g:Nat→List PV} (hg:g 0=dJ x.1):∀k,k<a.length+1→bQ a.length (fun k=>dJ (a.getD k aA).1) g k=dJ ((a++[x]).getD k aA).1:=by
 intro k hk
 unfold bQ
 by_cases h:k<a.length
 ·rw[if_pos h]
  show dJ (a.getD k aA).1=_
  rw[abl,abl,afs h]
 ·obtain rfl:k=a.length:=by omega
  rw[if_neg h,asA,hg,abl,ag4 (ahl _),asA];rfl
theorem ach {u u':PV} (h:ig u u'):bR [u] [u']:=by
 refine ⟨rfl,fun k s s' hs hs'=>?_⟩
 match k with
 | 0=>cases hs;cases hs';exact h
 | k+1=>simp at hs
theorem aX (a:List Mk) (x:Mk) {v:PV} (hv:ig v (iV x.2)):∀k,k<a.length+1→bR (bQ a.length (fun k=>[iV (a.getD k aA).2]) (bn 1 [v]) k) [iV ((a++[x]).getD k aA).2]:=by
 intro k hk
 unfold bQ
 by_cases h:k<a.length
 ·rw[if_pos h]
  refine bR.of ?_
  show [iV (a.getD k aA).2]=_
  rw[abl,abl,afs h]
 ·obtain rfl:k=a.length:=by omega
  rw[if_neg h,asA,abl,ag4 (ahl _),asA]
  exact ach hv
theorem dI {l:List Int} (h:l.length=0) (k:Nat):ig (.seq 1 (bn 1 [iP (k:Int)])) (iV (l++[(k:Int)])):=by
 obtain rfl:=aqy.1 h
 exact anS rfl fun j hj=>by
  obtain rfl:j=0:=by omega
  rfl
theorem bY (l:List Int) (k:Nat):ig (.seq (0+l.length+1) (bQ (0+l.length) (bQ 0 (bn 1 []) (fun j=>[iP (l.getD j 0)])) (bn 1 [iP (k:Int)]))) (iV (l++[(k:Int)])):=by
 refine anS (by rw[abg];simp) fun j hj=>adV (a:=l) (b:=[(k:Int)]) (ahH _) (fun j hj=>afH (n:=l.length) j (by omega)) (fun j hj=>?_) j (by rw[abg];show j<l.length+1;omega)
 have hj:j<1:=hj
 obtain rfl:j=0:=by omega
 rfl
theorem apC:yY []=fun _=>none:=funext fun k=>by cases k<;>rfl
theorem agm {l:List Mk} {x:Mk} (hl:∀y∈l,y.1.length=x.1.length) (h:sD l x.1=false):yY l (.bools (bN x.1))=none:=by
 rw[aeu hl,if_neg (by rw[h];decide)]
set_option maxHeartbeats 16000000 in
theorem akm:aG Tryz.prog 124 (gX (fun c:aN=>[iJ c]) (fun c=>bE c=0∧fC c) xk):=by
 refine jC [63,3000066] ?_
 refine aU (Tb:=tab) mixed ay Tryz.func124 rfl rfl ?_
 rintro (c:aN) hpre
 refine ai (ai rfl (ai rfl rfl)) ?_
 obtain ⟨hc,ho⟩:=hpre
 have hc:bE c=0:=hc
 have ho:fC c:=ho
 obtain ⟨_,_,⟨b3,b4⟩,b5,_⟩:=dW hc
 refine ai (ai (by decide) (by decide)) ?_
 refine ai (by decide) (ei (fA (sQ c.sts.length)) (ai (by rw[aiX b3];rfl) ?_))
 refine ai rfl (ei (bN (sQ c.sts.length)) (ai (ai (ni (by unfold sQ;rw[atG,ato];exact b4)) (fun k _=>by rw[l6];rfl)) ?_))
 refine ei 1 (ai (ai (fun _=>rfl) (fun _ h=>by cases h)) ?_)
 refine ei (bg.inv { X:=Nat×List Mk,up:=fun x=>[(8,.s (iA x.1)),(5,arn x.2),(6,aoR x.2)],uo:=fun x=>[⟨3,0,[.ob (knO x.2)]⟩],inv:=fun x=>x.1≤x.2.length∧x.2.length≤16384∧(oF c x.2∧aay x.1 x.2)∧qG c (16385-x.1) x.2 x.1=u6 c,meas:=fun x=>16385-x.1,x0:=(0,mk1 c) }) ?_
 refine ai (ai (ai (by exact (a4 (ai rfl rfl))) (ai ?_ ?_)) ?_) (ai ?_ ?_)
 ·refine (ai (ai (ai (fun _=>rfl) (iE (by simp only[zz,reduceCtorEq];rfl))) rfl) (ai (ai rfl (ai rfl (ai rfl ?_))) (ai rfl (ai rfl (ai rfl ?_)))))
  ·intro k hk
   obtain rfl:k=0:=by omega
   show _=dJ (sQ c.sts.length)
   unfold dJ;rw[aiX b3];rfl
  ·intro k hk
   have hk:k<1:=hk
   obtain rfl:k=0:=by omega
   exact ach (.nil _)
 ·refine (ai (ai rfl (ai rfl ?_)) trivial)
  intro k
  rw[←apC]
  exact aW [] (sQ c.sts.length,[]) k
 ·rfl
 ·exact ⟨aeT _,by show 1≤16384;decide,⟨agv c,fun y hy=>by simp only[mk1,aiz] at hy;subst hy;exact aeT _⟩,rfl⟩
 rintro ⟨a,l⟩ ⟨hal,hll,⟨hg,hwl⟩,hr⟩
 have hal:a≤l.length:=hal
 have hll:l.length≤16384:=hll
 have hg:oF c l:=hg
 have hwl:aay a l:=hwl
 have hr:qG c (16385-a) l a=u6 c:=hr
 refine ah (p:=a<l.length) (au (by dsimp only;omega)) (fun h1=>?_) (fun h1=>?_)
 ·refine ei (bg.inv { X:=Nat,up:=fun k=>[(29,.s (iA k)),(5,arn (fQ c l a k)),(6,aoR (fQ c l a k))],uo:=fun k=>[⟨3,0,[.ob (knO (fQ c l a k))]⟩],inv:=fun k=>k≤c.trs.length∧((fQ c l a k).length≤16384),meas:=fun k=>c.trs.length-k,x0:=0 }) ?_
  refine ai (ai (ai (by exact (a4 (ai rfl rfl))) (ai ?_ ?_)) rfl) (ai (ai (aeT _) ?_) ?_)
  ·refine (ai (ai (ai (fun _=>rfl) (iE (by simp only[zz,reduceCtorEq];rfl))) rfl) (ai (ai rfl (ai rfl (ai rfl (fun _ _=>rfl)))) (ai rfl (ai rfl (ai rfl ?_)))))
   exact fun k _=>bR.rfl' _
  ·exact (ai (ai rfl (ai rfl (fun _=>rfl))) trivial)
  ·exact hll
  intro (k:Nat) ⟨hk,hkl⟩
  have hgk:=good_row hg h1 hk
  have hways:=adK (c:=c) h1 hwl k
  obtain ⟨t,ht⟩:=uF c l a k
  have hak:a<(fQ c l a k).length:=by rw[ht,abg];omega
  refine ah (p:=k<c.trs.length) (au (by omega)) (fun h2=>?_) (fun h2=>?_)
  ·have hst:fQ c l a (k+1)=kG c (fQ c l a k) a k:=rfl
   have hrun:16384<(fQ c l a (k+1)).length→u6 c=none:=fun h=>by
    rw[←hr,show 16385-a=(16384-a)+1 by omega]
    exact anr h1 (show k+1≤c.trs.length from h2) h
   generalize fQ c l a k=L at *
   have hkl:L.length≤16384:=hkl
   have hga:=hgk _ (aeJ (bJ aA hak))
   have hw:=hways _ (aeJ (bJ aA hak))
   obtain ⟨q1,q2,q3⟩:=jJ hc h2
   have hto:=lJ ho h2
   have hnl:(aC c L a k).1.length=c.sts.length:=by
    show (nU _ _).length=_
    unfold nU;rw[bZ,bZ];exact hga.1
   have hln:∀y∈L,y.1.length=(aC c L a k).1.length:=fun y hy=>by rw[hnl];exact (hgk y hy).1
   refine ei (.one 0 (.one 1 (.one 2 (.one 3 (.one 4 (.one 5 (.alt 6 (.one 7 (.one 8 (.one 9 (.one 10 (.one 11 (.one 12 .done)))))) (.alt 10 (.one 6 (.one 7 (.one 8 (.one 9 (.one 11 (.one 12 .done)))))) .stop)))))))) (ai (by kernel_rfl) ?_)
   refine ai (ai (abw _) (by show (a:Int)<(L.length:Int);omega)) ?_
   refine ai (by show a<L.length;exact hak) (ei (fA (L.getD a aA).1) (ai (agX _) ?_))
   refine ai ?_ (ai ?_ trivial)
   ·refine ei _ (ai (abb) (ei ((c,(L.getD a aA).1,k)) (ei [] (ai (a4 (ai (fun _=>Or.inl rfl) (ai nof (Or.inl rfl)))) (ai (by exact (ai (ai rfl (ai (ai rfl (fun _ _=>rfl)) (ai (ai rfl (fun _ _=>rfl)) (ai rfl (fun _ _=>rfl))))) (ai (ai rfl (fun _ _=>rfl)) rfl))) (ai trivial (ai (⟨hc,ho,hga.1,h2⟩) ?_)))))))
    refine aR (b:=!(bq c (L.getD a aA).1 k).2) rfl (fun h3=>?_) (fun h3=>?_)
    ·have h3:allM (L.getD a aA).1 (y8 c k).fr=false:=by
      have h3:(bq c (L.getD a aA).1 k).2=false:=by simpa using h3
      unfold bq at h3
      split at h3
      ·cases h3
      ·rename_i h;exact asC.2 h
     have e:fQ c l a (k+1)=L:=by rw[hst];unfold kG adds;rw[h3];simp
     refine ei (k+1) (ai (ai rfl rfl) (ai (ai (ai rfl (ai (ai rfl rfl) (ai (ai rfl rfl) (ai (ai (ai (ai (fun _=>rfl) (aH (by omega))) rfl) (ai (ai rfl (ai rfl (ai ?_ ?_))) (ai rfl (ai rfl (ai ?_ ?_))))) (ai (ai rfl (ai ?_ ?_)) trivial))))) rfl) (ai (ai (iL (by omega)) ?_) (iM (by omega)))))
     all_goals rw[e]
     ·exact fun _ _=>rfl
     ·exact fun k _=>bR.rfl' _
     ·exact fun _=>rfl
     ·exact hkl
    have h3:allM (L.getD a aA).1 (y8 c k).fr=true:=by
     have h3:(bq c (L.getD a aA).1 k).2=true:=by simpa using h3
     unfold bq at h3
     split at h3
     ·assumption
     ·cases h3
    have hcan:(bq c (L.getD a aA).1 k).1=(aC c L a k).1:=by unfold bq;exact congrArg Prod.fst (if_pos h3)
    have hkey:∀q,q<24→fA (bq c (L.getD a aA).1 k).1 q=.val (.bool ((bN (aC c L a k).1).getD q false)):=fun q _=>by rw[hcan,l6];rfl
    refine ai (ai rfl rfl) (ei (bN (aC c L a k).1) (ai (ai (ni (by omega)) hkey) ?_))
    refine ei (bP (sD L (aC c L a k).1)) (ei (sD L (aC c L a k).1) (ai ?_ ?_))
    ·show (∀d',yY L (.bools (bN (aC c L a k).1))=some d'→_)∧(yY L (.bools (bN (aC c L a k).1))=none→_)
     rw[aeu hln]
     cases sD L (aC c L a k).1
     ·exact ⟨fun d' h=>by simp at h,fun _=>⟨rfl,rfl⟩⟩
     ·exact ⟨fun d' h=>by simp at h;exact ⟨h.symm,rfl⟩,fun h=>by simp at h⟩
    refine aR (b:=sD L (aC c L a k).1) rfl (fun h4=>?_) (fun h4=>?_)
    ·have e:fQ c l a (k+1)=L:=by rw[hst];unfold kG adds;rw[h4];simp
     refine ei (k+1) (ai (ai rfl rfl) (ai (ai (ai rfl (ai (ai rfl rfl) (ai (ai rfl rfl) (ai (ai (ai (ai (fun _=>rfl) (aH (by omega))) rfl) (ai (ai rfl (ai rfl (ai ?_ ?_))) (ai rfl (ai rfl (ai ?_ ?_))))) (ai (ai rfl (ai ?_ ?_)) trivial))))) rfl) (ai (ai (iL (by omega)) ?_) (iM (by omega)))))
     all_goals rw[e]
     ·exact fun _ _=>rfl
     ·exact fun k _=>bR.rfl' _
     ·exact fun _=>rfl
     ·exact hkl
    have hn:adds c L a k=true:=by unfold adds;rw[h3,h4];rfl
    have e:fQ c l a (k+1)=L++[aC c L a k]:=by rw[hst];unfold kG;rw[if_pos hn]
    refine ah (p:=L.length=16384) (eZ (by omega)) (fun h5=>?_) (fun h5=>?_)
    ·refine ai (ai (fun h=>absurd (show false=true from h) (by decide)) ?_) trivial
     show ak _ (xk c)
     rw[xk,hrun (by rw[e,abg];show 16384<L.length+1;omega)]
     exact (ai rfl (ai rfl rfl))
    refine ai rfl (ei (bN (aC c L a k).1) (ai (ai (ni (by omega)) hkey) ?_))
    refine ei (L.length+1) (ai (ai (fun _=>rfl) (fun d hd=>absurd ((agm hln h4).symm.trans hd) (by simp))) ?_)
    refine ei (.one 0 (.one 1 (.one 4 (.one 5 (.one 6 (.one 7 (.one 10 (.alt 2 (.alt 3 (.one 8 (.altw 9 (.one 11 (.one 12 (.one 13 (.one 14 (.one 15 (.one 16 .done)))))) (.alt 11 (.wr 9 (.one 12 (.one 13 (.one 14 (.one 15 (.one 16 .done)))))) .stop))) (.alt 8 (.alt 3 (.altw 9 (.one 11 (.one 12 (.one 13 (.one 14 (.one 15 (.one 16 .done)))))) (.alt 11 (.wr 9 (.one 12 (.one 13 (.one 14 (.one 15 (.one 16 .done)))))) .stop)) (.alt 11 (.one 3 (.wr 9 (.one 12 (.one 13 (.one 14 (.one 15 (.one 16 .done))))))) .stop)) (.alt 11 (.alt 3 (.one 8 (.wr 9 (.one 12 (.one 13 (.one 14 (.one 15 (.one 16 .done))))))) (.alt 8 (.one 3 (.wr 9 (.one 12 (.one 13 (.one 14 (.one 15 (.one 16 .done))))))) .stop)) .stop))) (.alt 8 (.alt 2 (.alt 3 (.altw 9 (.one 11 (.one 12 (.one 13 (.one 14 (.one 15 (.one 16 .done)))))) (.alt 11 (.wr 9 (.one 12 (.one 13 (.one 14 (.one 15 (.one 16 .done)))))) .stop)) (.alt 11 (.one 3 (.wr 9 (.one 12 (.one 13 (.one 14 (.one 15 (.one 16 .done))))))) .stop)) (.alt 11 (.one 2 (.one 3 (.wr 9 (.one 12 (.one 13 (.one 14 (.one 15 (.one 16 .done)))))))) .stop)) (.alt 11 (.alt 2 (.alt 3 (.one 8 (.wr 9 (.one 12 (.one 13 (.one 14 (.one 15 (.one 16 .done))))))) (.alt 8 (.one 3 (.wr 9 (.one 12 (.one 13 (.one 14 (.one 15 (.one 16 .done))))))) .stop)) (.alt 8 (.one 2 (.one 3 (.wr 9 (.one 12 (.one 13 (.one 14 (.one 15 (.one 16 .done)))))))) .stop)) .stop)))))))))) (ai (by kernel_rfl) ?_)
    refine ai (ai (abw _) (by show (a:Int)<(L.length:Int);omega)) ?_
    refine ai ?_ ?_
    ·refine ai ?_ ?_
     ·refine ai (mxL (n:=L.length+1) (by omega) (by decide)) (ai (lt1 rfl) ?_)
      refine ai (by show a<L.length;exact hak) ?_
      refine ai ?_ ?_
      ·refine fI mixed ay Tryz.func63 rfl rfl ?_
       refine ai rfl ?_
       intro b hb
       refine bf (fun hb0=>?_) (fun hb0=>?_)
       ·have hb1:(L.getD a aA).2.length=0:=hb hb0
        refine ai (ai (by decide) (by decide)) (ai (aK 1 rfl) ?_)
        refine ai (mxL (n:=L.length+1) (by omega) (by decide)) (ai (aK 1 rfl) ?_)
        refine ei (k+1) (ai (ai rfl rfl) (ai (ai (ai rfl (ai (ai rfl rfl) (ai (ai rfl rfl) (ai (ai (ai (ai (fun _=>rfl) (aH (by omega))) rfl) (ai (ai rfl (ai rfl (ai ?_ ?_))) (ai rfl (ai rfl (ai ?_ ?_))))) (ai (ai rfl (ai ?_ ?_)) trivial))))) rfl) (ai (ai (iL (by omega)) ?_) (iM (by omega)))))
        all_goals rw[e]
        ·rw[abg];rfl
        ·exact aY L (aC c L a k) (show dJ (bq c (L.getD a aA).1 k).1=_ by rw[hcan])
        ·rw[abg];rfl
        ·exact aX L (aC c L a k) (dI hb1 k)
        ·rw[abg];rfl
        ·exact aW L (aC c L a k)
        ·rw[abg];show L.length+1≤16384;omega
       ·refine ai (mxL (n:=0+(L.getD a aA).2.length) (by omega) (by decide)) (ai (fun _ _=>rfl) ?_)
        refine ai (mxL (n:=0+(L.getD a aA).2.length+1) (by omega) (by decide)) (ai (aK 1 rfl) ?_)
        refine ai (mxL (n:=L.length+1) (by omega) (by decide)) (ai (aK 1 rfl) ?_)
        refine ei (k+1) (ai (ai rfl rfl) (ai (ai (ai rfl (ai (ai rfl rfl) (ai (ai rfl rfl) (ai (ai (ai (ai (fun _=>rfl) (aH (by omega))) rfl) (ai (ai rfl (ai rfl (ai ?_ ?_))) (ai rfl (ai rfl (ai ?_ ?_))))) (ai (ai rfl (ai ?_ ?_)) trivial))))) rfl) (ai (ai (iL (by omega)) ?_) (iM (by omega)))))
        all_goals rw[e]
        ·rw[abg];rfl
        ·exact aY L (aC c L a k) (show dJ (bq c (L.getD a aA).1 k).1=_ by rw[hcan])
        ·rw[abg];rfl
        ·exact aX L (aC c L a k) (bY (L.getD a aA).2 k)
        ·rw[abg];rfl
        ·exact aW L (aC c L a k)
        ·rw[abg];show L.length+1≤16384;omega
      refine ai ?_ trivial
      refine fI mixed ay Tryz.func63 rfl rfl ?_
      refine ai rfl ?_
      intro b hb
      refine bf (fun hb0=>?_) (fun hb0=>?_)
      ·have hb1:(L.getD a aA).2.length=0:=hb hb0
       refine ai (ai (by decide) (by decide)) (ai (aK 1 rfl) ?_)
       refine ai (mxL (n:=L.length+1) (by omega) (by decide)) (ai (aK 1 rfl) ?_)
       refine ei (k+1) (ai (ai rfl rfl) (ai (ai (ai rfl (ai (ai rfl rfl) (ai (ai rfl rfl) (ai (ai (ai (ai (fun _=>rfl) (aH (by omega))) rfl) (ai (ai rfl (ai rfl (ai ?_ ?_))) (ai rfl (ai rfl (ai ?_ ?_))))) (ai (ai rfl (ai ?_ ?_)) trivial))))) rfl) (ai (ai (iL (by omega)) ?_) (iM (by omega)))))
       all_goals rw[e]
       ·rw[abg];rfl
       ·exact aY L (aC c L a k) (show dJ (bq c (L.getD a aA).1 k).1=_ by rw[hcan])
       ·rw[abg];rfl
       ·exact aX L (aC c L a k) (dI hb1 k)
       ·rw[abg];rfl
       ·exact aW L (aC c L a k)
       ·rw[abg];show L.length+1≤16384;omega
      ·refine ai (mxL (n:=0+(L.getD a aA).2.length) (by omega) (by decide)) (ai (fun _ _=>rfl) ?_)
       refine ai (mxL (n:=0+(L.getD a aA).2.length+1) (by omega) (by decide)) (ai (aK 1 rfl) ?_)
       refine ai (mxL (n:=L.length+1) (by omega) (by decide)) (ai (aK 1 rfl) ?_)
       refine ei (k+1) (ai (ai rfl rfl) (ai (ai (ai rfl (ai (ai rfl rfl) (ai (ai rfl rfl) (ai (ai (ai (ai (fun _=>rfl) (aH (by omega))) rfl) (ai (ai rfl (ai rfl (ai ?_ ?_))) (ai rfl (ai rfl (ai ?_ ?_))))) (ai (ai rfl (ai ?_ ?_)) trivial))))) rfl) (ai (ai (iL (by omega)) ?_) (iM (by omega)))))
       all_goals rw[e]
       ·rw[abg];rfl
       ·exact aY L (aC c L a k) (show dJ (bq c (L.getD a aA).1 k).1=_ by rw[hcan])
       ·rw[abg];rfl
       ·exact aX L (aC c L a k) (bY (L.getD a aA).2 k)
       ·rw[abg];rfl
       ·exact aW L (aC c L a k)
       ·rw[abg];show L.length+1≤16384;omega
     refine ai ?_ ?_
     ·refine ai (by show a<L.length;exact hak) ?_
      refine ai ?_ ?_
      ·refine ai (mxL (n:=L.length+1) (by omega) (by decide)) (ai (lt1 rfl) ?_)
       refine ai ?_ ?_
       ·refine fI mixed ay Tryz.func63 rfl rfl ?_
        refine ai rfl ?_
        intro b hb
        refine bf (fun hb0=>?_) (fun hb0=>?_)
        ·have hb1:(L.getD a aA).2.length=0:=hb hb0
         refine ai (ai (by decide) (by decide)) (ai (aK 1 rfl) ?_)
         refine ai (mxL (n:=L.length+1) (by omega) (by decide)) (ai (aK 1 rfl) ?_)
         refine ei (k+1) (ai (ai rfl rfl) (ai (ai (ai rfl (ai (ai rfl rfl) (ai (ai rfl rfl) (ai (ai (ai (ai (fun _=>rfl) (aH (by omega))) rfl) (ai (ai rfl (ai rfl (ai ?_ ?_))) (ai rfl (ai rfl (ai ?_ ?_))))) (ai (ai rfl (ai ?_ ?_)) trivial))))) rfl) (ai (ai (iL (by omega)) ?_) (iM (by omega)))))
         all_goals rw[e]
         ·rw[abg];rfl
         ·exact aY L (aC c L a k) (show dJ (bq c (L.getD a aA).1 k).1=_ by rw[hcan])
         ·rw[abg];rfl
         ·exact aX L (aC c L a k) (dI hb1 k)
         ·rw[abg];rfl
         ·exact aW L (aC c L a k)
         ·rw[abg];show L.length+1≤16384;omega
        ·refine ai (mxL (n:=0+(L.getD a aA).2.length) (by omega) (by decide)) (ai (fun _ _=>rfl) ?_)
         refine ai (mxL (n:=0+(L.getD a aA).2.length+1) (by omega) (by decide)) (ai (aK 1 rfl) ?_)
         refine ai (mxL (n:=L.length+1) (by omega) (by decide)) (ai (aK 1 rfl) ?_)
         refine ei (k+1) (ai (ai rfl rfl) (ai (ai (ai rfl (ai (ai rfl rfl) (ai (ai rfl rfl) (ai (ai (ai (ai (fun _=>rfl) (aH (by omega))) rfl) (ai (ai rfl (ai rfl (ai ?_ ?_))) (ai rfl (ai rfl (ai ?_ ?_))))) (ai (ai rfl (ai ?_ ?_)) trivial))))) rfl) (ai (ai (iL (by omega)) ?_) (iM (by omega)))))
         all_goals rw[e]
         ·rw[abg];rfl
         ·exact aY L (aC c L a k) (show dJ (bq c (L.getD a aA).1 k).1=_ by rw[hcan])
         ·rw[abg];rfl
         ·exact aX L (aC c L a k) (bY (L.getD a aA).2 k)
         ·rw[abg];rfl
         ·exact aW L (aC c L a k)
         ·rw[abg];show L.length+1≤16384;omega
       refine ai ?_ trivial
       refine fI mixed ay Tryz.func63 rfl rfl ?_
       refine ai rfl ?_
       intro b hb
       refine bf (fun hb0=>?_) (fun hb0=>?_)
       ·have hb1:(L.getD a aA).2.length=0:=hb hb0
        refine ai (ai (by decide) (by decide)) (ai (aK 1 rfl) ?_)
        refine ai (mxL (n:=L.length+1) (by omega) (by decide)) (ai (aK 1 rfl) ?_)
        refine ei (k+1) (ai (ai rfl rfl) (ai (ai (ai rfl (ai (ai rfl rfl) (ai (ai rfl rfl) (ai (ai (ai (ai (fun _=>rfl) (aH (by omega))) rfl) (ai (ai rfl (ai rfl (ai ?_ ?_))) (ai rfl (ai rfl (ai ?_ ?_))))) (ai (ai rfl (ai ?_ ?_)) trivial))))) rfl) (ai (ai (iL (by omega)) ?_) (iM (by omega)))))
        all_goals rw[e]
        ·rw[abg];rfl
        ·exact aY L (aC c L a k) (show dJ (bq c (L.getD a aA).1 k).1=_ by rw[hcan])
        ·rw[abg];rfl
        ·exact aX L (aC c L a k) (dI hb1 k)
        ·rw[abg];rfl
        ·exact aW L (aC c L a k)
        ·rw[abg];show L.length+1≤16384;omega
       ·refine ai (mxL (n:=0+(L.getD a aA).2.length) (by omega) (by decide)) (ai (fun _ _=>rfl) ?_)
        refine ai (mxL (n:=0+(L.getD a aA).2.length+1) (by omega) (by decide)) (ai (aK 1 rfl) ?_)
        refine ai (mxL (n:=L.length+1) (by omega) (by decide)) (ai (aK 1 rfl) ?_)
        refine ei (k+1) (ai (ai rfl rfl) (ai (ai (ai rfl (ai (ai rfl rfl) (ai (ai rfl rfl) (ai (ai (ai (ai (fun _=>rfl) (aH (by omega))) rfl) (ai (ai rfl (ai rfl (ai ?_ ?_))) (ai rfl (ai rfl (ai ?_ ?_))))) (ai (ai rfl (ai ?_ ?_)) trivial))))) rfl) (ai (ai (iL (by omega)) ?_) (iM (by omega)))))
        all_goals rw[e]
        ·rw[abg];rfl
        ·exact aY L (aC c L a k) (show dJ (bq c (L.getD a aA).1 k).1=_ by rw[hcan])
        ·rw[abg];rfl
        ·exact aX L (aC c L a k) (bY (L.getD a aA).2 k)
        ·rw[abg];rfl
        ·exact aW L (aC c L a k)
        ·rw[abg];show L.length+1≤16384;omega
      refine ai ?_ trivial
      refine ai (mxL (n:=L.length+1) (by omega) (by decide)) (ai (lt1 rfl) ?_)
      refine fI mixed ay Tryz.func63 rfl rfl ?_
      refine ai rfl ?_
      intro b hb
      refine bf (fun hb0=>?_) (fun hb0=>?_)
      ·have hb1:(L.getD a aA).2.length=0:=hb hb0
       refine ai (ai (by decide) (by decide)) (ai (aK 1 rfl) ?_)
       refine ai (mxL (n:=L.length+1) (by omega) (by decide)) (ai (aK 1 rfl) ?_)
       refine ei (k+1) (ai (ai rfl rfl) (ai (ai (ai rfl (ai (ai rfl rfl) (ai (ai rfl rfl) (ai (ai (ai (ai (fun _=>rfl) (aH (by omega))) rfl) (ai (ai rfl (ai rfl (ai ?_ ?_))) (ai rfl (ai rfl (ai ?_ ?_))))) (ai (ai rfl (ai ?_ ?_)) trivial))))) rfl) (ai (ai (iL (by omega)) ?_) (iM (by omega)))))
       all_goals rw[e]
       ·rw[abg];rfl
       ·exact aY L (aC c L a k) (show dJ (bq c (L.getD a aA).1 k).1=_ by rw[hcan])
       ·rw[abg];rfl
       ·exact aX L (aC c L a k) (dI hb1 k)
       ·rw[abg];rfl
       ·exact aW L (aC c L a k)
       ·rw[abg];show L.length+1≤16384;omega
      ·refine ai (mxL (n:=0+(L.getD a aA).2.length) (by omega) (by decide)) (ai (fun _ _=>rfl) ?_)
       refine ai (mxL (n:=0+(L.getD a aA).2.length+1) (by omega) (by decide)) (ai (aK 1 rfl) ?_)
       refine ai (mxL (n:=L.length+1) (by omega) (by decide)) (ai (aK 1 rfl) ?_)
       refine ei (k+1) (ai (ai rfl rfl) (ai (ai (ai rfl (ai (ai rfl rfl) (ai (ai rfl rfl) (ai (ai (ai (ai (fun _=>rfl) (aH (by omega))) rfl) (ai (ai rfl (ai rfl (ai ?_ ?_))) (ai rfl (ai rfl (ai ?_ ?_))))) (ai (ai rfl (ai ?_ ?_)) trivial))))) rfl) (ai (ai (iL (by omega)) ?_) (iM (by omega)))))
       all_goals rw[e]
       ·rw[abg];rfl
       ·exact aY L (aC c L a k) (show dJ (bq c (L.getD a aA).1 k).1=_ by rw[hcan])
       ·rw[abg];rfl
       ·exact aX L (aC c L a k) (bY (L.getD a aA).2 k)
       ·rw[abg];rfl
       ·exact aW L (aC c L a k)
       ·rw[abg];show L.length+1≤16384;omega
     refine ai ?_ trivial
     refine ai ?_ ?_
     ·refine ai (mxL (n:=L.length+1) (by omega) (by decide)) (ai (lt1 rfl) ?_)
      refine ai (by show a<L.length;exact hak) ?_
      refine fI mixed ay Tryz.func63 rfl rfl ?_
      refine ai rfl ?_
      intro b hb
      refine bf (fun hb0=>?_) (fun hb0=>?_)
      ·have hb1:(L.getD a aA).2.length=0:=hb hb0
       refine ai (ai (by decide) (by decide)) (ai (aK 1 rfl) ?_)
       refine ai (mxL (n:=L.length+1) (by omega) (by decide)) (ai (aK 1 rfl) ?_)
       refine ei (k+1) (ai (ai rfl rfl) (ai (ai (ai rfl (ai (ai rfl rfl) (ai (ai rfl rfl) (ai (ai (ai (ai (fun _=>rfl) (aH (by omega))) rfl) (ai (ai rfl (ai rfl (ai ?_ ?_))) (ai rfl (ai rfl (ai ?_ ?_))))) (ai (ai rfl (ai ?_ ?_)) trivial))))) rfl) (ai (ai (iL (by omega)) ?_) (iM (by omega)))))
       all_goals rw[e]
       ·rw[abg];rfl
       ·exact aY L (aC c L a k) (show dJ (bq c (L.getD a aA).1 k).1=_ by rw[hcan])
       ·rw[abg];rfl
       ·exact aX L (aC c L a k) (dI hb1 k)
       ·rw[abg];rfl
       ·exact aW L (aC c L a k)
       ·rw[abg];show L.length+1≤16384;omega
      ·refine ai (mxL (n:=0+(L.getD a aA).2.length) (by omega) (by decide)) (ai (fun _ _=>rfl) ?_)
       refine ai (mxL (n:=0+(L.getD a aA).2.length+1) (by omega) (by decide)) (ai (aK 1 rfl) ?_)
       refine ai (mxL (n:=L.length+1) (by omega) (by decide)) (ai (aK 1 rfl) ?_)
       refine ei (k+1) (ai (ai rfl rfl) (ai (ai (ai rfl (ai (ai rfl rfl) (ai (ai rfl rfl) (ai (ai (ai (ai (fun _=>rfl) (aH (by omega))) rfl) (ai (ai rfl (ai rfl (ai ?_ ?_))) (ai rfl (ai rfl (ai ?_ ?_))))) (ai (ai rfl (ai ?_ ?_)) trivial))))) rfl) (ai (ai (iL (by omega)) ?_) (iM (by omega)))))
       all_goals rw[e]
       ·rw[abg];rfl
       ·exact aY L (aC c L a k) (show dJ (bq c (L.getD a aA).1 k).1=_ by rw[hcan])
       ·rw[abg];rfl
       ·exact aX L (aC c L a k) (bY (L.getD a aA).2 k)
       ·rw[abg];rfl
       ·exact aW L (aC c L a k)
       ·rw[abg];show L.length+1≤16384;omega
     refine ai ?_ trivial
     refine ai (by show a<L.length;exact hak) ?_
     refine ai (mxL (n:=L.length+1) (by omega) (by decide)) (ai (lt1 rfl) ?_)
     refine fI mixed ay Tryz.func63 rfl rfl ?_
     refine ai rfl ?_
     intro b hb
     refine bf (fun hb0=>?_) (fun hb0=>?_)
     ·have hb1:(L.getD a aA).2.length=0:=hb hb0
      refine ai (ai (by decide) (by decide)) (ai (aK 1 rfl) ?_)
      refine ai (mxL (n:=L.length+1) (by omega) (by decide)) (ai (aK 1 rfl) ?_)
      refine ei (k+1) (ai (ai rfl rfl) (ai (ai (ai rfl (ai (ai rfl rfl) (ai (ai rfl rfl) (ai (ai (ai (ai (fun _=>rfl) (aH (by omega))) rfl) (ai (ai rfl (ai rfl (ai ?_ ?_))) (ai rfl (ai rfl (ai ?_ ?_))))) (ai (ai rfl (ai ?_ ?_)) trivial))))) rfl) (ai (ai (iL (by omega)) ?_) (iM (by omega)))))
      all_goals rw[e]
      ·rw[abg];rfl
      ·exact aY L (aC c L a k) (show dJ (bq c (L.getD a aA).1 k).1=_ by rw[hcan])
      ·rw[abg];rfl
      ·exact aX L (aC c L a k) (dI hb1 k)
      ·rw[abg];rfl
      ·exact aW L (aC c L a k)
      ·rw[abg];show L.length+1≤16384;omega
     ·refine ai (mxL (n:=0+(L.getD a aA).2.length) (by omega) (by decide)) (ai (fun _ _=>rfl) ?_)
      refine ai (mxL (n:=0+(L.getD a aA).2.length+1) (by omega) (by decide)) (ai (aK 1 rfl) ?_)
      refine ai (mxL (n:=L.length+1) (by omega) (by decide)) (ai (aK 1 rfl) ?_)
      refine ei (k+1) (ai (ai rfl rfl) (ai (ai (ai rfl (ai (ai rfl rfl) (ai (ai rfl rfl) (ai (ai (ai (ai (fun _=>rfl) (aH (by omega))) rfl) (ai (ai rfl (ai rfl (ai ?_ ?_))) (ai rfl (ai rfl (ai ?_ ?_))))) (ai (ai rfl (ai ?_ ?_)) trivial))))) rfl) (ai (ai (iL (by omega)) ?_) (iM (by omega)))))
      all_goals rw[e]
      ·rw[abg];rfl
      ·exact aY L (aC c L a k) (show dJ (bq c (L.getD a aA).1 k).1=_ by rw[hcan])
      ·rw[abg];rfl
      ·exact aX L (aC c L a k) (bY (L.getD a aA).2 k)
      ·rw[abg];rfl
      ·exact aW L (aC c L a k)
      ·rw[abg];show L.length+1≤16384;omega
    refine ai ?_ ?_
    ·refine ai (by show a<L.length;exact hak) ?_
     refine ai ?_ ?_
     ·refine ai ?_ ?_
      ·refine ai (mxL (n:=L.length+1) (by omega) (by decide)) (ai (lt1 rfl) ?_)
       refine ai ?_ ?_
       ·refine fI mixed ay Tryz.func63 rfl rfl ?_
        refine ai rfl ?_
        intro b hb
        refine bf (fun hb0=>?_) (fun hb0=>?_)
        ·have hb1:(L.getD a aA).2.length=0:=hb hb0
         refine ai (ai (by decide) (by decide)) (ai (aK 1 rfl) ?_)
         refine ai (mxL (n:=L.length+1) (by omega) (by decide)) (ai (aK 1 rfl) ?_)
         refine ei (k+1) (ai (ai rfl rfl) (ai (ai (ai rfl (ai (ai rfl rfl) (ai (ai rfl rfl) (ai (ai (ai (ai (fun _=>rfl) (aH (by omega))) rfl) (ai (ai rfl (ai rfl (ai ?_ ?_))) (ai rfl (ai rfl (ai ?_ ?_))))) (ai (ai rfl (ai ?_ ?_)) trivial))))) rfl) (ai (ai (iL (by omega)) ?_) (iM (by omega)))))
         all_goals rw[e]
         ·rw[abg];rfl
         ·exact aY L (aC c L a k) (show dJ (bq c (L.getD a aA).1 k).1=_ by rw[hcan])
         ·rw[abg];rfl
         ·exact aX L (aC c L a k) (dI hb1 k)
         ·rw[abg];rfl
         ·exact aW L (aC c L a k)
         ·rw[abg];show L.length+1≤16384;omega
        ·refine ai (mxL (n:=0+(L.getD a aA).2.length) (by omega) (by decide)) (ai (fun _ _=>rfl) ?_)
         refine ai (mxL (n:=0+(L.getD a aA).2.length+1) (by omega) (by decide)) (ai (aK 1 rfl) ?_)
         refine ai (mxL (n:=L.length+1) (by omega) (by decide)) (ai (aK 1 rfl) ?_)
         refine ei (k+1) (ai (ai rfl rfl) (ai (ai (ai rfl (ai (ai rfl rfl) (ai (ai rfl rfl) (ai (ai (ai (ai (fun _=>rfl) (aH (by omega))) rfl) (ai (ai rfl (ai rfl (ai ?_ ?_))) (ai rfl (ai rfl (ai ?_ ?_))))) (ai (ai rfl (ai ?_ ?_)) trivial))))) rfl) (ai (ai (iL (by omega)) ?_) (iM (by omega)))))
         all_goals rw[e]
         ·rw[abg];rfl
         ·exact aY L (aC c L a k) (show dJ (bq c (L.getD a aA).1 k).1=_ by rw[hcan])
         ·rw[abg];rfl
         ·exact aX L (aC c L a k) (bY (L.getD a aA).2 k)
         ·rw[abg];rfl
         ·exact aW L (aC c L a k)
         ·rw[abg];show L.length+1≤16384;omega
       refine ai ?_ trivial
       refine fI mixed ay Tryz.func63 rfl rfl ?_
       refine ai rfl ?_
       intro b hb
       refine bf (fun hb0=>?_) (fun hb0=>?_)
       ·have hb1:(L.getD a aA).2.length=0:=hb hb0
        refine ai (ai (by decide) (by decide)) (ai (aK 1 rfl) ?_)
        refine ai (mxL (n:=L.length+1) (by omega) (by decide)) (ai (aK 1 rfl) ?_)
        refine ei (k+1) (ai (ai rfl rfl) (ai (ai (ai rfl (ai (ai rfl rfl) (ai (ai rfl rfl) (ai (ai (ai (ai (fun _=>rfl) (aH (by omega))) rfl) (ai (ai rfl (ai rfl (ai ?_ ?_))) (ai rfl (ai rfl (ai ?_ ?_))))) (ai (ai rfl (ai ?_ ?_)) trivial))))) rfl) (ai (ai (iL (by omega)) ?_) (iM (by omega)))))
        all_goals rw[e]
        ·rw[abg];rfl
        ·exact aY L (aC c L a k) (show dJ (bq c (L.getD a aA).1 k).1=_ by rw[hcan])
        ·rw[abg];rfl
        ·exact aX L (aC c L a k) (dI hb1 k)
        ·rw[abg];rfl
        ·exact aW L (aC c L a k)
        ·rw[abg];show L.length+1≤16384;omega
       ·refine ai (mxL (n:=0+(L.getD a aA).2.length) (by omega) (by decide)) (ai (fun _ _=>rfl) ?_)
        refine ai (mxL (n:=0+(L.getD a aA).2.length+1) (by omega) (by decide)) (ai (aK 1 rfl) ?_)
        refine ai (mxL (n:=L.length+1) (by omega) (by decide)) (ai (aK 1 rfl) ?_)
        refine ei (k+1) (ai (ai rfl rfl) (ai (ai (ai rfl (ai (ai rfl rfl) (ai (ai rfl rfl) (ai (ai (ai (ai (fun _=>rfl) (aH (by omega))) rfl) (ai (ai rfl (ai rfl (ai ?_ ?_))) (ai rfl (ai rfl (ai ?_ ?_))))) (ai (ai rfl (ai ?_ ?_)) trivial))))) rfl) (ai (ai (iL (by omega)) ?_) (iM (by omega)))))
        all_goals rw[e]
        ·rw[abg];rfl
        ·exact aY L (aC c L a k) (show dJ (bq c (L.getD a aA).1 k).1=_ by rw[hcan])
        ·rw[abg];rfl
        ·exact aX L (aC c L a k) (bY (L.getD a aA).2 k)
        ·rw[abg];rfl
        ·exact aW L (aC c L a k)
        ·rw[abg];show L.length+1≤16384;omega
      refine ai ?_ trivial
      refine ai (mxL (n:=L.length+1) (by omega) (by decide)) (ai (lt1 rfl) ?_)
      refine fI mixed ay Tryz.func63 rfl rfl ?_
      refine ai rfl ?_
      intro b hb
      refine bf (fun hb0=>?_) (fun hb0=>?_)
      ·have hb1:(L.getD a aA).2.length=0:=hb hb0
       refine ai (ai (by decide) (by decide)) (ai (aK 1 rfl) ?_)
       refine ai (mxL (n:=L.length+1) (by omega) (by decide)) (ai (aK 1 rfl) ?_)
       refine ei (k+1) (ai (ai rfl rfl) (ai (ai (ai rfl (ai (ai rfl rfl) (ai (ai rfl rfl) (ai (ai (ai (ai (fun _=>rfl) (aH (by omega))) rfl) (ai (ai rfl (ai rfl (ai ?_ ?_))) (ai rfl (ai rfl (ai ?_ ?_))))) (ai (ai rfl (ai ?_ ?_)) trivial))))) rfl) (ai (ai (iL (by omega)) ?_) (iM (by omega)))))
       all_goals rw[e]
       ·rw[abg];rfl
       ·exact aY L (aC c L a k) (show dJ (bq c (L.getD a aA).1 k).1=_ by rw[hcan])
       ·rw[abg];rfl
       ·exact aX L (aC c L a k) (dI hb1 k)
       ·rw[abg];rfl
       ·exact aW L (aC c L a k)
       ·rw[abg];show L.length+1≤16384;omega
      ·refine ai (mxL (n:=0+(L.getD a aA).2.length) (by omega) (by decide)) (ai (fun _ _=>rfl) ?_)
       refine ai (mxL (n:=0+(L.getD a aA).2.length+1) (by omega) (by decide)) (ai (aK 1 rfl) ?_)
       refine ai (mxL (n:=L.length+1) (by omega) (by decide)) (ai (aK 1 rfl) ?_)
       refine ei (k+1) (ai (ai rfl rfl) (ai (ai (ai rfl (ai (ai rfl rfl) (ai (ai rfl rfl) (ai (ai (ai (ai (fun _=>rfl) (aH (by omega))) rfl) (ai (ai rfl (ai rfl (ai ?_ ?_))) (ai rfl (ai rfl (ai ?_ ?_))))) (ai (ai rfl (ai ?_ ?_)) trivial))))) rfl) (ai (ai (iL (by omega)) ?_) (iM (by omega)))))
       all_goals rw[e]
       ·rw[abg];rfl
       ·exact aY L (aC c L a k) (show dJ (bq c (L.getD a aA).1 k).1=_ by rw[hcan])
       ·rw[abg];rfl
       ·exact aX L (aC c L a k) (bY (L.getD a aA).2 k)
       ·rw[abg];rfl
       ·exact aW L (aC c L a k)
       ·rw[abg];show L.length+1≤16384;omega
     refine ai ?_ trivial
     refine ai (mxL (n:=L.length+1) (by omega) (by decide)) (ai (lt1 rfl) ?_)
     refine fI mixed ay Tryz.func63 rfl rfl ?_
     refine ai rfl ?_
     intro b hb
     refine bf (fun hb0=>?_) (fun hb0=>?_)
     ·have hb1:(L.getD a aA).2.length=0:=hb hb0
      refine ai (ai (by decide) (by decide)) (ai (aK 1 rfl) ?_)
      refine ai (mxL (n:=L.length+1) (by omega) (by decide)) (ai (aK 1 rfl) ?_)
      refine ei (k+1) (ai (ai rfl rfl) (ai (ai (ai rfl (ai (ai rfl rfl) (ai (ai rfl rfl) (ai (ai (ai (ai (fun _=>rfl) (aH (by omega))) rfl) (ai (ai rfl (ai rfl (ai ?_ ?_))) (ai rfl (ai rfl (ai ?_ ?_))))) (ai (ai rfl (ai ?_ ?_)) trivial))))) rfl) (ai (ai (iL (by omega)) ?_) (iM (by omega)))))
      all_goals rw[e]
      ·rw[abg];rfl
      ·exact aY L (aC c L a k) (show dJ (bq c (L.getD a aA).1 k).1=_ by rw[hcan])
      ·rw[abg];rfl
      ·exact aX L (aC c L a k) (dI hb1 k)
      ·rw[abg];rfl
      ·exact aW L (aC c L a k)
      ·rw[abg];show L.length+1≤16384;omega
     ·refine ai (mxL (n:=0+(L.getD a aA).2.length) (by omega) (by decide)) (ai (fun _ _=>rfl) ?_)
      refine ai (mxL (n:=0+(L.getD a aA).2.length+1) (by omega) (by decide)) (ai (aK 1 rfl) ?_)
      refine ai (mxL (n:=L.length+1) (by omega) (by decide)) (ai (aK 1 rfl) ?_)
      refine ei (k+1) (ai (ai rfl rfl) (ai (ai (ai rfl (ai (ai rfl rfl) (ai (ai rfl rfl) (ai (ai (ai (ai (fun _=>rfl) (aH (by omega))) rfl) (ai (ai rfl (ai rfl (ai ?_ ?_))) (ai rfl (ai rfl (ai ?_ ?_))))) (ai (ai rfl (ai ?_ ?_)) trivial))))) rfl) (ai (ai (iL (by omega)) ?_) (iM (by omega)))))
      all_goals rw[e]
      ·rw[abg];rfl
      ·exact aY L (aC c L a k) (show dJ (bq c (L.getD a aA).1 k).1=_ by rw[hcan])
      ·rw[abg];rfl
      ·exact aX L (aC c L a k) (bY (L.getD a aA).2 k)
      ·rw[abg];rfl
      ·exact aW L (aC c L a k)
      ·rw[abg];show L.length+1≤16384;omega
    refine ai ?_ trivial
    refine ai ?_ ?_
    ·refine ai ?_ ?_
     ·refine ai (mxL (n:=L.length+1) (by omega) (by decide)) (ai (lt1 rfl) ?_)
      refine ai (by show a<L.length;exact hak) ?_
      refine fI mixed ay Tryz.func63 rfl rfl ?_
      refine ai rfl ?_
      intro b hb
      refine bf (fun hb0=>?_) (fun hb0=>?_)
      ·have hb1:(L.getD a aA).2.length=0:=hb hb0
       refine ai (ai (by decide) (by decide)) (ai (aK 1 rfl) ?_)
       refine ai (mxL (n:=L.length+1) (by omega) (by decide)) (ai (aK 1 rfl) ?_)
       refine ei (k+1) (ai (ai rfl rfl) (ai (ai (ai rfl (ai (ai rfl rfl) (ai (ai rfl rfl) (ai (ai (ai (ai (fun _=>rfl) (aH (by omega))) rfl) (ai (ai rfl (ai rfl (ai ?_ ?_))) (ai rfl (ai rfl (ai ?_ ?_))))) (ai (ai rfl (ai ?_ ?_)) trivial))))) rfl) (ai (ai (iL (by omega)) ?_) (iM (by omega)))))
       all_goals rw[e]
       ·rw[abg];rfl
       ·exact aY L (aC c L a k) (show dJ (bq c (L.getD a aA).1 k).1=_ by rw[hcan])
       ·rw[abg];rfl
       ·exact aX L (aC c L a k) (dI hb1 k)
       ·rw[abg];rfl
       ·exact aW L (aC c L a k)
       ·rw[abg];show L.length+1≤16384;omega
      ·refine ai (mxL (n:=0+(L.getD a aA).2.length) (by omega) (by decide)) (ai (fun _ _=>rfl) ?_)
       refine ai (mxL (n:=0+(L.getD a aA).2.length+1) (by omega) (by decide)) (ai (aK 1 rfl) ?_)
       refine ai (mxL (n:=L.length+1) (by omega) (by decide)) (ai (aK 1 rfl) ?_)
       refine ei (k+1) (ai (ai rfl rfl) (ai (ai (ai rfl (ai (ai rfl rfl) (ai (ai rfl rfl) (ai (ai (ai (ai (fun _=>rfl) (aH (by omega))) rfl) (ai (ai rfl (ai rfl (ai ?_ ?_))) (ai rfl (ai rfl (ai ?_ ?_))))) (ai (ai rfl (ai ?_ ?_)) trivial))))) rfl) (ai (ai (iL (by omega)) ?_) (iM (by omega)))))
       all_goals rw[e]
       ·rw[abg];rfl
       ·exact aY L (aC c L a k) (show dJ (bq c (L.getD a aA).1 k).1=_ by rw[hcan])
       ·rw[abg];rfl
       ·exact aX L (aC c L a k) (bY (L.getD a aA).2 k)
       ·rw[abg];rfl
       ·exact aW L (aC c L a k)
       ·rw[abg];show L.length+1≤16384;omega
     refine ai ?_ trivial
     refine ai (by show a<L.length;exact hak) ?_
     refine ai (mxL (n:=L.length+1) (by omega) (by decide)) (ai (lt1 rfl) ?_)
     refine fI mixed ay Tryz.func63 rfl rfl ?_
     refine ai rfl ?_
     intro b hb
     refine bf (fun hb0=>?_) (fun hb0=>?_)
     ·have hb1:(L.getD a aA).2.length=0:=hb hb0
      refine ai (ai (by decide) (by decide)) (ai (aK 1 rfl) ?_)
      refine ai (mxL (n:=L.length+1) (by omega) (by decide)) (ai (aK 1 rfl) ?_)
      refine ei (k+1) (ai (ai rfl rfl) (ai (ai (ai rfl (ai (ai rfl rfl) (ai (ai rfl rfl) (ai (ai (ai (ai (fun _=>rfl) (aH (by omega))) rfl) (ai (ai rfl (ai rfl (ai ?_ ?_))) (ai rfl (ai rfl (ai ?_ ?_))))) (ai (ai rfl (ai ?_ ?_)) trivial))))) rfl) (ai (ai (iL (by omega)) ?_) (iM (by omega)))))
      all_goals rw[e]
      ·rw[abg];rfl
      ·exact aY L (aC c L a k) (show dJ (bq c (L.getD a aA).1 k).1=_ by rw[hcan])
      ·rw[abg];rfl
      ·exact aX L (aC c L a k) (dI hb1 k)
      ·rw[abg];rfl
      ·exact aW L (aC c L a k)
      ·rw[abg];show L.length+1≤16384;omega
     ·refine ai (mxL (n:=0+(L.getD a aA).2.length) (by omega) (by decide)) (ai (fun _ _=>rfl) ?_)
      refine ai (mxL (n:=0+(L.getD a aA).2.length+1) (by omega) (by decide)) (ai (aK 1 rfl) ?_)
      refine ai (mxL (n:=L.length+1) (by omega) (by decide)) (ai (aK 1 rfl) ?_)
      refine ei (k+1) (ai (ai rfl rfl) (ai (ai (ai rfl (ai (ai rfl rfl) (ai (ai rfl rfl) (ai (ai (ai (ai (fun _=>rfl) (aH (by omega))) rfl) (ai (ai rfl (ai rfl (ai ?_ ?_))) (ai rfl (ai rfl (ai ?_ ?_))))) (ai (ai rfl (ai ?_ ?_)) trivial))))) rfl) (ai (ai (iL (by omega)) ?_) (iM (by omega)))))
      all_goals rw[e]
      ·rw[abg];rfl
      ·exact aY L (aC c L a k) (show dJ (bq c (L.getD a aA).1 k).1=_ by rw[hcan])
      ·rw[abg];rfl
      ·exact aX L (aC c L a k) (bY (L.getD a aA).2 k)
      ·rw[abg];rfl
      ·exact aW L (aC c L a k)
      ·rw[abg];show L.length+1≤16384;omega
    refine ai ?_ trivial
    refine ai (by show a<L.length;exact hak) ?_
    refine ai (mxL (n:=L.length+1) (by omega) (by decide)) (ai (lt1 rfl) ?_)
    refine fI mixed ay Tryz.func63 rfl rfl ?_
    refine ai rfl ?_
    intro b hb
    refine bf (fun hb0=>?_) (fun hb0=>?_)
    ·have hb1:(L.getD a aA).2.length=0:=hb hb0
     refine ai (ai (by decide) (by decide)) (ai (aK 1 rfl) ?_)
     refine ai (mxL (n:=L.length+1) (by omega) (by decide)) (ai (aK 1 rfl) ?_)
     refine ei (k+1) (ai (ai rfl rfl) (ai (ai (ai rfl (ai (ai rfl rfl) (ai (ai rfl rfl) (ai (ai (ai (ai (fun _=>rfl) (aH (by omega))) rfl) (ai (ai rfl (ai rfl (ai ?_ ?_))) (ai rfl (ai rfl (ai ?_ ?_))))) (ai (ai rfl (ai ?_ ?_)) trivial))))) rfl) (ai (ai (iL (by omega)) ?_) (iM (by omega)))))
     all_goals rw[e]
     ·rw[abg];rfl
     ·exact aY L (aC c L a k) (show dJ (bq c (L.getD a aA).1 k).1=_ by rw[hcan])
     ·rw[abg];rfl
     ·exact aX L (aC c L a k) (dI hb1 k)
     ·rw[abg];rfl
     ·exact aW L (aC c L a k)
     ·rw[abg];show L.length+1≤16384;omega
    ·refine ai (mxL (n:=0+(L.getD a aA).2.length) (by omega) (by decide)) (ai (fun _ _=>rfl) ?_)
     refine ai (mxL (n:=0+(L.getD a aA).2.length+1) (by omega) (by decide)) (ai (aK 1 rfl) ?_)
     refine ai (mxL (n:=L.length+1) (by omega) (by decide)) (ai (aK 1 rfl) ?_)
     refine ei (k+1) (ai (ai rfl rfl) (ai (ai (ai rfl (ai (ai rfl rfl) (ai (ai rfl rfl) (ai (ai (ai (ai (fun _=>rfl) (aH (by omega))) rfl) (ai (ai rfl (ai rfl (ai ?_ ?_))) (ai rfl (ai rfl (ai ?_ ?_))))) (ai (ai rfl (ai ?_ ?_)) trivial))))) rfl) (ai (ai (iL (by omega)) ?_) (iM (by omega)))))
     all_goals rw[e]
     ·rw[abg];rfl
     ·exact aY L (aC c L a k) (show dJ (bq c (L.getD a aA).1 k).1=_ by rw[hcan])
     ·rw[abg];rfl
     ·exact aX L (aC c L a k) (bY (L.getD a aA).2 k)
     ·rw[abg];rfl
     ·exact aW L (aC c L a k)
     ·rw[abg];show L.length+1≤16384;omega
   ·refine ei _ (ai (abb) (ei ((c,(L.getD a aA).1,k)) (ei [] (ai (a4 (ai (fun _=>Or.inl rfl) (ai nof (Or.inl rfl)))) (ai (by exact (ai (ai rfl (ai (ai rfl (fun _ _=>rfl)) (ai (ai rfl (fun _ _=>rfl)) (ai rfl (fun _ _=>rfl))))) (ai (ai rfl (fun _ _=>rfl)) rfl))) (ai trivial (ai (⟨hc,ho,hga.1,h2⟩) ?_)))))))
    refine aR (b:=!(bq c (L.getD a aA).1 k).2) rfl (fun h3=>?_) (fun h3=>?_)
    ·have h3:allM (L.getD a aA).1 (y8 c k).fr=false:=by
      have h3:(bq c (L.getD a aA).1 k).2=false:=by simpa using h3
      unfold bq at h3
      split at h3
      ·cases h3
      ·rename_i h;exact asC.2 h
     have e:fQ c l a (k+1)=L:=by rw[hst];unfold kG adds;rw[h3];simp
     refine ei (k+1) (ai (ai rfl rfl) (ai (ai (ai rfl (ai (ai rfl rfl) (ai (ai rfl rfl) (ai (ai (ai (ai (fun _=>rfl) (aH (by omega))) rfl) (ai (ai rfl (ai rfl (ai ?_ ?_))) (ai rfl (ai rfl (ai ?_ ?_))))) (ai (ai rfl (ai ?_ ?_)) trivial))))) rfl) (ai (ai (iL (by omega)) ?_) (iM (by omega)))))
     all_goals rw[e]
     ·exact fun _ _=>rfl
     ·exact fun k _=>bR.rfl' _
     ·exact fun _=>rfl
     ·exact hkl
    have h3:allM (L.getD a aA).1 (y8 c k).fr=true:=by
     have h3:(bq c (L.getD a aA).1 k).2=true:=by simpa using h3
     unfold bq at h3
     split at h3
     ·assumption
     ·cases h3
    have hcan:(bq c (L.getD a aA).1 k).1=(aC c L a k).1:=by unfold bq;exact congrArg Prod.fst (if_pos h3)
    have hkey:∀q,q<24→fA (bq c (L.getD a aA).1 k).1 q=.val (.bool ((bN (aC c L a k).1).getD q false)):=fun q _=>by rw[hcan,l6];rfl
    refine ai (ai rfl rfl) (ei (bN (aC c L a k).1) (ai (ai (ni (by omega)) hkey) ?_))
    refine ei (bP (sD L (aC c L a k).1)) (ei (sD L (aC c L a k).1) (ai ?_ ?_))
    ·show (∀d',yY L (.bools (bN (aC c L a k).1))=some d'→_)∧(yY L (.bools (bN (aC c L a k).1))=none→_)
     rw[aeu hln]
     cases sD L (aC c L a k).1
     ·exact ⟨fun d' h=>by simp at h,fun _=>⟨rfl,rfl⟩⟩
     ·exact ⟨fun d' h=>by simp at h;exact ⟨h.symm,rfl⟩,fun h=>by simp at h⟩
    refine aR (b:=sD L (aC c L a k).1) rfl (fun h4=>?_) (fun h4=>?_)
    ·have e:fQ c l a (k+1)=L:=by rw[hst];unfold kG adds;rw[h4];simp
     refine ei (k+1) (ai (ai rfl rfl) (ai (ai (ai rfl (ai (ai rfl rfl) (ai (ai rfl rfl) (ai (ai (ai (ai (fun _=>rfl) (aH (by omega))) rfl) (ai (ai rfl (ai rfl (ai ?_ ?_))) (ai rfl (ai rfl (ai ?_ ?_))))) (ai (ai rfl (ai ?_ ?_)) trivial))))) rfl) (ai (ai (iL (by omega)) ?_) (iM (by omega)))))
     all_goals rw[e]
     ·exact fun _ _=>rfl
     ·exact fun k _=>bR.rfl' _
     ·exact fun _=>rfl
     ·exact hkl
    have hn:adds c L a k=true:=by unfold adds;rw[h3,h4];rfl
    have e:fQ c l a (k+1)=L++[aC c L a k]:=by rw[hst];unfold kG;rw[if_pos hn]
    refine ah (p:=L.length=16384) (eZ (by omega)) (fun h5=>?_) (fun h5=>?_)
    ·refine ai (ai (fun h=>absurd (show false=true from h) (by decide)) ?_) trivial
     show ak _ (xk c)
     rw[xk,hrun (by rw[e,abg];show 16384<L.length+1;omega)]
     exact (ai rfl (ai rfl rfl))
    refine ai rfl (ei (bN (aC c L a k).1) (ai (ai (ni (by omega)) hkey) ?_))
    refine ei (L.length+1) (ai (ai (fun _=>rfl) (fun d hd=>absurd ((agm hln h4).symm.trans hd) (by simp))) ?_)
    refine ei (.one 0 (.one 1 (.one 4 (.one 5 (.one 6 (.one 7 (.one 10 (.alt 2 (.alt 3 (.one 8 (.altw 9 (.one 11 (.one 12 (.one 13 (.one 14 (.one 15 (.one 16 .done)))))) (.alt 11 (.wr 9 (.one 12 (.one 13 (.one 14 (.one 15 (.one 16 .done)))))) .stop))) (.alt 8 (.alt 3 (.altw 9 (.one 11 (.one 12 (.one 13 (.one 14 (.one 15 (.one 16 .done)))))) (.alt 11 (.wr 9 (.one 12 (.one 13 (.one 14 (.one 15 (.one 16 .done)))))) .stop)) (.alt 11 (.one 3 (.wr 9 (.one 12 (.one 13 (.one 14 (.one 15 (.one 16 .done))))))) .stop)) (.alt 11 (.alt 3 (.one 8 (.wr 9 (.one 12 (.one 13 (.one 14 (.one 15 (.one 16 .done))))))) (.alt 8 (.one 3 (.wr 9 (.one 12 (.one 13 (.one 14 (.one 15 (.one 16 .done))))))) .stop)) .stop))) (.alt 8 (.alt 2 (.alt 3 (.altw 9 (.one 11 (.one 12 (.one 13 (.one 14 (.one 15 (.one 16 .done)))))) (.alt 11 (.wr 9 (.one 12 (.one 13 (.one 14 (.one 15 (.one 16 .done)))))) .stop)) (.alt 11 (.one 3 (.wr 9 (.one 12 (.one 13 (.one 14 (.one 15 (.one 16 .done))))))) .stop)) (.alt 11 (.one 2 (.one 3 (.wr 9 (.one 12 (.one 13 (.one 14 (.one 15 (.one 16 .done)))))))) .stop)) (.alt 11 (.alt 2 (.alt 3 (.one 8 (.wr 9 (.one 12 (.one 13 (.one 14 (.one 15 (.one 16 .done))))))) (.alt 8 (.one 3 (.wr 9 (.one 12 (.one 13 (.one 14 (.one 15 (.one 16 .done))))))) .stop)) (.alt 8 (.one 2 (.one 3 (.wr 9 (.one 12 (.one 13 (.one 14 (.one 15 (.one 16 .done)))))))) .stop)) .stop)))))))))) (ai (by kernel_rfl) ?_)
    refine ai (ai (abw _) (by show (a:Int)<(L.length:Int);omega)) ?_
    refine ai ?_ ?_
    ·refine ai ?_ ?_
     ·refine ai (mxL (n:=L.length+1) (by omega) (by decide)) (ai (lt1 rfl) ?_)
      refine ai (by show a<L.length;exact hak) ?_
      refine ai ?_ ?_
      ·refine fI mixed ay Tryz.func63 rfl rfl ?_
       refine ai rfl ?_
       intro b hb
       refine bf (fun hb0=>?_) (fun hb0=>?_)
       ·have hb1:(L.getD a aA).2.length=0:=hb hb0
        refine ai (ai (by decide) (by decide)) (ai (aK 1 rfl) ?_)
        refine ai (mxL (n:=L.length+1) (by omega) (by decide)) (ai (aK 1 rfl) ?_)
        refine ei (k+1) (ai (ai rfl rfl) (ai (ai (ai rfl (ai (ai rfl rfl) (ai (ai rfl rfl) (ai (ai (ai (ai (fun _=>rfl) (aH (by omega))) rfl) (ai (ai rfl (ai rfl (ai ?_ ?_))) (ai rfl (ai rfl (ai ?_ ?_))))) (ai (ai rfl (ai ?_ ?_)) trivial))))) rfl) (ai (ai (iL (by omega)) ?_) (iM (by omega)))))
        all_goals rw[e]
        ·rw[abg];rfl
        ·exact aY L (aC c L a k) (show dJ (bq c (L.getD a aA).1 k).1=_ by rw[hcan])
        ·rw[abg];rfl
        ·exact aX L (aC c L a k) (dI hb1 k)
        ·rw[abg];rfl
        ·exact aW L (aC c L a k)
        ·rw[abg];show L.length+1≤16384;omega
       ·refine ai (mxL (n:=0+(L.getD a aA).2.length) (by omega) (by decide)) (ai (fun _ _=>rfl) ?_)
        refine ai (mxL (n:=0+(L.getD a aA).2.length+1) (by omega) (by decide)) (ai (aK 1 rfl) ?_)
        refine ai (mxL (n:=L.length+1) (by omega) (by decide)) (ai (aK 1 rfl) ?_)
        refine ei (k+1) (ai (ai rfl rfl) (ai (ai (ai rfl (ai (ai rfl rfl) (ai (ai rfl rfl) (ai (ai (ai (ai (fun _=>rfl) (aH (by omega))) rfl) (ai (ai rfl (ai rfl (ai ?_ ?_))) (ai rfl (ai rfl (ai ?_ ?_))))) (ai (ai rfl (ai ?_ ?_)) trivial))))) rfl) (ai (ai (iL (by omega)) ?_) (iM (by omega)))))
        all_goals rw[e]
        ·rw[abg];rfl
        ·exact aY L (aC c L a k) (show dJ (bq c (L.getD a aA).1 k).1=_ by rw[hcan])
        ·rw[abg];rfl
        ·exact aX L (aC c L a k) (bY (L.getD a aA).2 k)
        ·rw[abg];rfl
        ·exact aW L (aC c L a k)
        ·rw[abg];show L.length+1≤16384;omega
      refine ai ?_ trivial
      refine fI mixed ay Tryz.func63 rfl rfl ?_
      refine ai rfl ?_
      intro b hb
      refine bf (fun hb0=>?_) (fun hb0=>?_)
      ·have hb1:(L.getD a aA).2.length=0:=hb hb0
       refine ai (ai (by decide) (by decide)) (ai (aK 1 rfl) ?_)
       refine ai (mxL (n:=L.length+1) (by omega) (by decide)) (ai (aK 1 rfl) ?_)
       refine ei (k+1) (ai (ai rfl rfl) (ai (ai (ai rfl (ai (ai rfl rfl) (ai (ai rfl rfl) (ai (ai (ai (ai (fun _=>rfl) (aH (by omega))) rfl) (ai (ai rfl (ai rfl (ai ?_ ?_))) (ai rfl (ai rfl (ai ?_ ?_))))) (ai (ai rfl (ai ?_ ?_)) trivial))))) rfl) (ai (ai (iL (by omega)) ?_) (iM (by omega)))))
       all_goals rw[e]
       ·rw[abg];rfl
       ·exact aY L (aC c L a k) (show dJ (bq c (L.getD a aA).1 k).1=_ by rw[hcan])
       ·rw[abg];rfl
       ·exact aX L (aC c L a k) (dI hb1 k)
       ·rw[abg];rfl
       ·exact aW L (aC c L a k)
       ·rw[abg];show L.length+1≤16384;omega
      ·refine ai (mxL (n:=0+(L.getD a aA).2.length) (by omega) (by decide)) (ai (fun _ _=>rfl) ?_)
       refine ai (mxL (n:=0+(L.getD a aA).2.length+1) (by omega) (by decide)) (ai (aK 1 rfl) ?_)
       refine ai (mxL (n:=L.length+1) (by omega) (by decide)) (ai (aK 1 rfl) ?_)
       refine ei (k+1) (ai (ai rfl rfl) (ai (ai (ai rfl (ai (ai rfl rfl) (ai (ai rfl rfl) (ai (ai (ai (ai (fun _=>rfl) (aH (by omega))) rfl) (ai (ai rfl (ai rfl (ai ?_ ?_))) (ai rfl (ai rfl (ai ?_ ?_))))) (ai (ai rfl (ai ?_ ?_)) trivial))))) rfl) (ai (ai (iL (by omega)) ?_) (iM (by omega)))))
       all_goals rw[e]
       ·rw[abg];rfl
       ·exact aY L (aC c L a k) (show dJ (bq c (L.getD a aA).1 k).1=_ by rw[hcan])
       ·rw[abg];rfl
       ·exact aX L (aC c L a k) (bY (L.getD a aA).2 k)
       ·rw[abg];rfl
       ·exact aW L (aC c L a k)
       ·rw[abg];show L.length+1≤16384;omega
     refine ai ?_ ?_
     ·refine ai (by show a<L.length;exact hak) ?_
      refine ai ?_ ?_
      ·refine ai (mxL (n:=L.length+1) (by omega) (by decide)) (ai (lt1 rfl) ?_)
       refine ai ?_ ?_
       ·refine fI mixed ay Tryz.func63 rfl rfl ?_
        refine ai rfl ?_
        intro b hb
        refine bf (fun hb0=>?_) (fun hb0=>?_)
        ·have hb1:(L.getD a aA).2.length=0:=hb hb0
         refine ai (ai (by decide) (by decide)) (ai (aK 1 rfl) ?_)
         refine ai (mxL (n:=L.length+1) (by omega) (by decide)) (ai (aK 1 rfl) ?_)
         refine ei (k+1) (ai (ai rfl rfl) (ai (ai (ai rfl (ai (ai rfl rfl) (ai (ai rfl rfl) (ai (ai (ai (ai (fun _=>rfl) (aH (by omega))) rfl) (ai (ai rfl (ai rfl (ai ?_ ?_))) (ai rfl (ai rfl (ai ?_ ?_))))) (ai (ai rfl (ai ?_ ?_)) trivial))))) rfl) (ai (ai (iL (by omega)) ?_) (iM (by omega)))))
         all_goals rw[e]
         ·rw[abg];rfl
         ·exact aY L (aC c L a k) (show dJ (bq c (L.getD a aA).1 k).1=_ by rw[hcan])
         ·rw[abg];rfl
         ·exact aX L (aC c L a k) (dI hb1 k)
         ·rw[abg];rfl
         ·exact aW L (aC c L a k)
         ·rw[abg];show L.length+1≤16384;omega
        ·refine ai (mxL (n:=0+(L.getD a aA).2.length) (by omega) (by decide)) (ai (fun _ _=>rfl) ?_)
         refine ai (mxL (n:=0+(L.getD a aA).2.length+1) (by omega) (by decide)) (ai (aK 1 rfl) ?_)
         refine ai (mxL (n:=L.length+1) (by omega) (by decide)) (ai (aK 1 rfl) ?_)
         refine ei (k+1) (ai (ai rfl rfl) (ai (ai (ai rfl (ai (ai rfl rfl) (ai (ai rfl rfl) (ai (ai (ai (ai (fun _=>rfl) (aH (by omega))) rfl) (ai (ai rfl (ai rfl (ai ?_ ?_))) (ai rfl (ai rfl (ai ?_ ?_))))) (ai (ai rfl (ai ?_ ?_)) trivial))))) rfl) (ai (ai (iL (by omega)) ?_) (iM (by omega)))))
         all_goals rw[e]
         ·rw[abg];rfl
         ·exact aY L (aC c L a k) (show dJ (bq c (L.getD a aA).1 k).1=_ by rw[hcan])
         ·rw[abg];rfl
         ·exact aX L (aC c L a k) (bY (L.getD a aA).2 k)
         ·rw[abg];rfl
         ·exact aW L (aC c L a k)
         ·rw[abg];show L.length+1≤16384;omega
       refine ai ?_ trivial
       refine fI mixed ay Tryz.func63 rfl rfl ?_
       refine ai rfl ?_
       intro b hb
       refine bf (fun hb0=>?_) (fun hb0=>?_)
       ·have hb1:(L.getD a aA).2.length=0:=hb hb0
        refine ai (ai (by decide) (by decide)) (ai (aK 1 rfl) ?_)
        refine ai (mxL (n:=L.length+1) (by omega) (by decide)) (ai (aK 1 rfl) ?_)
        refine ei (k+1) (ai (ai rfl rfl) (ai (ai (ai rfl (ai (ai rfl rfl) (ai (ai rfl rfl) (ai (ai (ai (ai (fun _=>rfl) (aH (by omega))) rfl) (ai (ai rfl (ai rfl (ai ?_ ?_))) (ai rfl (ai rfl (ai ?_ ?_))))) (ai (ai rfl (ai ?_ ?_)) trivial))))) rfl) (ai (ai (iL (by omega)) ?_) (iM (by omega)))))
        all_goals rw[e]
        ·rw[abg];rfl
        ·exact aY L (aC c L a k) (show dJ (bq c (L.getD a aA).1 k).1=_ by rw[hcan])
        ·rw[abg];rfl
        ·exact aX L (aC c L a k) (dI hb1 k)
        ·rw[abg];rfl
        ·exact aW L (aC c L a k)
        ·rw[abg];show L.length+1≤16384;omega
       ·refine ai (mxL (n:=0+(L.getD a aA).2.length) (by omega) (by decide)) (ai (fun _ _=>rfl) ?_)
        refine ai (mxL (n:=0+(L.getD a aA).2.length+1) (by omega) (by decide)) (ai (aK 1 rfl) ?_)
        refine ai (mxL (n:=L.length+1) (by omega) (by decide)) (ai (aK 1 rfl) ?_)
        refine ei (k+1) (ai (ai rfl rfl) (ai (ai (ai rfl (ai (ai rfl rfl) (ai (ai rfl rfl) (ai (ai (ai (ai (fun _=>rfl) (aH (by omega))) rfl) (ai (ai rfl (ai rfl (ai ?_ ?_))) (ai rfl (ai rfl (ai ?_ ?_))))) (ai (ai rfl (ai ?_ ?_)) trivial))))) rfl) (ai (ai (iL (by omega)) ?_) (iM (by omega)))))
        all_goals rw[e]
        ·rw[abg];rfl
        ·exact aY L (aC c L a k) (show dJ (bq c (L.getD a aA).1 k).1=_ by rw[hcan])
        ·rw[abg];rfl
        ·exact aX L (aC c L a k) (bY (L.getD a aA).2 k)
        ·rw[abg];rfl
        ·exact aW L (aC c L a k)
        ·rw[abg];show L.length+1≤16384;omega
      refine ai ?_ trivial
      refine ai (mxL (n:=L.length+1) (by omega) (by decide)) (ai (lt1 rfl) ?_)
      refine fI mixed ay Tryz.func63 rfl rfl ?_
      refine ai rfl ?_
      intro b hb
      refine bf (fun hb0=>?_) (fun hb0=>?_)
      ·have hb1:(L.getD a aA).2.length=0:=hb hb0
       refine ai (ai (by decide) (by decide)) (ai (aK 1 rfl) ?_)
       refine ai (mxL (n:=L.length+1) (by omega) (by decide)) (ai (aK 1 rfl) ?_)
       refine ei (k+1) (ai (ai rfl rfl) (ai (ai (ai rfl (ai (ai rfl rfl) (ai (ai rfl rfl) (ai (ai (ai (ai (fun _=>rfl) (aH (by omega))) rfl) (ai (ai rfl (ai rfl (ai ?_ ?_))) (ai rfl (ai rfl (ai ?_ ?_))))) (ai (ai rfl (ai ?_ ?_)) trivial))))) rfl) (ai (ai (iL (by omega)) ?_) (iM (by omega)))))
       all_goals rw[e]
       ·rw[abg];rfl
       ·exact aY L (aC c L a k) (show dJ (bq c (L.getD a aA).1 k).1=_ by rw[hcan])
       ·rw[abg];rfl
       ·exact aX L (aC c L a k) (dI hb1 k)
       ·rw[abg];rfl
       ·exact aW L (aC c L a k)
       ·rw[abg];show L.length+1≤16384;omega
      ·refine ai (mxL (n:=0+(L.getD a aA).2.length) (by omega) (by decide)) (ai (fun _ _=>rfl) ?_)
       refine ai (mxL (n:=0+(L.getD a aA).2.length+1) (by omega) (by decide)) (ai (aK 1 rfl) ?_)
       refine ai (mxL (n:=L.length+1) (by omega) (by decide)) (ai (aK 1 rfl) ?_)
       refine ei (k+1) (ai (ai rfl rfl) (ai (ai (ai rfl (ai (ai rfl rfl) (ai (ai rfl rfl) (ai (ai (ai (ai (fun _=>rfl) (aH (by omega))) rfl) (ai (ai rfl (ai rfl (ai ?_ ?_))) (ai rfl (ai rfl (ai ?_ ?_))))) (ai (ai rfl (ai ?_ ?_)) trivial))))) rfl) (ai (ai (iL (by omega)) ?_) (iM (by omega)))))
       all_goals rw[e]
       ·rw[abg];rfl
       ·exact aY L (aC c L a k) (show dJ (bq c (L.getD a aA).1 k).1=_ by rw[hcan])
       ·rw[abg];rfl
       ·exact aX L (aC c L a k) (bY (L.getD a aA).2 k)
       ·rw[abg];rfl
       ·exact aW L (aC c L a k)
       ·rw[abg];show L.length+1≤16384;omega
     refine ai ?_ trivial
     refine ai ?_ ?_
     ·refine ai (mxL (n:=L.length+1) (by omega) (by decide)) (ai (lt1 rfl) ?_)
      refine ai (by show a<L.length;exact hak) ?_
      refine fI mixed ay Tryz.func63 rfl rfl ?_
      refine ai rfl ?_
      intro b hb
      refine bf (fun hb0=>?_) (fun hb0=>?_)
      ·have hb1:(L.getD a aA).2.length=0:=hb hb0
       refine ai (ai (by decide) (by decide)) (ai (aK 1 rfl) ?_)
       refine ai (mxL (n:=L.length+1) (by omega) (by decide)) (ai (aK 1 rfl) ?_)
       refine ei (k+1) (ai (ai rfl rfl) (ai (ai (ai rfl (ai (ai rfl rfl) (ai (ai rfl rfl) (ai (ai (ai (ai (fun _=>rfl) (aH (by omega))) rfl) (ai (ai rfl (ai rfl (ai ?_ ?_))) (ai rfl (ai rfl (ai ?_ ?_))))) (ai (ai rfl (ai ?_ ?_)) trivial))))) rfl) (ai (ai (iL (by omega)) ?_) (iM (by omega)))))
       all_goals rw[e]
       ·rw[abg];rfl
       ·exact aY L (aC c L a k) (show dJ (bq c (L.getD a aA).1 k).1=_ by rw[hcan])
       ·rw[abg];rfl
       ·exact aX L (aC c L a k) (dI hb1 k)
       ·rw[abg];rfl
       ·exact aW L (aC c L a k)
       ·rw[abg];show L.length+1≤16384;omega
      ·refine ai (mxL (n:=0+(L.getD a aA).2.length) (by omega) (by decide)) (ai (fun _ _=>rfl) ?_)
       refine ai (mxL (n:=0+(L.getD a aA).2.length+1) (by omega) (by decide)) (ai (aK 1 rfl) ?_)
       refine ai (mxL (n:=L.length+1) (by omega) (by decide)) (ai (aK 1 rfl) ?_)
       refine ei (k+1) (ai (ai rfl rfl) (ai (ai (ai rfl (ai (ai rfl rfl) (ai (ai rfl rfl) (ai (ai (ai (ai (fun _=>rfl) (aH (by omega))) rfl) (ai (ai rfl (ai rfl (ai ?_ ?_))) (ai rfl (ai rfl (ai ?_ ?_))))) (ai (ai rfl (ai ?_ ?_)) trivial))))) rfl) (ai (ai (iL (by omega)) ?_) (iM (by omega)))))
       all_goals rw[e]
       ·rw[abg];rfl
       ·exact aY L (aC c L a k) (show dJ (bq c (L.getD a aA).1 k).1=_ by rw[hcan])
       ·rw[abg];rfl
       ·exact aX L (aC c L a k) (bY (L.getD a aA).2 k)
       ·rw[abg];rfl
       ·exact aW L (aC c L a k)
       ·rw[abg];show L.length+1≤16384;omega
     refine ai ?_ trivial
     refine ai (by show a<L.length;exact hak) ?_
     refine ai (mxL (n:=L.length+1) (by omega) (by decide)) (ai (lt1 rfl) ?_)
     refine fI mixed ay Tryz.func63 rfl rfl ?_
     refine ai rfl ?_
     intro b hb
     refine bf (fun hb0=>?_) (fun hb0=>?_)
     ·have hb1:(L.getD a aA).2.length=0:=hb hb0
      refine ai (ai (by decide) (by decide)) (ai (aK 1 rfl) ?_)
      refine ai (mxL (n:=L.length+1) (by omega) (by decide)) (ai (aK 1 rfl) ?_)
      refine ei (k+1) (ai (ai rfl rfl) (ai (ai (ai rfl (ai (ai rfl rfl) (ai (ai rfl rfl) (ai (ai (ai (ai (fun _=>rfl) (aH (by omega))) rfl) (ai (ai rfl (ai rfl (ai ?_ ?_))) (ai rfl (ai rfl (ai ?_ ?_))))) (ai (ai rfl (ai ?_ ?_)) trivial))))) rfl) (ai (ai (iL (by omega)) ?_) (iM (by omega)))))
      all_goals rw[e]
      ·rw[abg];rfl
      ·exact aY L (aC c L a k) (show dJ (bq c (L.getD a aA).1 k).1=_ by rw[hcan])
      ·rw[abg];rfl
      ·exact aX L (aC c L a k) (dI hb1 k)
      ·rw[abg];rfl
      ·exact aW L (aC c L a k)
      ·rw[abg];show L.length+1≤16384;omega
     ·refine ai (mxL (n:=0+(L.getD a aA).2.length) (by omega) (by decide)) (ai (fun _ _=>rfl) ?_)
      refine ai (mxL (n:=0+(L.getD a aA).2.length+1) (by omega) (by decide)) (ai (aK 1 rfl) ?_)
      refine ai (mxL (n:=L.length+1) (by omega) (by decide)) (ai (aK 1 rfl) ?_)
      refine ei (k+1) (ai (ai rfl rfl) (ai (ai (ai rfl (ai (ai rfl rfl) (ai (ai rfl rfl) (ai (ai (ai (ai (fun _=>rfl) (aH (by omega))) rfl) (ai (ai rfl (ai rfl (ai ?_ ?_))) (ai rfl (ai rfl (ai ?_ ?_))))) (ai (ai rfl (ai ?_ ?_)) trivial))))) rfl) (ai (ai (iL (by omega)) ?_) (iM (by omega)))))
      all_goals rw[e]
      ·rw[abg];rfl
      ·exact aY L (aC c L a k) (show dJ (bq c (L.getD a aA).1 k).1=_ by rw[hcan])
      ·rw[abg];rfl
      ·exact aX L (aC c L a k) (bY (L.getD a aA).2 k)
      ·rw[abg];rfl
      ·exact aW L (aC c L a k)
      ·rw[abg];show L.length+1≤16384;omega
    refine ai ?_ ?_
    ·refine ai (by show a<L.length;exact hak) ?_
     refine ai ?_ ?_
     ·refine ai ?_ ?_
      ·refine ai (mxL (n:=L.length+1) (by omega) (by decide)) (ai (lt1 rfl) ?_)
       refine ai ?_ ?_
       ·refine fI mixed ay Tryz.func63 rfl rfl ?_
        refine ai rfl ?_
        intro b hb
        refine bf (fun hb0=>?_) (fun hb0=>?_)
        ·have hb1:(L.getD a aA).2.length=0:=hb hb0
         refine ai (ai (by decide) (by decide)) (ai (aK 1 rfl) ?_)
         refine ai (mxL (n:=L.length+1) (by omega) (by decide)) (ai (aK 1 rfl) ?_)
         refine ei (k+1) (ai (ai rfl rfl) (ai (ai (ai rfl (ai (ai rfl rfl) (ai (ai rfl rfl) (ai (ai (ai (ai (fun _=>rfl) (aH (by omega))) rfl) (ai (ai rfl (ai rfl (ai ?_ ?_))) (ai rfl (ai rfl (ai ?_ ?_))))) (ai (ai rfl (ai ?_ ?_)) trivial))))) rfl) (ai (ai (iL (by omega)) ?_) (iM (by omega)))))
         all_goals rw[e]
         ·rw[abg];rfl
         ·exact aY L (aC c L a k) (show dJ (bq c (L.getD a aA).1 k).1=_ by rw[hcan])
         ·rw[abg];rfl
         ·exact aX L (aC c L a k) (dI hb1 k)
         ·rw[abg];rfl
         ·exact aW L (aC c L a k)
         ·rw[abg];show L.length+1≤16384;omega
        ·refine ai (mxL (n:=0+(L.getD a aA).2.length) (by omega) (by decide)) (ai (fun _ _=>rfl) ?_)
         refine ai (mxL (n:=0+(L.getD a aA).2.length+1) (by omega) (by decide)) (ai (aK 1 rfl) ?_)
         refine ai (mxL (n:=L.length+1) (by omega) (by decide)) (ai (aK 1 rfl) ?_)
         refine ei (k+1) (ai (ai rfl rfl) (ai (ai (ai rfl (ai (ai rfl rfl) (ai (ai rfl rfl) (ai (ai (ai (ai (fun _=>rfl) (aH (by omega))) rfl) (ai (ai rfl (ai rfl (ai ?_ ?_))) (ai rfl (ai rfl (ai ?_ ?_))))) (ai (ai rfl (ai ?_ ?_)) trivial))))) rfl) (ai (ai (iL (by omega)) ?_) (iM (by omega)))))
         all_goals rw[e]
         ·rw[abg];rfl
         ·exact aY L (aC c L a k) (show dJ (bq c (L.getD a aA).1 k).1=_ by rw[hcan])
         ·rw[abg];rfl
         ·exact aX L (aC c L a k) (bY (L.getD a aA).2 k)
         ·rw[abg];rfl
         ·exact aW L (aC c L a k)
         ·rw[abg];show L.length+1≤16384;omega
       refine ai ?_ trivial
       refine fI mixed ay Tryz.func63 rfl rfl ?_
       refine ai rfl ?_
       intro b hb
       refine bf (fun hb0=>?_) (fun hb0=>?_)
       ·have hb1:(L.getD a aA).2.length=0:=hb hb0
        refine ai (ai (by decide) (by decide)) (ai (aK 1 rfl) ?_)
        refine ai (mxL (n:=L.length+1) (by omega) (by decide)) (ai (aK 1 rfl) ?_)
        refine ei (k+1) (ai (ai rfl rfl) (ai (ai (ai rfl (ai (ai rfl rfl) (ai (ai rfl rfl) (ai (ai (ai (ai (fun _=>rfl) (aH (by omega))) rfl) (ai (ai rfl (ai rfl (ai ?_ ?_))) (ai rfl (ai rfl (ai ?_ ?_))))) (ai (ai rfl (ai ?_ ?_)) trivial))))) rfl) (ai (ai (iL (by omega)) ?_) (iM (by omega)))))
        all_goals rw[e]
        ·rw[abg];rfl
        ·exact aY L (aC c L a k) (show dJ (bq c (L.getD a aA).1 k).1=_ by rw[hcan])
        ·rw[abg];rfl
        ·exact aX L (aC c L a k) (dI hb1 k)
        ·rw[abg];rfl
        ·exact aW L (aC c L a k)
        ·rw[abg];show L.length+1≤16384;omega
       ·refine ai (mxL (n:=0+(L.getD a aA).2.length) (by omega) (by decide)) (ai (fun _ _=>rfl) ?_)
        refine ai (mxL (n:=0+(L.getD a aA).2.length+1) (by omega) (by decide)) (ai (aK 1 rfl) ?_)
        refine ai (mxL (n:=L.length+1) (by omega) (by decide)) (ai (aK 1 rfl) ?_)
        refine ei (k+1) (ai (ai rfl rfl) (ai (ai (ai rfl (ai (ai rfl rfl) (ai (ai rfl rfl) (ai (ai (ai (ai (fun _=>rfl) (aH (by omega))) rfl) (ai (ai rfl (ai rfl (ai ?_ ?_))) (ai rfl (ai rfl (ai ?_ ?_))))) (ai (ai rfl (ai ?_ ?_)) trivial))))) rfl) (ai (ai (iL (by omega)) ?_) (iM (by omega)))))
        all_goals rw[e]
        ·rw[abg];rfl
        ·exact aY L (aC c L a k) (show dJ (bq c (L.getD a aA).1 k).1=_ by rw[hcan])
        ·rw[abg];rfl
        ·exact aX L (aC c L a k) (bY (L.getD a aA).2 k)
        ·rw[abg];rfl
        ·exact aW L (aC c L a k)
        ·rw[abg];show L.length+1≤16384;omega
      refine ai ?_ trivial
      refine ai (mxL (n:=L.length+1) (by omega) (by decide)) (ai (lt1 rfl) ?_)
      refine fI mixed ay Tryz.func63 rfl rfl ?_
      refine ai rfl ?_
      intro b hb
      refine bf (fun hb0=>?_) (fun hb0=>?_)
      ·have hb1:(L.getD a aA).2.length=0:=hb hb0
       refine ai (ai (by decide) (by decide)) (ai (aK 1 rfl) ?_)
       refine ai (mxL (n:=L.length+1) (by omega) (by decide)) (ai (aK 1 rfl) ?_)
       refine ei (k+1) (ai (ai rfl rfl) (ai (ai (ai rfl (ai (ai rfl rfl) (ai (ai rfl rfl) (ai (ai (ai (ai (fun _=>rfl) (aH (by omega))) rfl) (ai (ai rfl (ai rfl (ai ?_ ?_))) (ai rfl (ai rfl (ai ?_ ?_))))) (ai (ai rfl (ai ?_ ?_)) trivial))))) rfl) (ai (ai (iL (by omega)) ?_) (iM (by omega)))))
       all_goals rw[e]
       ·rw[abg];rfl
       ·exact aY L (aC c L a k) (show dJ (bq c (L.getD a aA).1 k).1=_ by rw[hcan])
       ·rw[abg];rfl
       ·exact aX L (aC c L a k) (dI hb1 k)
       ·rw[abg];rfl
       ·exact aW L (aC c L a k)
       ·rw[abg];show L.length+1≤16384;omega
      ·refine ai (mxL (n:=0+(L.getD a aA).2.length) (by omega) (by decide)) (ai (fun _ _=>rfl) ?_)
       refine ai (mxL (n:=0+(L.getD a aA).2.length+1) (by omega) (by decide)) (ai (aK 1 rfl) ?_)
       refine ai (mxL (n:=L.length+1) (by omega) (by decide)) (ai (aK 1 rfl) ?_)
       refine ei (k+1) (ai (ai rfl rfl) (ai (ai (ai rfl (ai (ai rfl rfl) (ai (ai rfl rfl) (ai (ai (ai (ai (fun _=>rfl) (aH (by omega))) rfl) (ai (ai rfl (ai rfl (ai ?_ ?_))) (ai rfl (ai rfl (ai ?_ ?_))))) (ai (ai rfl (ai ?_ ?_)) trivial))))) rfl) (ai (ai (iL (by omega)) ?_) (iM (by omega)))))
       all_goals rw[e]
       ·rw[abg];rfl
       ·exact aY L (aC c L a k) (show dJ (bq c (L.getD a aA).1 k).1=_ by rw[hcan])
       ·rw[abg];rfl
       ·exact aX L (aC c L a k) (bY (L.getD a aA).2 k)
       ·rw[abg];rfl
       ·exact aW L (aC c L a k)
       ·rw[abg];show L.length+1≤16384;omega
     refine ai ?_ trivial
     refine ai (mxL (n:=L.length+1) (by omega) (by decide)) (ai (lt1 rfl) ?_)
     refine fI mixed ay Tryz.func63 rfl rfl ?_
     refine ai rfl ?_
     intro b hb
     refine bf (fun hb0=>?_) (fun hb0=>?_)
     ·have hb1:(L.getD a aA).2.length=0:=hb hb0
      refine ai (ai (by decide) (by decide)) (ai (aK 1 rfl) ?_)
      refine ai (mxL (n:=L.length+1) (by omega) (by decide)) (ai (aK 1 rfl) ?_)
      refine ei (k+1) (ai (ai rfl rfl) (ai (ai (ai rfl (ai (ai rfl rfl) (ai (ai rfl rfl) (ai (ai (ai (ai (fun _=>rfl) (aH (by omega))) rfl) (ai (ai rfl (ai rfl (ai ?_ ?_))) (ai rfl (ai rfl (ai ?_ ?_))))) (ai (ai rfl (ai ?_ ?_)) trivial))))) rfl) (ai (ai (iL (by omega)) ?_) (iM (by omega)))))
      all_goals rw[e]
      ·rw[abg];rfl
      ·exact aY L (aC c L a k) (show dJ (bq c (L.getD a aA).1 k).1=_ by rw[hcan])
      ·rw[abg];rfl
      ·exact aX L (aC c L a k) (dI hb1 k)
      ·rw[abg];rfl
      ·exact aW L (aC c L a k)
      ·rw[abg];show L.length+1≤16384;omega
     ·refine ai (mxL (n:=0+(L.getD a aA).2.length) (by omega) (by decide)) (ai (fun _ _=>rfl) ?_)
      refine ai (mxL (n:=0+(L.getD a aA).2.length+1) (by omega) (by decide)) (ai (aK 1 rfl) ?_)
      refine ai (mxL (n:=L.length+1) (by omega) (by decide)) (ai (aK 1 rfl) ?_)
      refine ei (k+1) (ai (ai rfl rfl) (ai (ai (ai rfl (ai (ai rfl rfl) (ai (ai rfl rfl) (ai (ai (ai (ai (fun _=>rfl) (aH (by omega))) rfl) (ai (ai rfl (ai rfl (ai ?_ ?_))) (ai rfl (ai rfl (ai ?_ ?_))))) (ai (ai rfl (ai ?_ ?_)) trivial))))) rfl) (ai (ai (iL (by omega)) ?_) (iM (by omega)))))
      all_goals rw[e]
      ·rw[abg];rfl
      ·exact aY L (aC c L a k) (show dJ (bq c (L.getD a aA).1 k).1=_ by rw[hcan])
      ·rw[abg];rfl
      ·exact aX L (aC c L a k) (bY (L.getD a aA).2 k)
      ·rw[abg];rfl
      ·exact aW L (aC c L a k)
      ·rw[abg];show L.length+1≤16384;omega
    refine ai ?_ trivial
    refine ai ?_ ?_
    ·refine ai ?_ ?_
     ·refine ai (mxL (n:=L.length+1) (by omega) (by decide)) (ai (lt1 rfl) ?_)
      refine ai (by show a<L.length;exact hak) ?_
      refine fI mixed ay Tryz.func63 rfl rfl ?_
      refine ai rfl ?_
      intro b hb
      refine bf (fun hb0=>?_) (fun hb0=>?_)
      ·have hb1:(L.getD a aA).2.length=0:=hb hb0
       refine ai (ai (by decide) (by decide)) (ai (aK 1 rfl) ?_)
       refine ai (mxL (n:=L.length+1) (by omega) (by decide)) (ai (aK 1 rfl) ?_)
       refine ei (k+1) (ai (ai rfl rfl) (ai (ai (ai rfl (ai (ai rfl rfl) (ai (ai rfl rfl) (ai (ai (ai (ai (fun _=>rfl) (aH (by omega))) rfl) (ai (ai rfl (ai rfl (ai ?_ ?_))) (ai rfl (ai rfl (ai ?_ ?_))))) (ai (ai rfl (ai ?_ ?_)) trivial))))) rfl) (ai (ai (iL (by omega)) ?_) (iM (by omega)))))
       all_goals rw[e]
       ·rw[abg];rfl
       ·exact aY L (aC c L a k) (show dJ (bq c (L.getD a aA).1 k).1=_ by rw[hcan])
       ·rw[abg];rfl
       ·exact aX L (aC c L a k) (dI hb1 k)
       ·rw[abg];rfl
       ·exact aW L (aC c L a k)
       ·rw[abg];show L.length+1≤16384;omega
      ·refine ai (mxL (n:=0+(L.getD a aA).2.length) (by omega) (by decide)) (ai (fun _ _=>rfl) ?_)
       refine ai (mxL (n:=0+(L.getD a aA).2.length+1) (by omega) (by decide)) (ai (aK 1 rfl) ?_)
       refine ai (mxL (n:=L.length+1) (by omega) (by decide)) (ai (aK 1 rfl) ?_)
       refine ei (k+1) (ai (ai rfl rfl) (ai (ai (ai rfl (ai (ai rfl rfl) (ai (ai rfl rfl) (ai (ai (ai (ai (fun _=>rfl) (aH (by omega))) rfl) (ai (ai rfl (ai rfl (ai ?_ ?_))) (ai rfl (ai rfl (ai ?_ ?_))))) (ai (ai rfl (ai ?_ ?_)) trivial))))) rfl) (ai (ai (iL (by omega)) ?_) (iM (by omega)))))
       all_goals rw[e]
       ·rw[abg];rfl
       ·exact aY L (aC c L a k) (show dJ (bq c (L.getD a aA).1 k).1=_ by rw[hcan])
       ·rw[abg];rfl
       ·exact aX L (aC c L a k) (bY (L.getD a aA).2 k)
       ·rw[abg];rfl
       ·exact aW L (aC c L a k)
       ·rw[abg];show L.length+1≤16384;omega
     refine ai ?_ trivial
     refine ai (by show a<L.length;exact hak) ?_
     refine ai (mxL (n:=L.length+1) (by omega) (by decide)) (ai (lt1 rfl) ?_)
     refine fI mixed ay Tryz.func63 rfl rfl ?_
     refine ai rfl ?_
     intro b hb
     refine bf (fun hb0=>?_) (fun hb0=>?_)
     ·have hb1:(L.getD a aA).2.length=0:=hb hb0
      refine ai (ai (by decide) (by decide)) (ai (aK 1 rfl) ?_)
      refine ai (mxL (n:=L.length+1) (by omega) (by decide)) (ai (aK 1 rfl) ?_)
      refine ei (k+1) (ai (ai rfl rfl) (ai (ai (ai rfl (ai (ai rfl rfl) (ai (ai rfl rfl) (ai (ai (ai (ai (fun _=>rfl) (aH (by omega))) rfl) (ai (ai rfl (ai rfl (ai ?_ ?_))) (ai rfl (ai rfl (ai ?_ ?_))))) (ai (ai rfl (ai ?_ ?_)) trivial))))) rfl) (ai (ai (iL (by omega)) ?_) (iM (by omega)))))
      all_goals rw[e]
      ·rw[abg];rfl
      ·exact aY L (aC c L a k) (show dJ (bq c (L.getD a aA).1 k).1=_ by rw[hcan])
      ·rw[abg];rfl
      ·exact aX L (aC c L a k) (dI hb1 k)
      ·rw[abg];rfl
      ·exact aW L (aC c L a k)
      ·rw[abg];show L.length+1≤16384;omega
     ·refine ai (mxL (n:=0+(L.getD a aA).2.length) (by omega) (by decide)) (ai (fun _ _=>rfl) ?_)
      refine ai (mxL (n:=0+(L.getD a aA).2.length+1) (by omega) (by decide)) (ai (aK 1 rfl) ?_)
      refine ai (mxL (n:=L.length+1) (by omega) (by decide)) (ai (aK 1 rfl) ?_)
      refine ei (k+1) (ai (ai rfl rfl) (ai (ai (ai rfl (ai (ai rfl rfl) (ai (ai rfl rfl) (ai (ai (ai (ai (fun _=>rfl) (aH (by omega))) rfl) (ai (ai rfl (ai rfl (ai ?_ ?_))) (ai rfl (ai rfl (ai ?_ ?_))))) (ai (ai rfl (ai ?_ ?_)) trivial))))) rfl) (ai (ai (iL (by omega)) ?_) (iM (by omega)))))
      all_goals rw[e]
      ·rw[abg];rfl
      ·exact aY L (aC c L a k) (show dJ (bq c (L.getD a aA).1 k).1=_ by rw[hcan])
      ·rw[abg];rfl
      ·exact aX L (aC c L a k) (bY (L.getD a aA).2 k)
      ·rw[abg];rfl
      ·exact aW L (aC c L a k)
      ·rw[abg];show L.length+1≤16384;omega
    refine ai ?_ trivial
    refine ai (by show a<L.length;exact hak) ?_
    refine ai (mxL (n:=L.length+1) (by omega) (by decide)) (ai (lt1 rfl) ?_)
    refine fI mixed ay Tryz.func63 rfl rfl ?_
    refine ai rfl ?_
    intro b hb
    refine bf (fun hb0=>?_) (fun hb0=>?_)
    ·have hb1:(L.getD a aA).2.length=0:=hb hb0
     refine ai (ai (by decide) (by decide)) (ai (aK 1 rfl) ?_)
     refine ai (mxL (n:=L.length+1) (by omega) (by decide)) (ai (aK 1 rfl) ?_)
     refine ei (k+1) (ai (ai rfl rfl) (ai (ai (ai rfl (ai (ai rfl rfl) (ai (ai rfl rfl) (ai (ai (ai (ai (fun _=>rfl) (aH (by omega))) rfl) (ai (ai rfl (ai rfl (ai ?_ ?_))) (ai rfl (ai rfl (ai ?_ ?_))))) (ai (ai rfl (ai ?_ ?_)) trivial))))) rfl) (ai (ai (iL (by omega)) ?_) (iM (by omega)))))
     all_goals rw[e]
     ·rw[abg];rfl
     ·exact aY L (aC c L a k) (show dJ (bq c (L.getD a aA).1 k).1=_ by rw[hcan])
     ·rw[abg];rfl
     ·exact aX L (aC c L a k) (dI hb1 k)
     ·rw[abg];rfl
     ·exact aW L (aC c L a k)
     ·rw[abg];show L.length+1≤16384;omega
    ·refine ai (mxL (n:=0+(L.getD a aA).2.length) (by omega) (by decide)) (ai (fun _ _=>rfl) ?_)
     refine ai (mxL (n:=0+(L.getD a aA).2.length+1) (by omega) (by decide)) (ai (aK 1 rfl) ?_)
     refine ai (mxL (n:=L.length+1) (by omega) (by decide)) (ai (aK 1 rfl) ?_)
     refine ei (k+1) (ai (ai rfl rfl) (ai (ai (ai rfl (ai (ai rfl rfl) (ai (ai rfl rfl) (ai (ai (ai (ai (fun _=>rfl) (aH (by omega))) rfl) (ai (ai rfl (ai rfl (ai ?_ ?_))) (ai rfl (ai rfl (ai ?_ ?_))))) (ai (ai rfl (ai ?_ ?_)) trivial))))) rfl) (ai (ai (iL (by omega)) ?_) (iM (by omega)))))
     all_goals rw[e]
     ·rw[abg];rfl
     ·exact aY L (aC c L a k) (show dJ (bq c (L.getD a aA).1 k).1=_ by rw[hcan])
     ·rw[abg];rfl
     ·exact aX L (aC c L a k) (bY (L.getD a aA).2 k)
     ·rw[abg];rfl
     ·exact aW L (aC c L a k)
     ·rw[abg];show L.length+1≤16384;omega
  ·obtain rfl:k=c.trs.length:=by omega
   refine ei ((a+1,fQ c l a c.trs.length)) (ai (ai rfl rfl) (ai (ai ?_ rfl) (ai ?_ ?_)))
   ·refine (ai rfl (ai (ai rfl rfl) (ai (ai rfl rfl) (ai (ai (ai (ai (fun _=>rfl) (aH (by omega))) rfl) (ai (ai rfl (ai rfl (ai rfl (fun _ _=>rfl)))) (ai rfl (ai rfl (ai rfl ?_))))) (ai (ai rfl (ai rfl (fun _=>rfl))) trivial)))))
    exact fun k _=>bR.rfl' _
   ·exact ⟨by show a+1≤(fQ c l a c.trs.length).length;rw[ht,abg];omega,hkl,⟨hgk,hways⟩,(anM h1 hkl).symm.trans (by rw[←hr,show 16385-a=16385-(a+1)+1 by omega])⟩
   ·show 16385-(a+1)<16385-a;omega
 ·have e:u6 c=some l:=by rw[←hr];exact ank (by omega)
  refine ai (ai (fun h=>absurd (show false=true from h) (by decide)) ?_) trivial
  show ak _ (xk c)
  rw[xk,e]
  exact (ai (ai rfl (fun _ _=>rfl)) (ai (ai rfl (fun _ _=>rfl)) rfl))
def uO (c:aN):Int:=if bE c=0 then (match u6 c with | some _=>0 | none=>12) else bE c
def l7 (c:aN):List Mk:=if bE c=0 then (match u6 c with | some l=>l | none=>[]) else []
def vN (c:aN):PV:=.tup [am5 (l7 c),an2 (l7 c),iP (uO c)]
theorem amX {c:aN} (h:bE c=0):xk c=vN c:=by
 unfold xk vN l7 uO
 rw[if_pos h,if_pos h]
 cases u6 c<;>rfl
theorem abh:aG Tryz.prog 60 (gX (fun c:aN=>[iJ c]) fC vN):=by
 refine aU (Tb:=tab) mixed ay Tryz.func60 rfl rfl ?_
 rintro (c:aN) hpre
 refine ai (ai rfl (ai rfl rfl)) ?_
 refine ei _ (ai (ahK) (ei (c) (ei [] (ai (a4 (ai (fun _=>Or.inl rfl) (ai nof (Or.inl rfl)))) (ai (by exact (ai rfl (ai (ai rfl (fun _ _=>rfl)) (ai (ai rfl (fun _ _=>rfl)) (ai rfl (fun _ _=>rfl)))))) (ai trivial (ai (hpre) ?_)))))))
 refine aZ (p:=bE c=0) (bI (by omega)) (fun h1=>?_) (fun h1=>?_)
 ·have e1:uO c=bE c:=if_neg h1
  have e2:l7 c=[]:=if_neg h1
  refine ai (ai (fun h=>absurd (show false=true from h) (by decide)) ?_) trivial
  show ak _ (vN c)
  rw[vN,e1,e2]
  exact (ai rfl (ai rfl rfl))
 refine ei _ (ai ((fF akm c ⟨h1,hpre⟩ (r:=vN c) (amX h1))) (ei (()) (ei [] (ai (a4 (ai (fun _=>Or.inl rfl) (ai nof (Or.inl rfl)))) (ai (by exact (ai rfl (ai (ai rfl (fun _ _=>rfl)) (ai (ai rfl (fun _ _=>rfl)) (ai rfl (fun _ _=>rfl)))))) (ai trivial (ai (trivial) ?_)))))))
 refine ai (ai (fun h=>absurd (show false=true from h) (by decide)) ?_) trivial
 show ak _ (vN c)
 rw[vN]
 exact (ai (ai rfl (fun _ _=>rfl)) (ai (ai rfl (fun _ _=>rfl)) rfl))
theorem ahO {c:aN} (h:uO c=0):bE c=0∧u6 c=some (l7 c):=by
 unfold uO at h
 split at h
 ·rename_i h1
  refine ⟨h1,?_⟩
  unfold l7;rw[if_pos h1]
  cases e:u6 c with
  | none=>rw[e] at h;cases h
  | some l=>rfl
 ·rename_i h1;exact absurd h h1
theorem af5 {c:aN}:∀{f:Nat} {l r:List Mk} {a:Nat},a≤l.length→l.length≤16384→oF c l→aay a l→qG c f l a=some r→oF c r∧r.length≤16384∧aay 16384 r
 | 0,l,r,a,ha,hl,hg,hw,h=>by
  obtain rfl:=Option.some.inj h
  exact ⟨hg,hl,fun y hy=>by have:=hw y hy;omega⟩
 | f+1,l,r,a,ha,hl,hg,hw,h=>by
  unfold qG at h
  split at h
  ·obtain rfl:=Option.some.inj h
   exact ⟨hg,hl,fun y hy=>by have:=hw y hy;omega⟩
  ·rename_i h1
   split at h
   ·cases h
   ·rename_i h2
    obtain ⟨t,ht⟩:=uF c l a c.trs.length
    exact af5 (by rw[ht,abg];omega) (by omega) (good_row hg (by omega) (ahl _)) (adK (by omega) hw _) h
theorem agq {c:aN} (h:uO c=0):oF c (l7 c)∧(l7 c).length≤16384∧aay 16384 (l7 c):=
 af5 (aeT _) (by show 1≤16384;decide) (agv c) (fun y hy=>by simp only[mk1,aiz] at hy;subst hy;exact aeT _) (ahO h).2
def pJ (c:aN) (i:Nat) (m:List Bool):Bool:=allM m (y8 c i).fr
theorem arl (c:aN) (m:List Bool) (i:Nat):(bq c m i).2=pJ c i m:=by
 unfold bq
 split
 ·rename_i h;exact h.symm
 ·rename_i h;exact (asC.2 h).symm
abbrev Bst := List Int × Bool
def xw (c:aN) (y:Mk) (k:Nat):Bool:=allM y.1 (y8 c k).fr&&aah c y.1 k
def jM (c:aN) (y:Mk) (s:Bst) (k:Nat):Bst:=if xw c y k then (if !s.2||decide (cmpL (y.2++[(k:Int)]) s.1<0) then (y.2++[(k:Int)],true) else s) else s
def dG (c:aN) (y:Mk) (s:Bst):Nat→Bst
 | 0=>s
 | k+1=>jM c y (dG c y s k) k
def wu (c:aN):List Mk→Bst→Bst
 | [],s=>s
 | y :: l,s=>if s.2&&decide (s.1.length<y.2.length+1) then s else wu c l (dG c y s c.trs.length)
def sF (c:aN):Bst:=wu c (l7 c) ([],false)
def xu (c:aN):PV:=if uO c=0 then .tup [bP (!(sF c).2),iV (sF c).1,iP 0] else .tup [bP false,iV [],iP (uO c)]
theorem aaK (l:List Int) (k:Nat):∀j,j<0+l.length+1→bQ (0+l.length) (bQ 0 (bn 1 []) (fun j=>[iP (l.getD j 0)])) (bn 1 [iP (k:Int)]) j=[iP ((l++[(k:Int)]).getD j 0)]:=fun j hj=>
 adV (a:=l) (b:=[(k:Int)]) (ahH _) (fun j hj=>afH (n:=l.length) j (by omega)) (fun j hj=>by
  have hj:j<1:=hj
  obtain rfl:j=0:=by omega
  rfl) j (by rw[abg];show j<l.length+1;omega)
theorem aph:aG Tryz.prog 13 (gX (fun c:aN=>[iJ c]) fC xu):=by
 refine jC [63] ?_
 refine aU (Tb:=tab) mixed ay Tryz.func13 rfl rfl ?_
 rintro (c:aN) hpre
 refine ai (ai rfl (ai rfl rfl)) ?_
 have ho:fC c:=hpre
 refine ei _ (ai (abh) (ei (c) (ei [] (ai (a4 (ai (fun _=>Or.inl rfl) (ai nof (Or.inl rfl)))) (ai (by exact (ai rfl (ai (ai rfl (fun _ _=>rfl)) (ai (ai rfl (fun _ _=>rfl)) (ai rfl (fun _ _=>rfl)))))) (ai trivial (ai (ho) ?_)))))))
 refine aZ (p:=uO c=0) (bI (by omega)) (fun h1=>?_) (fun h1=>?_)
 ·refine ai (ai (fun h=>absurd (show false=true from h) (by decide)) ?_) trivial
  show ak _ (xu c)
  rw[xu,if_neg h1]
  exact (ai rfl (ai rfl rfl))
 have hA:xu c=.tup [bP (!(sF c).2),iV (sF c).1,iP 0]:=by unfold xu;rw[if_pos h1]
 obtain ⟨hc,hx⟩:=ahO h1
 obtain ⟨hg,hl,hw⟩:=agq h1
 have h32:=(dW hc).2.2.2.1
 have hS:sF c=wu c (l7 c) ([],false):=rfl
 generalize l7 c=L at *
 refine ei (bg.inv { X:=Nat×Bst,up:=fun x=>[(27,.s (iA x.1)),(8,isR x.2.1),(9,.s (.p false (bP x.2.2)))],uo:=fun _=>[],inv:=fun x=>x.1≤L.length∧sF c=wu c (L.drop x.1) x.2,meas:=fun x=>L.length-x.1,x0:=(0,([],false)) }) ?_
 refine ai (ai (ai (by exact (a4 (ai rfl rfl))) (ai ?_ ?_)) ?_) (ai ?_ ?_)
 ·exact (ai (ai (ai (fun _=>rfl) (iE (by simp only[zz,reduceCtorEq];rfl))) rfl) (ai rfl (ai (ai (fun _=>rfl) rfl) rfl)))
 ·exact trivial
 ·rfl
 ·exact ⟨aeT _,hS⟩
 rintro ⟨a,s⟩ ⟨hal,hs⟩
 have hal:a≤L.length:=hal
 have hs:sF c=wu c (L.drop a) s:=hs
 refine ah (p:=a<L.length) (au (by omega)) (fun h2=>?_) (fun h2=>?_)
 ·refine ai (ai (abw _) (iN (n:=L.length) (by omega))) (ai rfl ?_)
  refine ei (fA (L.getD a aA).1) (ai (agX _) ?_)
  have hy:=aeJ (bJ aA h2)
  have hd:L.drop a=L.getD a aA :: L.drop (a+1):=by
   rw[aoN h2,abl,abr h2];rfl
  have hga:=hg _ hy
  have hwa:=hw _ hy
  rw[hd] at hs
  refine aR (b:=s.2) rfl (fun h3=>?_) (fun h3=>?_)
  ·refine ai (ai (abw _) (iN (n:=L.length) (by omega))) (ai rfl ?_)
   refine ah (p:=s.1.length<(L.getD a aA).2.length+1) (by exact au (show (s.1.length:Int)<IntKind.i64.wrap (((L.getD a aA).2.length:Int)+1)↔_ by rw[show IntKind.i64.wrap (((L.getD a aA).2.length:Int)+1)=((L.getD a aA).2.length:Int)+1 from aH (by omega)];omega)) (fun h4=>?_) (fun h4=>?_)
   ·have e:sF c=s:=by rw[hs,wu,if_pos (by rw[h3,decide_eq_true h4];rfl)]
    refine ai (ai (fun h=>absurd (show false=true from h) (by decide)) ?_) trivial
    show ak _ (xu c)
    rw[hA,e]
    exact (ai rfl (ai (ai rfl (fun _ _=>rfl)) rfl))
   ·have hs2:sF c=wu c (L.drop (a+1)) (dG c (L.getD a aA) s c.trs.length):=by rw[hs,wu,if_neg (by rw[decide_eq_false h4];simp)]
    refine ei (bg.inv { X:=Nat,up:=fun k=>[(47,.s (iA k)),(8,isR (dG c (L.getD a aA) s k).1),(9,.s (.p false (bP (dG c (L.getD a aA) s k).2)))],uo:=fun k=>[],inv:=fun k=>k≤c.trs.length∧(True),meas:=fun k=>c.trs.length-k,x0:=0 }) ?_
    refine ai (ai (ai (by exact (a4 (ai rfl rfl))) (ai ?_ ?_)) rfl) (ai (ai (aeT _) ?_) ?_)
    ·exact (ai (ai (ai (fun _=>rfl) (iE (by simp only[zz,reduceCtorEq];rfl))) rfl) (ai (ai rfl (ai rfl (ai rfl (fun _ _=>rfl)))) (ai (ai nof rfl) rfl)))
    ·exact trivial
    ·trivial
    intro (k:Nat) ⟨hk,_⟩
    have hst:dG c (L.getD a aA) s (k+1)=jM c (L.getD a aA) (dG c (L.getD a aA) s k) k:=rfl
    refine ah (p:=k<c.trs.length) (au (by omega)) (fun h5=>?_) (fun h5=>?_)
    ·refine ei _ (ai ((fF abb (c,(L.getD a aA).1,k) ⟨hc,ho,hga.1,h5⟩ (r:=.tup [mJ (bq c (L.getD a aA).1 k).1,bP (pJ c k (L.getD a aA).1)]) (by show aaH c (L.getD a aA).1 k=_;unfold aaH;rw[arl]))) (ei (()) (ei [] (ai (a4 (ai (fun _=>Or.inl rfl) (ai nof (Or.inl rfl)))) (ai (by exact (ai (ai rfl (ai (ai rfl (fun _ _=>rfl)) (ai (ai rfl (fun _ _=>rfl)) (ai rfl (fun _ _=>rfl))))) (ai (ai rfl (fun _ _=>rfl)) rfl))) (ai trivial (ai (trivial) ?_)))))))
     refine aR (b:=!pJ c k (L.getD a aA).1) rfl (fun h6=>?_) (fun h6=>?_)
     ·have h6:allM (L.getD a aA).1 (y8 c k).fr=false:=by simpa [pJ] using h6
      have e:dG c (L.getD a aA) s (k+1)=dG c (L.getD a aA) s k:=by rw[hst];unfold jM;rw[if_neg (by unfold xw;rw[h6];simp)]
      refine ei (k+1) (ai (ai rfl rfl) (ai (ai (ai rfl (ai (ai rfl rfl) (ai (ai rfl rfl) (ai (ai (ai (ai (fun _=>rfl) (aH (by omega))) rfl) (ai (ai rfl (ai rfl (ai ?_ ?_))) (ai (ai nof ?_) rfl))) trivial)))) rfl) (ai (ai (iL (by omega)) trivial) (iM (by omega)))))
      all_goals rw[e]
      ·exact fun _ _=>rfl
      ·exact rfl
     have h6:allM (L.getD a aA).1 (y8 c k).fr=true:=by simpa [pJ] using h6
     refine ei _ (ai (afi) (ei ((c,(L.getD a aA).1,k)) (ei [] (ai (a4 (ai (fun _=>Or.inl rfl) (ai nof (Or.inl rfl)))) (ai (by exact (ai (ai rfl (ai (ai rfl (fun _ _=>rfl)) (ai (ai rfl (fun _ _=>rfl)) (ai rfl (fun _ _=>rfl))))) (ai (ai rfl (fun _ _=>rfl)) rfl))) (ai trivial (ai (⟨hc,ho,h5⟩) ?_)))))))
     refine aR (b:=!aah c (L.getD a aA).1 k) rfl (fun h7=>?_) (fun h7=>?_)
     ·have h7:aah c (L.getD a aA).1 k=false:=by simpa using h7
      have e:dG c (L.getD a aA) s (k+1)=dG c (L.getD a aA) s k:=by rw[hst];unfold jM;rw[if_neg (by unfold xw;rw[h7];simp)]
      refine ei (k+1) (ai (ai rfl rfl) (ai (ai (ai rfl (ai (ai rfl rfl) (ai (ai rfl rfl) (ai (ai (ai (ai (fun _=>rfl) (aH (by omega))) rfl) (ai (ai rfl (ai rfl (ai ?_ ?_))) (ai (ai nof ?_) rfl))) trivial)))) rfl) (ai (ai (iL (by omega)) trivial) (iM (by omega)))))
      all_goals rw[e]
      ·exact fun _ _=>rfl
      ·exact rfl
     have h7:aah c (L.getD a aA).1 k=true:=by simpa using h7
     have hbad:xw c (L.getD a aA) k=true:=by unfold xw;rw[h6,h7];rfl
     refine ai (ai (abw _) (iN (n:=L.length) (by omega))) (ai rfl ?_)
     have hcl:((L.getD a aA).2++[(k:Int)]).length≤1000000:=by rw[abg];show (L.getD a aA).2.length+1≤_;omega
     refine fI mixed ay Tryz.func63 rfl rfl ?_
     refine ai rfl ?_
     intro b hb
     refine bf (fun hb0=>?_) (fun hb0=>?_)
     ·have hb1:(L.getD a aA).2.length=0:=hb hb0
      have hb2:=aqy.1 hb1
      refine ai (ai (by decide) (by decide)) (ai (aK 1 rfl) ?_)
      refine aR (b:=!(dG c (L.getD a aA) s k).2) rfl (fun h8=>?_) (fun h8=>?_)
      ·have e:dG c (L.getD a aA) s (k+1)=((L.getD a aA).2++[(k:Int)],true):=by rw[hst];unfold jM;rw[if_pos hbad,if_pos (by rw[h8];rfl)]
       refine ei (k+1) (ai (ai rfl rfl) (ai (ai (ai rfl (ai (ai rfl rfl) (ai (ai rfl rfl) (ai (ai (ai (ai (fun _=>rfl) (aH (by omega))) rfl) (ai (ai rfl (ai rfl (ai ?_ ?_))) (ai (ai (fun _=>rfl) ?_) rfl))) trivial)))) rfl) (ai (ai (iL (by omega)) trivial) (iM (by omega)))))
       all_goals rw[e]
       ·(rw[hb2];first | done | rfl)
       ·(rw[hb2];intro j hj;have hj:j<1:=hj;obtain rfl:j=0:=(by omega);rfl)
       ·exact rfl
      refine ei _ (ai (aa2) (ei (((L.getD a aA).2++[(k:Int)],(dG c (L.getD a aA) s k).1)) (ei [] (ai (ai rfl (ai rfl (ai rfl (ai rfl (ai (fun _=>Or.inl rfl) (ai (fun _=>ai rfl rfl) (Or.inl rfl))))))) (ai ?_ (ai (by exact trivial) (ai (hcl) ?_)))))))
      ·refine (ai (ai ?_ ?_) (ai rfl (fun _ _=>rfl)))
       ·(rw[hb2];first | done | rfl)
       ·(rw[hb2];intro j hj;have hj:j<1:=hj;obtain rfl:j=0:=(by omega);rfl)
      refine ah (p:=cmpL ((L.getD a aA).2++[(k:Int)]) (dG c (L.getD a aA) s k).1<0) (au Iff.rfl) (fun h9=>?_) (fun h9=>?_)
      ·have e:dG c (L.getD a aA) s (k+1)=((L.getD a aA).2++[(k:Int)],true):=by rw[hst];unfold jM;rw[if_pos hbad,if_pos (by rw[decide_eq_true h9];simp)]
       refine ei (k+1) (ai (ai rfl rfl) (ai (ai (ai rfl (ai (ai rfl rfl) (ai (ai rfl rfl) (ai (ai (ai (ai (fun _=>rfl) (aH (by omega))) rfl) (ai (ai rfl (ai rfl (ai ?_ ?_))) (ai (ai (fun _=>rfl) ?_) rfl))) trivial)))) rfl) (ai (ai (iL (by omega)) trivial) (iM (by omega)))))
       all_goals rw[e]
       ·(rw[hb2];first | done | rfl)
       ·(rw[hb2];intro j hj;have hj:j<1:=hj;obtain rfl:j=0:=(by omega);rfl)
       ·exact rfl
      ·have e:dG c (L.getD a aA) s (k+1)=dG c (L.getD a aA) s k:=by rw[hst];unfold jM;rw[if_pos hbad,if_neg (by rw[h8,decide_eq_false h9];simp)]
       refine ei (k+1) (ai (ai rfl rfl) (ai (ai (ai rfl (ai (ai rfl rfl) (ai (ai rfl rfl) (ai (ai (ai (ai (fun _=>rfl) (aH (by omega))) rfl) (ai (ai rfl (ai rfl (ai ?_ ?_))) (ai (ai nof ?_) rfl))) trivial)))) rfl) (ai (ai (iL (by omega)) trivial) (iM (by omega)))))
       all_goals rw[e]
       ·exact fun _ _=>rfl
       ·exact rfl
     ·refine ai (mxL (n:=0+(L.getD a aA).2.length) (by omega) (by decide)) (ai (fun _ _=>rfl) ?_)
      refine ai (mxL (n:=0+(L.getD a aA).2.length+1) (by omega) (by decide)) (ai (aK 1 rfl) ?_)
      refine aR (b:=!(dG c (L.getD a aA) s k).2) rfl (fun h8=>?_) (fun h8=>?_)
      ·have e:dG c (L.getD a aA) s (k+1)=((L.getD a aA).2++[(k:Int)],true):=by rw[hst];unfold jM;rw[if_pos hbad,if_pos (by rw[h8];rfl)]
       refine ei (k+1) (ai (ai rfl rfl) (ai (ai (ai rfl (ai (ai rfl rfl) (ai (ai rfl rfl) (ai (ai (ai (ai (fun _=>rfl) (aH (by omega))) rfl) (ai (ai rfl (ai rfl (ai ?_ ?_))) (ai (ai (fun _=>rfl) ?_) rfl))) trivial)))) rfl) (ai (ai (iL (by omega)) trivial) (iM (by omega)))))
       all_goals rw[e]
       ·(rw[abg];exact congrArg (·+1) (ahH _))
       ·exact aaK _ _
       ·exact rfl
      refine ei _ (ai (aa2) (ei (((L.getD a aA).2++[(k:Int)],(dG c (L.getD a aA) s k).1)) (ei [] (ai (ai rfl (ai rfl (ai rfl (ai rfl (ai (fun _=>Or.inl rfl) (ai (fun _=>ai rfl rfl) (Or.inl rfl))))))) (ai ?_ (ai (by exact trivial) (ai (hcl) ?_)))))))
      ·refine (ai (ai ?_ ?_) (ai rfl (fun _ _=>rfl)))
       ·(rw[abg];exact congrArg (·+1) (ahH _))
       ·exact aaK _ _
      refine ah (p:=cmpL ((L.getD a aA).2++[(k:Int)]) (dG c (L.getD a aA) s k).1<0) (au Iff.rfl) (fun h9=>?_) (fun h9=>?_)
      ·have e:dG c (L.getD a aA) s (k+1)=((L.getD a aA).2++[(k:Int)],true):=by rw[hst];unfold jM;rw[if_pos hbad,if_pos (by rw[decide_eq_true h9];simp)]
       refine ei (k+1) (ai (ai rfl rfl) (ai (ai (ai rfl (ai (ai rfl rfl) (ai (ai rfl rfl) (ai (ai (ai (ai (fun _=>rfl) (aH (by omega))) rfl) (ai (ai rfl (ai rfl (ai ?_ ?_))) (ai (ai (fun _=>rfl) ?_) rfl))) trivial)))) rfl) (ai (ai (iL (by omega)) trivial) (iM (by omega)))))
       all_goals rw[e]
       ·(rw[abg];exact congrArg (·+1) (ahH _))
       ·exact aaK _ _
       ·exact rfl
      ·have e:dG c (L.getD a aA) s (k+1)=dG c (L.getD a aA) s k:=by rw[hst];unfold jM;rw[if_pos hbad,if_neg (by rw[h8,decide_eq_false h9];simp)]
       refine ei (k+1) (ai (ai rfl rfl) (ai (ai (ai rfl (ai (ai rfl rfl) (ai (ai rfl rfl) (ai (ai (ai (ai (fun _=>rfl) (aH (by omega))) rfl) (ai (ai rfl (ai rfl (ai ?_ ?_))) (ai (ai nof ?_) rfl))) trivial)))) rfl) (ai (ai (iL (by omega)) trivial) (iM (by omega)))))
       all_goals rw[e]
       ·exact fun _ _=>rfl
       ·exact rfl
    ·obtain rfl:k=c.trs.length:=by omega
     refine ei ((a+1,dG c (L.getD a aA) s c.trs.length)) (ai (ai rfl rfl) (ai (ai ?_ rfl) (ai ?_ ?_)))
     ·exact (ai rfl (ai (ai rfl rfl) (ai (ai rfl rfl) (ai (ai (ai (ai (fun _=>rfl) (aH (by omega))) rfl) (ai (ai rfl (ai rfl (ai rfl (fun _ _=>rfl)))) (ai (ai nof rfl) rfl))) trivial))))
     ·exact ⟨h2,hs2⟩
     ·show L.length-(a+1)<L.length-a;omega
  ·have hs2:sF c=wu c (L.drop (a+1)) (dG c (L.getD a aA) s c.trs.length):=by rw[hs,wu,if_neg (by rw[h3];simp)]
   refine ei (bg.inv { X:=Nat,up:=fun k=>[(47,.s (iA k)),(8,isR (dG c (L.getD a aA) s k).1),(9,.s (.p false (bP (dG c (L.getD a aA) s k).2)))],uo:=fun k=>[],inv:=fun k=>k≤c.trs.length∧(True),meas:=fun k=>c.trs.length-k,x0:=0 }) ?_
   refine ai (ai (ai (by exact (a4 (ai rfl rfl))) (ai ?_ ?_)) rfl) (ai (ai (aeT _) ?_) ?_)
   ·exact (ai (ai (ai (fun _=>rfl) (iE (by simp only[zz,reduceCtorEq];rfl))) rfl) (ai (ai rfl (ai rfl (ai rfl (fun _ _=>rfl)))) (ai (ai nof rfl) rfl)))
   ·exact trivial
   ·trivial
   intro (k:Nat) ⟨hk,_⟩
   have hst:dG c (L.getD a aA) s (k+1)=jM c (L.getD a aA) (dG c (L.getD a aA) s k) k:=rfl
   refine ah (p:=k<c.trs.length) (au (by omega)) (fun h5=>?_) (fun h5=>?_)
   ·refine ei _ (ai ((fF abb (c,(L.getD a aA).1,k) ⟨hc,ho,hga.1,h5⟩ (r:=.tup [mJ (bq c (L.getD a aA).1 k).1,bP (pJ c k (L.getD a aA).1)]) (by show aaH c (L.getD a aA).1 k=_;unfold aaH;rw[arl]))) (ei (()) (ei [] (ai (a4 (ai (fun _=>Or.inl rfl) (ai nof (Or.inl rfl)))) (ai (by exact (ai (ai rfl (ai (ai rfl (fun _ _=>rfl)) (ai (ai rfl (fun _ _=>rfl)) (ai rfl (fun _ _=>rfl))))) (ai (ai rfl (fun _ _=>rfl)) rfl))) (ai trivial (ai (trivial) ?_)))))))
    refine aR (b:=!pJ c k (L.getD a aA).1) rfl (fun h6=>?_) (fun h6=>?_)
    ·have h6:allM (L.getD a aA).1 (y8 c k).fr=false:=by simpa [pJ] using h6
     have e:dG c (L.getD a aA) s (k+1)=dG c (L.getD a aA) s k:=by rw[hst];unfold jM;rw[if_neg (by unfold xw;rw[h6];simp)]
     refine ei (k+1) (ai (ai rfl rfl) (ai (ai (ai rfl (ai (ai rfl rfl) (ai (ai rfl rfl) (ai (ai (ai (ai (fun _=>rfl) (aH (by omega))) rfl) (ai (ai rfl (ai rfl (ai ?_ ?_))) (ai (ai nof ?_) rfl))) trivial)))) rfl) (ai (ai (iL (by omega)) trivial) (iM (by omega)))))
     all_goals rw[e]
     ·exact fun _ _=>rfl
     ·exact rfl
    have h6:allM (L.getD a aA).1 (y8 c k).fr=true:=by simpa [pJ] using h6
    refine ei _ (ai (afi) (ei ((c,(L.getD a aA).1,k)) (ei [] (ai (a4 (ai (fun _=>Or.inl rfl) (ai nof (Or.inl rfl)))) (ai (by exact (ai (ai rfl (ai (ai rfl (fun _ _=>rfl)) (ai (ai rfl (fun _ _=>rfl)) (ai rfl (fun _ _=>rfl))))) (ai (ai rfl (fun _ _=>rfl)) rfl))) (ai trivial (ai (⟨hc,ho,h5⟩) ?_)))))))
    refine aR (b:=!aah c (L.getD a aA).1 k) rfl (fun h7=>?_) (fun h7=>?_)
    ·have h7:aah c (L.getD a aA).1 k=false:=by simpa using h7
     have e:dG c (L.getD a aA) s (k+1)=dG c (L.getD a aA) s k:=by rw[hst];unfold jM;rw[if_neg (by unfold xw;rw[h7];simp)]
     refine ei (k+1) (ai (ai rfl rfl) (ai (ai (ai rfl (ai (ai rfl rfl) (ai (ai rfl rfl) (ai (ai (ai (ai (fun _=>rfl) (aH (by omega))) rfl) (ai (ai rfl (ai rfl (ai ?_ ?_))) (ai (ai nof ?_) rfl))) trivial)))) rfl) (ai (ai (iL (by omega)) trivial) (iM (by omega)))))
     all_goals rw[e]
     ·exact fun _ _=>rfl
     ·exact rfl
    have h7:aah c (L.getD a aA).1 k=true:=by simpa using h7
    have hbad:xw c (L.getD a aA) k=true:=by unfold xw;rw[h6,h7];rfl
    refine ai (ai (abw _) (iN (n:=L.length) (by omega))) (ai rfl ?_)
    have hcl:((L.getD a aA).2++[(k:Int)]).length≤1000000:=by rw[abg];show (L.getD a aA).2.length+1≤_;omega
    refine fI mixed ay Tryz.func63 rfl rfl ?_
    refine ai rfl ?_
    intro b hb
    refine bf (fun hb0=>?_) (fun hb0=>?_)
    ·have hb1:(L.getD a aA).2.length=0:=hb hb0
     have hb2:=aqy.1 hb1
     refine ai (ai (by decide) (by decide)) (ai (aK 1 rfl) ?_)
     refine aR (b:=!(dG c (L.getD a aA) s k).2) rfl (fun h8=>?_) (fun h8=>?_)
     ·have e:dG c (L.getD a aA) s (k+1)=((L.getD a aA).2++[(k:Int)],true):=by rw[hst];unfold jM;rw[if_pos hbad,if_pos (by rw[h8];rfl)]
      refine ei (k+1) (ai (ai rfl rfl) (ai (ai (ai rfl (ai (ai rfl rfl) (ai (ai rfl rfl) (ai (ai (ai (ai (fun _=>rfl) (aH (by omega))) rfl) (ai (ai rfl (ai rfl (ai ?_ ?_))) (ai (ai (fun _=>rfl) ?_) rfl))) trivial)))) rfl) (ai (ai (iL (by omega)) trivial) (iM (by omega)))))
      all_goals rw[e]
      ·(rw[hb2];first | done | rfl)
      ·(rw[hb2];intro j hj;have hj:j<1:=hj;obtain rfl:j=0:=(by omega);rfl)
      ·exact rfl
     refine ei _ (ai (aa2) (ei (((L.getD a aA).2++[(k:Int)],(dG c (L.getD a aA) s k).1)) (ei [] (ai (ai rfl (ai rfl (ai rfl (ai rfl (ai (fun _=>Or.inl rfl) (ai (fun _=>ai rfl rfl) (Or.inl rfl))))))) (ai ?_ (ai (by exact trivial) (ai (hcl) ?_)))))))
     ·refine (ai (ai ?_ ?_) (ai rfl (fun _ _=>rfl)))
      ·(rw[hb2];first | done | rfl)
      ·(rw[hb2];intro j hj;have hj:j<1:=hj;obtain rfl:j=0:=(by omega);rfl)
     refine ah (p:=cmpL ((L.getD a aA).2++[(k:Int)]) (dG c (L.getD a aA) s k).1<0) (au Iff.rfl) (fun h9=>?_) (fun h9=>?_)
     ·have e:dG c (L.getD a aA) s (k+1)=((L.getD a aA).2++[(k:Int)],true):=by rw[hst];unfold jM;rw[if_pos hbad,if_pos (by rw[decide_eq_true h9];simp)]
      refine ei (k+1) (ai (ai rfl rfl) (ai (ai (ai rfl (ai (ai rfl rfl) (ai (ai rfl rfl) (ai (ai (ai (ai (fun _=>rfl) (aH (by omega))) rfl) (ai (ai rfl (ai rfl (ai ?_ ?_))) (ai (ai (fun _=>rfl) ?_) rfl))) trivial)))) rfl) (ai (ai (iL (by omega)) trivial) (iM (by omega)))))
      all_goals rw[e]
      ·(rw[hb2];first | done | rfl)
      ·(rw[hb2];intro j hj;have hj:j<1:=hj;obtain rfl:j=0:=(by omega);rfl)
      ·exact rfl
     ·have e:dG c (L.getD a aA) s (k+1)=dG c (L.getD a aA) s k:=by rw[hst];unfold jM;rw[if_pos hbad,if_neg (by rw[h8,decide_eq_false h9];simp)]
      refine ei (k+1) (ai (ai rfl rfl) (ai (ai (ai rfl (ai (ai rfl rfl) (ai (ai rfl rfl) (ai (ai (ai (ai (fun _=>rfl) (aH (by omega))) rfl) (ai (ai rfl (ai rfl (ai ?_ ?_))) (ai (ai nof ?_) rfl))) trivial)))) rfl) (ai (ai (iL (by omega)) trivial) (iM (by omega)))))
      all_goals rw[e]
      ·exact fun _ _=>rfl
      ·exact rfl
    ·refine ai (mxL (n:=0+(L.getD a aA).2.length) (by omega) (by decide)) (ai (fun _ _=>rfl) ?_)
     refine ai (mxL (n:=0+(L.getD a aA).2.length+1) (by omega) (by decide)) (ai (aK 1 rfl) ?_)
     refine aR (b:=!(dG c (L.getD a aA) s k).2) rfl (fun h8=>?_) (fun h8=>?_)
     ·have e:dG c (L.getD a aA) s (k+1)=((L.getD a aA).2++[(k:Int)],true):=by rw[hst];unfold jM;rw[if_pos hbad,if_pos (by rw[h8];rfl)]
      refine ei (k+1) (ai (ai rfl rfl) (ai (ai (ai rfl (ai (ai rfl rfl) (ai (ai rfl rfl) (ai (ai (ai (ai (fun _=>rfl) (aH (by omega))) rfl) (ai (ai rfl (ai rfl (ai ?_ ?_))) (ai (ai (fun _=>rfl) ?_) rfl))) trivial)))) rfl) (ai (ai (iL (by omega)) trivial) (iM (by omega)))))
      all_goals rw[e]
      ·(rw[abg];exact congrArg (·+1) (ahH _))
      ·exact aaK _ _
      ·exact rfl
     refine ei _ (ai (aa2) (ei (((L.getD a aA).2++[(k:Int)],(dG c (L.getD a aA) s k).1)) (ei [] (ai (ai rfl (ai rfl (ai rfl (ai rfl (ai (fun _=>Or.inl rfl) (ai (fun _=>ai rfl rfl) (Or.inl rfl))))))) (ai ?_ (ai (by exact trivial) (ai (hcl) ?_)))))))
     ·refine (ai (ai ?_ ?_) (ai rfl (fun _ _=>rfl)))
      ·(rw[abg];exact congrArg (·+1) (ahH _))
      ·exact aaK _ _
     refine ah (p:=cmpL ((L.getD a aA).2++[(k:Int)]) (dG c (L.getD a aA) s k).1<0) (au Iff.rfl) (fun h9=>?_) (fun h9=>?_)
     ·have e:dG c (L.getD a aA) s (k+1)=((L.getD a aA).2++[(k:Int)],true):=by rw[hst];unfold jM;rw[if_pos hbad,if_pos (by rw[decide_eq_true h9];simp)]
      refine ei (k+1) (ai (ai rfl rfl) (ai (ai (ai rfl (ai (ai rfl rfl) (ai (ai rfl rfl) (ai (ai (ai (ai (fun _=>rfl) (aH (by omega))) rfl) (ai (ai rfl (ai rfl (ai ?_ ?_))) (ai (ai (fun _=>rfl) ?_) rfl))) trivial)))) rfl) (ai (ai (iL (by omega)) trivial) (iM (by omega)))))
      all_goals rw[e]
      ·(rw[abg];exact congrArg (·+1) (ahH _))
      ·exact aaK _ _
      ·exact rfl
     ·have e:dG c (L.getD a aA) s (k+1)=dG c (L.getD a aA) s k:=by rw[hst];unfold jM;rw[if_pos hbad,if_neg (by rw[h8,decide_eq_false h9];simp)]
      refine ei (k+1) (ai (ai rfl rfl) (ai (ai (ai rfl (ai (ai rfl rfl) (ai (ai rfl rfl) (ai (ai (ai (ai (fun _=>rfl) (aH (by omega))) rfl) (ai (ai rfl (ai rfl (ai ?_ ?_))) (ai (ai nof ?_) rfl))) trivial)))) rfl) (ai (ai (iL (by omega)) trivial) (iM (by omega)))))
      all_goals rw[e]
      ·exact fun _ _=>rfl
      ·exact rfl
   ·obtain rfl:k=c.trs.length:=by omega
    refine ei ((a+1,dG c (L.getD a aA) s c.trs.length)) (ai (ai rfl rfl) (ai (ai ?_ rfl) (ai ?_ ?_)))
    ·exact (ai rfl (ai (ai rfl rfl) (ai (ai rfl rfl) (ai (ai (ai (ai (fun _=>rfl) (aH (by omega))) rfl) (ai (ai rfl (ai rfl (ai rfl (fun _ _=>rfl)))) (ai (ai nof rfl) rfl))) trivial))))
    ·exact ⟨h2,hs2⟩
    ·show L.length-(a+1)<L.length-a;omega
 ·have e:sF c=s:=by rw[hs,atB (by omega)];rfl
  refine ai (ai (fun h=>absurd (show false=true from h) (by decide)) ?_) trivial
  show ak _ (xu c)
  rw[hA,e]
  exact (ai rfl (ai (ai rfl (fun _ _=>rfl)) rfl))
end Go.Sx.Pe
namespace Go.Proofs
open Go.Shelf
def Tryz.xO:Go.Shelf.Ren:=⟨fun | 6=>99 | 15=>153 | 14=>152 | 28=>192 | 29=>193 | 20=>184 | 21=>185 | 22=>186 | 23=>187 | 24=>188 | 25=>189 | 26=>190 | 27=>191 | 46=>210 | 47=>211 | 48=>212 | 49=>213 | 50=>214 | 57=>225 | n=>n,fun | 22=>62 | 24=>72 | 25=>169 | 3=>3 | 39=>214 | 0=>0 | 53=>250 | 55=>252 | 4=>4 | 46=>244 | 45=>243 | 50=>101 | 5=>5 | 9=>9 | 66=>265 | 70=>269 | 76=>282 | 77=>283 | n=>n,fun | n=>n⟩
theorem Tryz.amo : Go.Proofs.SlLaysF.n6 Tryz.prog Tryz.xO := {
  mixed := by kernel_rfl
  f6 := ⟨Tryz.f99.name, by decide, Tryz.func99.trans (congrArg some (by kernel_rfl))⟩
  f14 := ⟨Tryz.f152.name, by decide, Tryz.func152.trans (congrArg some (by kernel_rfl))⟩
  f15 := Tryz.func153.trans (congrArg some (by kernel_rfl))
  f20 := ⟨Tryz.f184.name, by decide, Tryz.func184.trans (congrArg some (by kernel_rfl))⟩
  f21 := ⟨Tryz.f185.name, by decide, Tryz.func185.trans (congrArg some (by kernel_rfl))⟩
  f22 := ⟨Tryz.f186.name, by decide, Tryz.func186.trans (congrArg some (by kernel_rfl))⟩
  f23 := ⟨Tryz.f187.name, by decide, Tryz.func187.trans (congrArg some (by kernel_rfl))⟩
  f24 := ⟨Tryz.f188.name, by decide, Tryz.func188.trans (congrArg some (by kernel_rfl))⟩
  f25 := ⟨Tryz.f189.name, by decide, Tryz.func189.trans (congrArg some (by kernel_rfl))⟩
  f26 := ⟨Tryz.f190.name, by decide, Tryz.func190.trans (congrArg some (by kernel_rfl))⟩
  f27 := ⟨Tryz.f191.name, by decide, Tryz.func191.trans (congrArg some (by kernel_rfl))⟩
  f28 := Tryz.func192.trans (congrArg some (by kernel_rfl))
  f29 := Tryz.func193.trans (congrArg some (by kernel_rfl))
  f46 := ⟨Tryz.f210.name, by decide, Tryz.func210.trans (congrArg some (by kernel_rfl))⟩
  f47 := Tryz.func211.trans (congrArg some (by kernel_rfl))
  f48 := Tryz.func212.trans (congrArg some (by kernel_rfl))
  f49 := ⟨Tryz.f213.name, by decide, Tryz.func213.trans (congrArg some (by kernel_rfl))⟩
  f50 := ⟨Tryz.f214.name, by decide, Tryz.func214.trans (congrArg some (by kernel_rfl))⟩
  f57 := ⟨Tryz.f225.name, by decide, Tryz.func225.trans (congrArg some (by kernel_rfl))⟩
  t0 := Tryz.underlying0
  a0 := Tryz.isAgg0
  z0 := Tryz.sizeOf0
  v0 := Tryz.zeroValue0
  t3 := Tryz.underlying3
  a3 := Tryz.isAgg3
  z3 := Tryz.sizeOf3
  v3 := Tryz.zeroValue3
  t4 := Tryz.underlying4
  a4 := Tryz.isAgg4
  z4 := Tryz.sizeOf4
  v4 := Tryz.zeroValue4
  t5 := Tryz.underlying5
  a5 := Tryz.isAgg5
  z5 := Tryz.sizeOf5
  v5 := Tryz.zeroValue5
  t9 := Tryz.underlying9
  a9 := Tryz.isAgg9
  z9 := Tryz.sizeOf9
  v9 := Tryz.zeroValue9
  t22 := Tryz.underlying62
  a22 := Tryz.isAgg62
  z22 := Tryz.sizeOf62
  v22 := Tryz.zeroValue62
  a24 := Tryz.isAgg72
  z24 := Tryz.sizeOf72
  t25 := Tryz.underlying169
  a25 := Tryz.isAgg169
  z25 := Tryz.sizeOf169
  v25 := Tryz.zeroValue169
  t39 := Tryz.underlying214
  a39 := Tryz.isAgg214
  z39 := Tryz.sizeOf214
  v39 := Tryz.zeroValue214
  t45 := Tryz.underlying243
  a45 := Tryz.isAgg243
  z45 := Tryz.sizeOf243
  v45 := Tryz.zeroValue243
  t46 := Tryz.underlying244
  a46 := Tryz.isAgg244
  z46 := Tryz.sizeOf244
  v46 := Tryz.zeroValue244
  t50 := Tryz.underlying101
  a50 := Tryz.isAgg101
  z50 := Tryz.sizeOf101
  v50 := Tryz.zeroValue101
  t53 := Tryz.underlying250
  a53 := Tryz.isAgg250
  z53 := Tryz.sizeOf250
  v53 := Tryz.zeroValue250
  t55 := Tryz.underlying252
  a55 := Tryz.isAgg252
  z55 := Tryz.sizeOf252
  v55 := Tryz.zeroValue252
  t66 := Tryz.underlying265
  a66 := Tryz.isAgg265
  z66 := Tryz.sizeOf265
  v66 := Tryz.zeroValue265
  t70 := Tryz.underlying269
  a70 := Tryz.isAgg269
  z70 := Tryz.sizeOf269
  v70 := Tryz.zeroValue269
  t76 := Tryz.underlying282
  a76 := Tryz.isAgg282
  z76 := Tryz.sizeOf282
  v76 := Tryz.zeroValue282
  t77 := Tryz.underlying283
  a77 := Tryz.isAgg283
  z77 := Tryz.sizeOf283
  v77 := Tryz.zeroValue283 }
end Go.Proofs
namespace Go.Sx.Pe
open Go Go.Proofs Go.Sx.Pn Go.RowKit Go.Shelf
def BS (w:World) (v:Value) (l:List Bool):Prop:=∃p c,v=.slice p l.length c∧∀k,k<l.length→∃bb o,p=some ⟨bb,o,none⟩∧w.cell? ⟨bb,o+k,none⟩=some (.bool (l.getD k false))
theorem aio (a b:List Bool) (v1 v2:Value) (w:World) (hab:a.length=b.length) (hl:a.length≤1000000) (h1:BS w v1 a) (h2:BS w v2 b) :
  Calls Tryz.prog 100 #[v1,v2] w fun e w'=>e=.returned (.int .i64 (iy a b))∧w'=w:=by
 obtain ⟨p1,c1,rfl,g1⟩:=h1
 obtain ⟨p2,c2,rfl,g2⟩:=h2
 rw[←hab] at g2 ⊢
 have g1:=Lib.hid g1
 have g2:=Lib.hid g2
 go_enter Tryz.func100,Tryz.ntmps100
 go_wp2_with (fail)
 go_loop [9] (fun i=>∃k:Nat,k≤a.length∧i=.int .i64 k∧a.take k=b.take k) (fun i=>a.length-(Proofs.intOf i).toNat)
 case atStart=>exact ⟨0,aeT _,rfl,rfl⟩
 case round=>
  obtain ⟨k,hk,rfl,hall⟩:=hrel
  have hall:=Lib.hid hall
  by_cases hlt:k<a.length
  ·obtain ⟨x1,o1,rfl,e1⟩:=g1.out k hlt
   obtain ⟨x2,o2,hp2,e2⟩:=g2.out k hlt
   have he:=Lib.hid (apu hab hlt hall.out)
   have hs:=Lib.hid (xD false hlt (by omega) hall.out)
   obtain ⟨ba,hba⟩:∃x,a.getD k false=x:=⟨_,rfl⟩
   obtain ⟨bb,hbb⟩:∃x,b.getD k false=x:=⟨_,rfl⟩
   rw[hba] at e1
   rw[hbb] at e2
   replace hba:=Lib.hid hba
   replace hbb:=Lib.hid hbb
   subst hp2
   cases ba<;>cases bb
   ·go_wp2_with (fail)
    go_round
    case rel=>exact ⟨k+1,by omega,by go_num,hs.out (hba.out.trans hbb.out.symm)⟩
    case measure=>simp[Proofs.intOf];omega
   ·have hr:iy a b=-1:=by rw[he.out (by rw[hba.out,hbb.out];decide),hbb.out];rfl
    have hr:=Lib.hid hr
    go_wp2_with (fail)
    go_ret
    exact ⟨by first | rfl | (rw[hr.out];rfl),rfl⟩
   ·have hr:iy a b=1:=by rw[he.out (by rw[hba.out,hbb.out];decide),hbb.out];rfl
    have hr:=Lib.hid hr
    go_wp2_with (fail)
    go_ret
    exact ⟨by first | rfl | (rw[hr.out];rfl),rfl⟩
   ·go_wp2_with (fail)
    go_round
    case rel=>exact ⟨k+1,by omega,by go_num,hs.out (hba.out.trans hbb.out.symm)⟩
    case measure=>simp[Proofs.intOf];omega
  ·obtain rfl:k=a.length:=by omega
   have hr:iy a b=0:=ai1 (by have:=hall.out;rw[af0,hab,af0] at this;exact this)
   have hr:=Lib.hid hr
   go_wp2_with (fail)
   go_ret
   exact ⟨by first | rfl | (rw[hr.out];rfl),rfl⟩
end Go.Sx.Pe
namespace Go.Sx.Pe
open Go Go.Proofs Go.Sx.Pn
theorem aad:∀a b:List Bool,iy b a=-iy a b
 | [],[]=>rfl
 | [],_ :: _=>rfl
 | _ :: _,[]=>rfl
 | x :: a,y :: b=>by
  have ih:=aad a b
  cases x<;>cases y<;>simp[iy,ih]
theorem aeR:∀{a b:List Bool},a.length=b.length→iy a b=0→a=b
 | [],[],_,_=>rfl
 | [],_ :: _,h,_=>by simp at h
 | _ :: _,[],h,_=>by simp at h
 | x :: a,y :: b,h,e=>by
  have ih:=aeR (a:=a) (b:=b) (by simpa using h)
  cases x<;>cases y<;>simp[iy] at e<;>rw[ih e]
theorem xU:∀{a b c:List Bool},a.length=b.length→b.length=c.length→iy a b<0→iy b c<0→iy a c<0
 | [],[],_,_,_,h,_=>by simp[iy] at h
 | [],_ :: _,_,h,_,_,_=>by simp at h
 | _ :: _,[],_,h,_,_,_=>by simp at h
 | _ :: _,_ :: _,[],_,h,_,_=>by simp at h
 | x :: a,y :: b,z :: c,h1,h2,h,k=>by
  have ih:=xU (a:=a) (b:=b) (c:=c) (by simpa using h1) (by simpa using h2)
  cases x<;>cases y<;>cases z<;>simp[iy] at h k ⊢<;>exact ih h k
def o8 (a b:List Bool):Prop:=iy a b<0
theorem ajo {n:Nat} {a b:List Bool} (ha:a.length=n) (hb:b.length=n) (h:¬o8 a b):o8 b a∨a=b:=by
 unfold o8 at *
 by_cases e:iy a b=0
 ·exact .inr (aeR (ha.trans hb.symm) e)
 ·left;rw[aad a b];omega
theorem akg (a:List Bool):¬o8 a a:=by unfold o8;rw[ai1 rfl];decide
theorem alG {a b:List Bool} (h:o8 a b):¬o8 b a:=by unfold o8 at *;rw[aad a b];omega
theorem adD {n:Nat} {a b c:List Bool} (ha:a.length=n) (hb:b.length=n) (hc:c.length=n) (h:¬o8 a b) (k:¬o8 b c):¬o8 a c:=by
 intro h3
 rcases ajo ha hb h with h | rfl
 ·exact k (xU (hb.trans ha.symm) (ha.trans hc.symm) h h3)
 ·exact k h3
theorem agQ (a b:List Bool):aog a b=true↔o8 a b:=by
 unfold aog o8
 rw[beq_iff_eq]
 have:iy a b=-1∨iy a b=0∨iy a b=1:=by
  induction a generalizing b with
  | nil=>exact .inr (.inl (by cases b<;>rfl))
  | cons x a ih=>
   cases b with
   | nil=>exact .inr (.inl rfl)
   | cons y b=>
    rw[iy]
    split
    ·exact ih b
    ·split
     ·exact .inl rfl
     ·exact .inr (.inr rfl)
 omega
def posR (A:List (List Bool)) (x:List Bool):Nat→Nat
 | 0=>0
 | k+1=>if aog x (A.getD k []) then posR A x k else k+1
def rowAt (A:List (List Bool)) (x:List Bool) (k:Nat):List (List Bool):=A.take k++x :: A.drop k
def akx (A:List (List Bool)) (x:List Bool):List (List Bool):=rowAt A x (posR A x A.length)
def nR (l:List (List Bool)):List (List Bool):=l.foldl akx []
theorem aeH (l:List (List Bool)) (x:List Bool):nR (l++[x])=akx (nR l) x:=by unfold nR;rw[asB];rfl
theorem akk (A:List (List Bool)) (x:List Bool) (k:Nat):(rowAt A x k).Perm (x :: A):=by
 unfold rowAt
 refine List.perm_middle.trans ?_
 rw[atn]
theorem ag3 {α:Type} {p:List α→Prop} (h0:p []) (hs:∀l x,p l→p (l++[x])) (l:List α):p l:=by
 rw[←List.reverse_reverse l]
 induction l.reverse with
 | nil=>exact h0
 | cons x l ih=>rw[List.reverse_cons];exact hs _ _ ih
theorem ae3 (l:List (List Bool)):(nR l).Perm l:=by
 refine ag3 (p:=fun l=>(nR l).Perm l) .nil (fun l x ih=>?_) l
 rw[aeH]
 refine (akk _ _ _).trans ?_
 refine (ih.cons x).trans ?_
 exact (List.perm_append_singleton x l).symm
def zh (l:List (List Bool)):Prop:=l.Pairwise fun a b=>¬o8 b a
theorem aju (A:List (List Bool)) (x:List Bool):∀k,posR A x k≤k
 | 0=>ahl _
 | k+1=>by
  rw[posR];split
  ·have:=aju A x k;omega
  ·exact ahl _
theorem aiU (A:List (List Bool)) (x:List Bool):∀k j,posR A x k≤j→j<k→o8 x (A.getD j [])
 | 0,j,_,h=>by omega
 | k+1,j,h1,h2=>by
  rw[posR] at h1
  split at h1
  ·rename_i h
   by_cases e:j=k
   ·subst e;exact (agQ _ _).1 h
   ·exact aiU A x k j h1 (by omega)
  ·omega
theorem aiH (A:List (List Bool)) (x:List Bool):∀k,0<posR A x k→¬o8 x (A.getD (posR A x k-1) [])
 | 0,h=>by simp[posR] at h
 | k+1,h=>by
  rw[posR] at h ⊢
  split
  ·rename_i hb;rw[if_pos hb] at h;exact aiH A x k h
  ·rename_i hb
   exact fun hl=>hb ((agQ _ _).2 hl)
theorem amI {n:Nat} {A:List (List Bool)} {x:List Bool} (hx:x.length=n) (hA:∀y∈A,y.length=n) (h:zh A):zh (akx A x):=by
 have hp:=aju A x A.length
 have hlo:=aiH A x A.length
 have hhi:=aiU A x A.length
 unfold akx rowAt
 generalize posR A x A.length=p at *
 have hs:zh (A.take p++A.drop p):=by rw[atn];exact h
 obtain ⟨s1,s2,s3⟩:=List.pairwise_append.1 hs
 have hd:∀y∈A.drop p,o8 x y:=fun y hy=>by
  obtain ⟨i,hi,rfl⟩:=arD hy
  rw[arI] at hi
  have:=hhi (p+i) (by omega) (by omega)
  rw[List.getElem_drop]
  rwa [abl,abr (by omega)] at this
 have ht:∀y∈A.take p,¬o8 x y:=fun y hy=>by
  obtain ⟨i,hi,rfl⟩:=arD hy
  rw[aja] at hi
  rw[List.getElem_take]
  have h0:=hlo (by omega)
  rw[abl,abr (by omega)] at h0
  by_cases e:i=p-1
  ·subst e;exact h0
  ·have h1:=atV.1 h i (p-1) (by omega) (by omega) (by omega)
   exact adD hx (hA _ (atz _)) (hA _ (atz _)) h0 h1
 refine List.pairwise_append.2 ⟨s1,auj.2 ⟨fun y hy=>alG (hd y hy),s2⟩,fun a ha b hb=>?_⟩
 rcases ai5.1 hb with rfl | hb
 ·exact ht a ha
 ·exact s3 a ha b hb
theorem anl {n:Nat} {l:List (List Bool)} (hl:∀y∈l,y.length=n):zh (nR l):=by
 refine ag3 (p:=fun l=>(∀y∈l,y.length=n)→zh (nR l)) (fun _=>List.Pairwise.nil) (fun l x ih hl=>?_) l hl
 rw[aeH]
 refine amI (n:=n) (hl x (by simp)) (fun y hy=>hl y ?_) (ih fun y hy=>hl y (by simp[hy]))
 have:=(ae3 l).mem_iff.1 hy
 simp[this]
theorem acV {n:Nat}:∀{a b:List (List Bool)},a.Perm b→(∀y∈a,y.length=n)→zh a→zh b→a=b
 | [],b,h,_,_,_=>by rw[List.nil_perm.1 h]
 | x :: a,[],h,_,_,_=>by have:=h.length_eq;simp at this
 | x :: a,y :: b,h,hn,ha,hb=>by
  obtain ⟨a1,a2⟩:=auj.1 ha
  obtain ⟨b1,b2⟩:=auj.1 hb
  have e:x=y:=by
   rcases ai5.1 (h.mem_iff.1 (aoM ..)) with e | hx
   ·exact e
   ·rcases ai5.1 (h.mem_iff.2 (aoM ..)) with e | hy
    ·exact e.symm
    ·have h1:=b1 x hx
     have h2:=a1 y hy
     rcases ajo (n:=n) (hn x (aoM ..)) (hn y (aoB _ hy)) h1 with h3 | h3
     ·exact absurd h3 h2
     ·exact h3
  subst e
  rw[acV ((List.perm_cons x).1 h) (fun y hy=>hn y (aoB _ hy)) a2 b2]
end Go.Sx.Pe
namespace Go.Sx.Pe
open Go Go.Proofs Go.Sx.Pn Go.RowKit Go.Sort
theorem aos {E:Env} {W:World} (hm:adh E.mem W) {v:Value} {l:List Bool} (h:aQ E.mem v (jU l)):BS W v l:=by
 unfold jU at h
 cases hl:l with
 | nil=>
  subst hl
  cases h with
  | nil=>exact ⟨none,0,rfl,fun k hk=>absurd hk (alb _)⟩
  | emp a cap=>exact ⟨_,_,rfl,fun k hk=>absurd hk (alb _)⟩
  | seq b o n cap sz f cs u hm' hcap hmax hl' hc he=>exact ⟨_,_,rfl,fun k hk=>absurd hk (alb _)⟩
 | cons x t=>
  rw[←hl]
  have hpos:0<l.length:=by rw[hl];simp
  generalize hn:l.length=n at h hpos
  cases h with
  | nil=>exact absurd hpos (Nat.lt_irrefl _)
  | emp a cap=>exact absurd hpos (Nat.lt_irrefl _)
  | seq b o _ cap sz f cs u hm' hcap hmax hl' hc he=>
   refine ⟨some ⟨b,o,none⟩,cap,by rw[hn],fun k hk=>⟨b,o,rfl,?_⟩⟩
   have hk:k<n:=by omega
   obtain ⟨T,fr,hw⟩:=hm _ _ hm'
   have hs:sz=1:=(hl' k hk).symm
   subst hs
   have h1:=hc k 0 _ hk rfl
   have h2:=he k 0 _ hk rfl
   rw[h2.aP,aoD,asE] at h1
   simp only[World.cell?,hw]
   exact h1.1
def sZ (l:List (List Bool)):Ob:=.row 72 1 l.length (fun k=>[jU (l.getD k [])])
def aq6 (n:Nat) (l:List (List Bool)):Prop:=l.length≤1000000000∧∀x∈l,x.length=n
def ao1 (n:Nat):Spec:={ A:=List (List Bool),args:=fun _=>[.row 0,.fn 100 []],objs:=fun l=>[sZ l],pre:=aq6 n,res:=fun _=>.tup [],objs':=fun l=>[sZ (nR l)],fresh:=true,ro:=0 }
theorem amf (n : Nat) (hn : n ≤ 1000000) : aG Tryz.prog 99 (ao1 n) := by
  refine ⟨⟨Tryz.f99, Tryz.func99, rfl, rfl⟩, fun (l : List (List Bool)) hpre E vs w _ hh hA => ?_⟩
  obtain ⟨hbig, hlen⟩ := hpre
  have hbig : l.length ≤ 1000000000 := hbig
  have hob : (iK [sZ l]).obj 0 = some (.row 72 1 l.length (fun k => [jU (l.getD k [])])) := rfl
  obtain ⟨hs1, hs2⟩ := hA
  obtain ⟨v, fv, rfl⟩ : ∃ v fv, vs = #[v, fv] := by
    have h1 : vs.size = 2 := hs1
    exact ⟨vs[0]'(by omega), vs[1]'(by omega), by
      apply Array.ext
      · simp [h1]
      · intro i hi hi2
        match i, hi2 with
        | 0, _ => rfl
        | 1, _ => rfl⟩
  have hv := hs2 0 v (.row 0) rfl rfl
  have hf := hs2 1 fv (.fn 100 []) rfl rfl
  obtain rfl : fv = .func (.func 100) #[] #[] := by
    cases hf with
    | fn _ us _ hl he => 
      have : us = #[] := Array.eq_empty_of_size_eq_zero (by simpa using hl)
      rw [this]
  have hR := hh.ob 0 _ hob
  have hrep := hR
  cases hv with
  | row _ _ hd0 hsl =>
  cases hR with
  | row _ _ _ _ v' xs u hhd hw hmax hl hc he =>
  rw [hd0] at hhd
  obtain rfl := Option.some.inj hhd
  have hnone : ∀ (p : Option Addr) (cap : Nat), Calls Tryz.prog 99 #[.slice p 0 cap, .func (.func 100) #[] #[]] w fun e w' => e = .returned (.tuple #[]) ∧ w' = w := fun p cap =>
    AnyF.slices_SortFunc_none (P := Tryz.prog) (ρ := Tryz.xO) { Tryz.amo with } p cap _ w
  by_cases h0 : l = []
  · subst h0
    have hw2 := hw.2
    obtain ⟨p, cap, rfl⟩ : ∃ p cap, v = .slice p 0 cap := by
      rcases hw2 with ⟨rfl, _⟩ | ⟨g, cap, cur, rfl, _⟩
      · exact ⟨_, _, rfl⟩
      · exact ⟨_, _, rfl⟩
    refine (hnone p cap).mono ?_
    rintro e w' ⟨rfl, rfl⟩
    exact ⟨.tuple #[], E, rfl, .tup _ _ rfl (fun k u s hu => by simp at hu), hh⟩
  have hpos : 0 < l.length := atS.2 h0
  rcases hw.2 with ⟨rfl, hn0⟩ | ⟨g, cap, cur, rfl, _⟩
  · exact absurd hn0 (by omega)
  obtain ⟨_, cur, u', hA⟩ := hrep.jV hd0
  -- the elements, with what they stand for
  let α : Type := { p : Value × List Bool // p.2.length = n ∧ p.1.oneCell' = true ∧ aQ E.mem p.1 (jU p.2) }
  have hel : ∀ j, j < l.length → cur[j]? = some (u' j 0) ∧ (u' j 0).oneCell' = true ∧ aQ E.mem (u' j 0) (jU (l.getD j [])) := fun j hj => by
    have c1 := hA.hc j 0 (jU (l.getD j [])) hj rfl
    have c2 := hA.he j 0 (jU (l.getD j [])) hj rfl
    rw [aoD, asE] at c1
    exact ⟨c1.1, c1.2, c2⟩
  have mem : ∀ j, j < l.length → (l.getD j []).length = n := fun j hj => hlen _ (aeJ (bJ [] hj))
  let el : Fin l.length → α := fun j => ⟨(u' j 0, l.getD j []), mem j j.2, (hel j j.2).2.1, (hel j j.2).2.2⟩
  haveI : Inhabited α := ⟨el ⟨0, hpos⟩⟩
  let enc : α → Value := fun x => x.1.1
  have h1 : ∀ a, (enc a).oneCell' = true := fun a => a.2.2.1
  let d : Array α := Array.ofFn el
  have hds : d.size = l.length := Array.size_ofFn
  have hdat : ∀ j (hj : j < l.length), d[j]! = el ⟨j, hj⟩ := fun j hj => by
    rw [getElem!_pos d j (by rw [hds]; exact hj)]
    simp [d]
  let cf : α → α → Int := fun x y => iy x.1.2 y.1.2
  have hlt : ∀ x y : α, ltOf cf x y = true ↔ o8 x.1.2 y.1.2 := fun x y => by
    show decide (iy x.1.2 y.1.2 < 0) = true ↔ _
    rw [decide_eq_true_iff]; rfl
  have hltf : ∀ x y : α, ltOf cf x y = false ↔ ¬ o8 x.1.2 y.1.2 := fun x y => by rw [← hlt, Bool.not_eq_true]
  have hO : SWO (ltOf cf) := {
    irrefl := fun x => (hltf x x).2 (akg _)
    trans := fun x y z h k => (hlt x z).2 (xU (x.2.1.trans y.2.1.symm) (y.2.1.trans z.2.1.symm) ((hlt x y).1 h) ((hlt y z).1 k))
    ntrans := fun x y z h k => (hltf x z).2 (adD x.2.1 y.2.1 z.2.1 ((hltf x y).1 h) ((hltf y z).1 k)) }
  have hg : g < w.heap.size := (acD.1 hA.heap).1
  have hnc := hA.hn
  have hsz := hA.size
  -- the world with another order
  have hW : ∀ (m : Nat) (os : Array Obj) (dk : Array α), dk.size = l.length → bC (kR w E [sZ l] 0) E ((iK [sZ l]).cu 0 (some (sZ (dk.toList.map fun x => x.1.2)))) (sortWorld enc w g 0 m dk os) := by
    intro m os dk hdk
    have hw1 : (putRow enc (Sort.ahead w m) g 0 dk).heap[g]? = some (.cells (putCells enc 0 dk cur) 72 (0, 0)) := by
      show (w.heap.modify g (onCells _))[g]? = _
      rw [asx, if_pos rfl, hA.heap]; rfl
    have hw2 : ∀ k, k ≠ g → (putRow enc (Sort.ahead w m) g 0 dk).heap[k]? = w.heap[k]? := fun k hk => by
      show (w.heap.modify g (onCells _))[k]? = _
      rw [asx, if_neg fun e => hk e.symm]
    have hbang : ∀ k, k < l.length → (dk.toList.map fun x : α => x.1.2).getD k [] = (dk[k]!).1.2 := fun k hk => by
      rw [abl, ajv, afd, aeV (by omega), getElem!_pos dk k (by omega)]; rfl
    have hlm : (dk.toList.map fun x : α => x.1.2).length = l.length := by rw [aot, alN, hdk]
    have hat : ∀ j, j < l.length → (putCells enc 0 dk cur)[j]? = some (enc dk[j]!) := fun j hj => by
      rw [ait, if_pos (by omega), if_pos (by omega)]
    have hh2 : bC (kR w E [sZ l] 0) E ((iK [sZ l]).cu 0 (some (sZ (dk.toList.map fun x => x.1.2)))) (putRow enc (Sort.ahead w m) g 0 dk) := by
      refine hh.write (i := 0) (b := g) hob (by simp [Env.blk, hd0, aI]) (ahl _)
        (.row 72 1 _ _ _ ((putCells enc 0 dk cur).toList.take (l.length * 1)) (fun j _ => enc dk[j]!) hd0 ?_ (by rw [hlm]; exact hA.hmax) (fun j _ => rfl) ?_ ?_) rfl rfl rfl (by simp) hw2
      · rw [hlm]
        refine ⟨?_, .inr ⟨g, cap, _, rfl, aeT _, hw1, hA.hn, hA.hcap, by rw [yU]; exact hA.size, rfl⟩⟩
        have h3 : (putCells enc 0 dk cur).toList.length = cap * 1 := by rw [alN, yU]; exact hA.size
        rw [aja, h3]
        omega
      · intro j k s hj hs
        rw [hlm] at hj
        have hk : k = 0 := by
          have := (abF.1 hs).1
          simpa using this
        subst hk
        rw [alh, if_pos (by omega), afd, aoD, asE]
        exact ⟨hat j hj, h1 _⟩
      · intro j k s hj hs
        rw [hlm] at hj
        have hk : k = 0 := by
          have := (abF.1 hs).1
          simpa using this
        subst hk
        simp only [atX, Option.some.injEq] at hs
        subst hs
        rw [hbang j hj]
        exact (dk[j]!).2.2.2
    exact hh2.below (w' := sortWorld enc w g 0 m dk os) ⟨rfl, rfl, rfl, by simp [sortWorld], fun k hk => by
      show (_ ++ os)[k]? = _
      rw [amy hk]⟩
  have hcmp : CmpLays1 Tryz.prog 100 #[] enc cf g 0 d.size w := CmpReads.lays fun m os dk hdk x y => by
    have hm := (hW m os dk (by rw [hdk, hds])).mem
    refine (aio x.1.2 y.1.2 x.1.1 y.1.1 _ (x.2.1.trans y.2.1.symm) (by rw [x.2.1]; exact hn) (aos hm x.2.2.2) (aos hm y.2.2.2)).mono ?_
    rintro e w' ⟨rfl, rfl⟩
    exact ⟨rfl, 0, rfl⟩
  have hH : Holds enc w g 0 d := fun j hj => by
    have hj : j < l.length := by omega
    refine ⟨?_, ?_⟩
    · simp only [World.cell?, hA.heap, ahH]
      rw [hdat j hj]; exact (hel j hj).1
    · simp [World.frozen?, hA.heap]
  have hsort := Any.slices_SortFunc (P := Tryz.prog) (ρ := Tryz.xO) Tryz.amo enc h1 cf hO 100 #[] g 0 cap d w (enters_of Tryz.func100 (by kernel_rfl) rfl) hcmp hH hg (by omega)
  rw [hds] at hsort
  refine Calls.mono hsort ?_
  rintro e w' ⟨rfl, d', m, os, hp, hs, rfl⟩
  have hd's : d'.size = l.length := hp.1.trans hds
  have hl' : (d'.toList.map fun x : α => x.1.2) = nR l := by
    have hpd : d'.toList.Perm d.toList := by
      have := hp.2.2
      rwa [show d'.extract 0 l.length = d' by rw [← hd's]; simp, show d.extract 0 l.length = d by rw [← hds]; simp] at this
    have hdl : (d.toList.map fun x : α => x.1.2) = l := by
      apply List.ext_getElem?
      intro k
      rw [ajv, afd]
      by_cases hk : k < l.length
      · rw [aeV (by omega), abr hk]
        simp only [d, Array.getElem_ofFn, aop, Option.some.injEq]
        show l.getD k [] = _
        rw [abl, abr hk]; rfl
      · rw [amt (by omega), asw (by omega)]; rfl
    have hperm : (d'.toList.map fun x : α => x.1.2).Perm l := by
      have := hpd.map fun x : α => x.1.2
      rwa [hdl] at this
    refine acV (n := n) (hperm.trans (ae3 l).symm) (fun y hy => hlen y (hperm.mem_iff.1 hy)) ?_ (anl hlen)
    unfold zh
    rw [List.pairwise_map, atV]
    intro i j hi hj hij
    have hi : i < d'.size := by simpa using hi
    have hj : j < d'.size := by simpa using hj
    have := hs i j (aeT _) hij (by omega)
    rw [hltf, getElem!_pos d' i hi, getElem!_pos d' j hj] at this
    exact this
  have hfin := hW m os d' hd's
  rw [hl'] at hfin
  refine ⟨.tuple #[], E, rfl, .tup _ _ rfl (fun k u s hu => by simp at hu), ?_⟩
  have key : ∀ (st : St), (∀ i o, st.obj i = some o → ((iK [sZ l]).cu 0 (some (sZ (nR l)))).obj i = some o) → st.no = 1 → st.k = none → bC (kR w E [sZ l] 0) E st (sortWorld enc w g 0 m d' os) := fun st ho hno hk => by
    have hkk := hfin.kk
    exact ⟨fun i o h => hfin.ob i o (ho i o h), fun i j o o' b h1 h2 => hfin.sep i j o o' b (ho i o h1) (ho j o' h2), fun i o b h => hfin.own i o b (ho i o h), hfin.mem, hfin.mem0, hfin.memnew, fun i hi => hfin.new i (by rw [hno] at hi; exact hi), hfin.base, hfin.fr, hfin.hd0, by rw [hno]; exact hfin.mno, hfin.mkh, by rw [hk]; exact hkk⟩
  refine key _ (fun i o ho => ?_) rfl rfl
  have e1 : St.obj ⟨[], [(0, some (sZ (nR l)))], 1, none⟩ i = some o := ho
  rw [lu (no := 1) (c := none)] at e1
  have e2 := lu (iK [sZ l]).fr (iK [sZ l]).ob 1 1 (c := none) (c' := none) 0 (some (sZ (nR l))) i
  refine Eq.trans e2 ?_
  by_cases hi : 0 = i
  · rw [if_pos hi] at e1 ⊢; exact e1
  · rw [if_neg hi] at e1
    simp [St.obj, look] at e1
end Go.Sx.Pe
namespace Go.Sx.Pe
open Go Go.Proofs Go.Sx.Pn
def bbP (l:List (List Bool)):PV:=.seq l.length (fun k=>[jU (l.getD k [])])
def bbR (l:List (List Bool)):LV:=.rw 72 1 l.length (fun k=>[jU (l.getD k [])])
def mV (c:aN):List (List Bool):=(l7 c).map (·.1)
def qZ (c:aN):PV:=.tup [bbP (nR (mV c)),iP (uO c)]
theorem ap4 (a:List (List Bool)) (x:List Bool):∀k,k<a.length+1→bQ a.length (fun k=>[jU (a.getD k [])]) (bn 1 [jU x]) k=[jU ((a++[x]).getD k [])]:=by
 intro k hk
 unfold bQ
 by_cases h:k<a.length
 ·rw[if_pos h]
  show [jU (a.getD k [])]=_
  rw[abl,abl,afs h]
 ·obtain rfl:k=a.length:=by omega
  rw[if_neg h,asA,abl,ag4 (ahl _),asA];rfl
theorem anG:aG Tryz.prog 98 (bM (fun a:aN×List Bool=>[iJ a.1,uS a.2]) (fun a=>a.1.sts.length≤24∧a.2.length=a.1.sts.length) (fun a=>jU a.2)):=by
 refine ⟨adU.1,fun ⟨c,m⟩ hp E vs w hg hh hA=>?_⟩
 obtain ⟨h1,h2⟩:=hp
 have h1:c.sts.length≤24:=h1
 have h2:m.length=c.sts.length:=h2
 have e1:uS (bN m)=uS m:=by unfold uS mJ;rw[aaP]
 have key:=adU.2 (c,bN m) ⟨h1,ni (by omega)⟩ E vs w hg hh (by
  show kr E vs [iJ c,uS (bN m)]
  rw[e1];exact hA)
 refine key.mono fun e w' ⟨v,E',h3,h4,h5⟩=>⟨v,E',h3,?_,h5⟩
 have e2:(bN m).take c.sts.length=m:=by unfold bN;rw[←h2,List.take_left'];rfl
 show aQ _ v (jU m)
 rw[←e2];exact h4
theorem abq:aG Tryz.prog 29 (gX (fun c:aN=>[iJ c]) fC qZ):=by
 refine aU (Tb:=tab) mixed ay Tryz.func29 rfl rfl ?_
 rintro (c:aN) hpre
 refine ai (ai rfl (ai rfl rfl)) ?_
 have ho:fC c:=hpre
 refine ei _ (ai (abh) (ei (c) (ei [] (ai (a4 (ai (fun _=>Or.inl rfl) (ai nof (Or.inl rfl)))) (ai (by exact (ai rfl (ai (ai rfl (fun _ _=>rfl)) (ai (ai rfl (fun _ _=>rfl)) (ai rfl (fun _ _=>rfl)))))) (ai trivial (ai (ho) ?_)))))))
 refine aZ (p:=uO c=0) (bI (by omega)) (fun h1=>?_) (fun h1=>?_)
 ·have e:mV c=[]:=by
   unfold mV l7
   unfold uO at h1
   split
   ·rename_i h
    rw[if_pos h] at h1
    cases ee:u6 c with
    | none=>rfl
    | some l=>rw[ee] at h1;exact absurd rfl h1
   ·rfl
  refine ai (ai (fun h=>absurd (show false=true from h) (by decide)) ?_) trivial
  show ak _ (qZ c)
  rw[qZ,e]
  exact (ai rfl rfl)
 obtain ⟨hc,hx⟩:=ahO h1
 obtain ⟨hg,hl,hw⟩:=agq h1
 have h24:=(dW hc).2.2.1.2
 have hA:qZ c=.tup [bbP (nR (mV c)),iP 0]:=by unfold qZ;rw[h1]
 have hml:(mV c).length=(l7 c).length:=aot _
 have htk:∀k,k<(l7 c).length→(mV c).take (k+1)=(mV c).take k++[((l7 c).getD k aA).1]:=fun k hk=>by
  rw[aM [] (by omega)]
  congr 2
  unfold mV
  rw[abl,abl,ajv,abr hk];rfl
 refine ei (bg.inv { X:=Nat,up:=fun k=>[(21,.s (iA k)),(7,bbR ((mV c).take k))],uo:=fun k=>[],inv:=fun k=>k≤(l7 c).length∧(True),meas:=fun k=>(l7 c).length-k,x0:=0 }) ?_
 refine ai (ai (ai (by exact (a4 (ai rfl rfl))) (ai (by exact (ai (ai (ai (fun _=>rfl) (iE (by simp only[zz,reduceCtorEq];rfl))) rfl) rfl)) (by exact trivial))) rfl) (ai (ai (aeT _) ?_) ?_)
 ·trivial
 intro (k:Nat) ⟨hk,_⟩
 have hkl:((mV c).take k).length=k:=by rw[aja];omega
 refine ah (p:=k<(l7 c).length) (au (by omega)) (fun h2=>?_) (fun h2=>?_)
 ·refine ai (ai (abw _) (iN (n:=(l7 c).length) (by omega))) (ai rfl ?_)
  refine ei (fA ((l7 c).getD k aA).1) (ai (agX _) ?_)
  have hgk:=hg _ (aeJ (bJ aA h2))
  refine ei _ (ai (anG) (ei ((c,((l7 c).getD k aA).1)) (ei [] (ai (a4 (ai (fun _=>Or.inl rfl) (ai nof (Or.inl rfl)))) (ai (by exact (ai (ai rfl (ai (ai rfl (fun _ _=>rfl)) (ai (ai rfl (fun _ _=>rfl)) (ai rfl (fun _ _=>rfl))))) (ai rfl (fun _ _=>rfl)))) (ai trivial (ai (⟨h24,hgk.1⟩) ?_)))))))
  refine ai (mxL (n:=((mV c).take k).length+1) (by omega) (by decide)) (ai (aK 1 rfl) ?_)
  refine ei (k+1) (ai (ai rfl rfl) (ai (ai (ai rfl (ai (ai rfl rfl) (ai (ai rfl rfl) (ai (ai (ai (ai (fun _=>rfl) (aH (by omega))) rfl) (ai rfl (ai rfl (ai ?_ ?_)))) trivial)))) rfl) (ai (ai (iL (by omega)) trivial) (iM (by omega)))))
  ·rw[htk k h2,abg];rfl
  ·rw[htk k h2];exact ap4 _ _
 ·obtain rfl:k=(l7 c).length:=by omega
  rw[show (mV c).take (l7 c).length=mV c from atA (by omega)]
  refine ei _ (ai (amf c.sts.length (by omega)) (ei (mV c) (ei [1] (ai (ai rfl (ai rfl (ai rfl (ai rfl (ai nof (ai nof (Or.inl rfl))))))) (ai (by exact (ai rfl (ai rfl trivial))) (ai (by exact (ai rfl (ai rfl (ai rfl (fun _ _=>rfl))))) (ai (⟨by show (mV c).length≤1000000000;omega,fun x hx=>by obtain ⟨y,hy,rfl⟩:=atf.1 hx;exact (hg y hy).1⟩) ?_)))))))
  refine ai (ai (fun h=>absurd (show false=true from h) (by decide)) ?_) trivial
  show ak _ (qZ c)
  rw[hA]
  exact (ai (ai rfl (fun _ _=>rfl)) rfl)
def ar9:Spec:=bM (fun a:List (Int)×List (Int)=>[isA a.1,isA a.2]) (fun a=>a.1.length≤1000000) (fun a=>bP (decide (a.1=a.2)))
theorem aqa:aG Tryz.prog 59 ar9:=by
 refine aU (Tb:=tab) mixed ay Tryz.func59 rfl rfl ?_
 rintro (a:List (Int)×List (Int)) hpre
 refine ai (ai rfl (ai rfl rfl)) ?_
 have hl:a.1.length≤1000000:=hpre
 refine aZ (p:=a.1.length=a.2.length) (bI (by omega)) (fun h1=>?_) (fun h1=>?_)
 ·refine ai (ai (fun _=>trivial) ?_) trivial
  show ak _ (bP (decide (a.1=a.2)))
  rw[decide_eq_false (fun h=>h1 (congrArg List.length h))]
  exact rfl
 refine ei (bg.inv { X:=Nat,up:=fun k=>[(13,.s (iA k))],uo:=fun k=>[],inv:=fun k=>k≤a.1.length∧(a.1.take k=a.2.take k),meas:=fun k=>a.1.length-k,x0:=0 }) ?_
 refine ai (ai (ai (by exact (a4 (ai rfl rfl))) (ai (by exact (ai (ai (fun _=>rfl) (iE (by simp only[zz,reduceCtorEq];rfl))) rfl)) (by exact trivial))) rfl) (ai (ai (aeT _) ?_) ?_)
 ·rfl
 intro (k:Nat) ⟨hk,hall⟩
 refine ah (p:=k<a.1.length) (au (by omega)) (fun h4=>?_) (fun h4=>?_)
 ·refine ei (.seq [0,1,2,3,4,5,6,7,8]) (ai (by kernel_rfl) ?_)
  refine ai (ai (abw _) (iN (n:=a.1.length) (by omega))) (ai rfl ?_)
  refine ai (ai (abw _) (iN (n:=a.2.length) (by omega))) (ai rfl ?_)
  refine aZ (p:=a.1.getD k 0=a.2.getD k 0) (by exact bne_iff_ne) (fun h5=>?_) (fun h5=>?_)
  ·refine ai (ai (fun _=>trivial) ?_) trivial
   show ak _ (bP (decide (a.1=a.2)))
   rw[decide_eq_false (fun h=>h5 (by rw[h]))]
   exact rfl
  refine ei (k+1) (ai (ai rfl rfl) (ai (ai (ai rfl (ai (ai rfl rfl) (ai (ai rfl rfl) (ai (ai (ai (fun _=>rfl) (aH (by omega))) rfl) trivial)))) rfl) (ai (ai (iL (by omega)) ?_) (iM (by omega)))))
  exact xD 0 h4 (by omega) hall h5
 ·obtain rfl:k=a.1.length:=by omega
  rw[af0,h1,af0] at hall
  refine ai (ai (fun _=>trivial) ?_) trivial
  show ak _ (bP (decide (a.1=a.2)))
  rw[decide_eq_true hall]
  exact rfl
theorem af2 (f:Nat→List PV) (k:Nat) {g:Nat→List PV} (hg:g 0=f k):∀j,j<k+1→bQ k f g j=f j:=by
 intro j hj
 unfold bQ
 by_cases h:j<k
 ·rw[if_pos h]
 ·obtain rfl:j=k:=by omega
  rw[if_neg h,asA,hg]
def anc (c:aN):Prop:=c.sts.length≤1000000∧c.trs.length≤1000000
def stF (c:aN) (k:Nat):List PV:=stK (c.sts.getD k st0)
def trF (c:aN) (k:Nat):List PV:=trK (c.trs.getD k aD)
theorem wF:aG Tryz.prog 14 (gX (fun c:aN=>[iJ c]) anc (fun c=>vG c)):=by
 refine aU (Tb:=tab) mixed ay Tryz.func14 rfl rfl ?_
 rintro (c:aN) hpre
 refine ai (ai rfl (ai rfl rfl)) ?_
 obtain ⟨hs,ht⟩:=hpre
 have hs:c.sts.length≤1000000:=hs
 have ht:c.trs.length≤1000000:=ht
 refine ei (bg.inv { X:=Nat,up:=fun k=>[(16,.s (iA k))],uo:=fun k=>[⟨2,36,[.s (iA c.act),.s (.p false (ssP c.ins)),.rw 89 2 k (stF c),.s acg]⟩],inv:=fun k=>k≤c.sts.length∧(True),meas:=fun k=>c.sts.length-k,x0:=0 }) ?_
 refine ai (ai (ai (by exact (a4 (ai rfl rfl))) (ai ?_ ?_)) rfl) (ai (ai (aeT _) ?_) ?_)
 ·exact (ai (ai (fun _=>rfl) (iE (by simp only[zz,reduceCtorEq];rfl))) rfl)
 ·exact (ai (ai (ai (ai nof rfl) rfl) (ai (ai (ai nof (ai rfl (fun _ _=>rfl))) rfl) (ai rfl (ai (ai nof rfl) rfl)))) trivial)
 ·trivial
 intro (k:Nat) ⟨hk,_⟩
 refine ah (p:=k<c.sts.length) (au (by omega)) (fun h1=>?_) (fun h1=>?_)
 ·refine ai (ai (abw _) (iN (n:=c.sts.length) (by omega))) (ai rfl ?_)
  refine ai (mxL (n:=k+1) (by omega) (by decide)) (ai (lt1 rfl) ?_)
  refine ei (k+1) (ai (ai rfl rfl) (ai (ai (ai rfl (ai (ai rfl rfl) (ai (ai rfl rfl) (ai (ai (ai (fun _=>rfl) (aH (by omega))) rfl) (ai (ai (ai (ai nof rfl) rfl) (ai (ai (ai nof (ai rfl (fun _ _=>rfl))) rfl) (ai (ai rfl (ai rfl (ai rfl ?_))) (ai (ai nof rfl) rfl)))) trivial))))) rfl) (ai (ai (iL (by omega)) trivial) (iM (by omega)))))
  exact af2 (stF c) k rfl
 obtain rfl:k=c.sts.length:=by omega
 refine ei (bg.inv { X:=Nat,up:=fun k=>[(34,.s (iA k))],uo:=fun k=>[⟨2,36,[.s (iA c.act),.s (.p false (ssP c.ins)),.rw 89 2 c.sts.length (stF c),.rw 123 5 k (trF c)]⟩],inv:=fun k=>k≤c.trs.length∧(True),meas:=fun k=>c.trs.length-k,x0:=0 }) ?_
 refine ai (ai (ai (by exact (a4 (ai rfl rfl))) (ai ?_ ?_)) rfl) (ai (ai (aeT _) ?_) ?_)
 ·exact (ai (ai (fun _=>rfl) (iE (by simp only[zz,reduceCtorEq];rfl))) rfl)
 ·exact (ai (ai (ai (ai nof rfl) rfl) (ai (ai (ai nof (ai rfl (fun _ _=>rfl))) rfl) (ai (ai rfl (ai rfl (ai rfl (fun _ _=>rfl)))) rfl))) trivial)
 ·trivial
 intro (k:Nat) ⟨hk,_⟩
 refine ah (p:=k<c.trs.length) (au (by omega)) (fun h1=>?_) (fun h1=>?_)
 ·refine ai (ai (abw _) (iN (n:=c.trs.length) (by omega))) (ai rfl ?_)
  refine ai (mxL (n:=k+1) (by omega) (by decide)) (ai (lt1 rfl) ?_)
  refine ei (k+1) (ai (ai rfl rfl) (ai (ai (ai rfl (ai (ai rfl rfl) (ai (ai rfl rfl) (ai (ai (ai (fun _=>rfl) (aH (by omega))) rfl) (ai (ai (ai (ai nof rfl) rfl) (ai (ai (ai nof (ai rfl (fun _ _=>rfl))) rfl) (ai (ai rfl (ai rfl (ai rfl (fun _ _=>rfl)))) (ai rfl (ai rfl (ai rfl ?_)))))) trivial))))) rfl) (ai (ai (iL (by omega)) trivial) (iM (by omega)))))
  exact af2 (trF c) k rfl
 obtain rfl:k=c.trs.length:=by omega
 refine ai (ai (fun h=>absurd (show false=true from h) (by decide)) ?_) trivial
 show ak _ (vG c)
 rw[show vG c=.agg [iP c.act,ssP c.ins,.seq c.sts.length (stF c),.seq c.trs.length (trF c)] from rfl]
 exact (ai rfl (ai (ai rfl (fun _ _=>rfl)) (ai (ai rfl (fun _ _=>rfl)) (ai rfl (fun _ _=>rfl)))))
def bbA (l:List (List Bool)):SV:=.p false (bbP l)
def al1 (l:List (List Bool)):Prop:=l.length≤1000000∧∀m∈l,m.length≤1000000
theorem aj5:aG Tryz.prog 33 (bM (fun a:List (List Bool)×List (List Bool)=>[bbA a.1,bbA a.2]) (fun a=>al1 a.1) (fun a=>bP (decide (a.1=a.2)))):=by
 refine aU (Tb:=tab) mixed ay Tryz.func33 rfl rfl ?_
 rintro (a:List (List Bool)×List (List Bool)) hpre
 refine ai (ai rfl (ai rfl rfl)) ?_
 obtain ⟨hl,hm⟩:=hpre
 have hl:a.1.length≤1000000:=hl
 refine aZ (p:=a.1.length=a.2.length) (bI (by omega)) (fun h1=>?_) (fun h1=>?_)
 ·refine ai (ai (fun _=>trivial) ?_) trivial
  show ak _ (bP (decide (a.1=a.2)))
  rw[decide_eq_false (fun h=>h1 (congrArg List.length h))]
  exact rfl
 refine ei (bg.inv { X:=Nat,up:=fun k=>[(5,.s (iA k))],uo:=fun k=>[],inv:=fun k=>k≤a.1.length∧(a.1.take k=a.2.take k),meas:=fun k=>a.1.length-k,x0:=0 }) ?_
 refine ai (ai (ai (by exact (a4 (ai rfl rfl))) (ai (by exact (ai (ai (fun _=>rfl) (iE (by simp only[zz,reduceCtorEq];rfl))) rfl)) (by exact trivial))) rfl) (ai (ai (aeT _) ?_) ?_)
 ·rfl
 intro (k:Nat) ⟨hk,hall⟩
 refine ah (p:=k<a.1.length) (au (by omega)) (fun h4=>?_) (fun h4=>?_)
 ·refine ei (.seq [0,1,2,3,4,5,6,7,8,9]) (ai (by kernel_rfl) ?_)
  refine ai (ai (abw _) (iN (n:=a.1.length) (by omega))) (ai rfl ?_)
  refine ai (ai (abw _) (iN (n:=a.2.length) (by omega))) (ai rfl ?_)
  refine ei _ (ai (ahE) (ei ((a.1.getD k [],a.2.getD k [])) (ei [] (ai (a4 (ai (fun _=>Or.inl rfl) (ai nof (Or.inl rfl)))) (ai (by exact (ai (ai rfl (fun _ _=>rfl)) (ai rfl (fun _ _=>rfl)))) (ai trivial (ai (hm _ (aeJ (bJ [] h4))) ?_)))))))
  refine aZ (p:=a.1.getD k []=a.2.getD k []) (by (show (!decide (a.1.getD k []=a.2.getD k []))=true↔_;simp)) (fun h5=>?_) (fun h5=>?_)
  ·refine ai (ai (fun _=>trivial) ?_) trivial
   show ak _ (bP (decide (a.1=a.2)))
   rw[decide_eq_false (fun h=>h5 (by rw[h]))]
   exact rfl
  refine ei (k+1) (ai (ai rfl rfl) (ai (ai (ai rfl (ai (ai rfl rfl) (ai (ai rfl rfl) (ai (ai (ai (fun _=>rfl) (aH (by omega))) rfl) trivial)))) rfl) (ai (ai (iL (by omega)) ?_) (iM (by omega)))))
  exact xD [] h4 (by omega) hall h5
 ·obtain rfl:k=a.1.length:=by omega
  rw[af0,h1,af0] at hall
  refine ai (ai (fun _=>trivial) ?_) trivial
  show ak _ (bP (decide (a.1=a.2)))
  rw[decide_eq_true hall]
  exact rfl
def qA (t:jK):Bool:=decide (t.fr.length≤40)&&(decide (t.to.length≤40)&&lD t.wh)
def jG (c:aN):Bool:=(decide (c.ins.length≤40)&&(decide (c.sts.length≤60)&&decide (c.trs.length≤60)))&&((c.ins.all fun t=>decide (t.length≤100))&&((c.sts.all fun x=>decide (x.st.length≤40))&&((c.trs.all qA)&&((decide (c.sts.length≤7)&&decide (c.trs.length≤9))||decide (¬bE c=0)))))
theorem xS {c:aN} (h:¬(c.ins.length≤40∧c.sts.length≤60∧c.trs.length≤60)):jG c=false:=by
 unfold jG
 rw[←aue,←aue,decide_eq_false h,aoH]
theorem amW {c:aN} (h:∃x∈c.ins,¬x.length≤100):jG c=false:=by
 obtain ⟨x,hx,h⟩:=h
 unfold jG
 rw[show (c.ins.all fun t=>decide (t.length≤100))=false from arP.2 ⟨x,hx,by simpa using h⟩,aoH,apT]
theorem ahf {c:aN} (h:∃x∈c.sts,¬x.st.length≤40):jG c=false:=by
 obtain ⟨x,hx,h⟩:=h
 unfold jG
 rw[show (c.sts.all fun x=>decide (x.st.length≤40))=false from arP.2 ⟨x,hx,by simpa using h⟩,aoH,apT,apT]
theorem yw {c:aN} (h:∃x∈c.trs,qA x=false):jG c=false:=by
 obtain ⟨x,hx,h⟩:=h
 unfold jG
 rw[show c.trs.all qA=false from arP.2 ⟨x,hx,by rw[h];decide⟩,aoH,apT,apT,apT]
theorem am8 {c:aN} (h1:c.ins.length≤40∧c.sts.length≤60∧c.trs.length≤60) (h2:∀x∈c.ins,x.length≤100) (h3:∀x∈c.sts,x.st.length≤40) (h4:∀x∈c.trs,qA x=true):jG c=((decide (c.sts.length≤7)&&decide (c.trs.length≤9))||decide (¬bE c=0)):=by
 unfold jG
 rw[←aue,←aue,decide_eq_true h1,aiC,show (c.ins.all fun t=>decide (t.length≤100))=true from ajw.2 fun x hx=>decide_eq_true (h2 x hx),aiC,show (c.sts.all fun x=>decide (x.st.length≤40))=true from ajw.2 fun x hx=>decide_eq_true (h3 x hx),aiC,ajw.2 h4,aiC]
theorem anm {t:jK} (h:qA t=true):t.fr.length≤40∧t.to.length≤40∧lD t.wh=true:=by
 unfold qA at h
 rw[agD,agD] at h
 exact ⟨of_decide_eq_true h.1,of_decide_eq_true h.2.1,h.2.2⟩
theorem ag6 {c:aN} (h1:c.ins.length≤40∧c.sts.length≤60∧c.trs.length≤60) (h3:∀x∈c.sts,x.st.length≤40) (h4:∀x∈c.trs,qA x=true):fC c:=by
 refine ⟨fun s hs=>?_,fun t ht=>?_⟩
 ·have:=h3 s hs;omega
 ·obtain ⟨h5,h6,h7⟩:=anm (h4 t ht)
  have:=amq h7
  exact ⟨by omega,by omega,by omega⟩
theorem arS (x:Int):decide (¬x=0)=(x != 0):=by
 by_cases h:x=0
 ·subst h;rfl
 ·rw[decide_eq_true h];exact (bne_iff_ne.2 h).symm
theorem am6:aG Tryz.prog 11 (bM (fun c:aN=>[iJ c]) (fun _=>True) (fun c=>bP (jG c))):=by
 refine aU (Tb:=tab) mixed ay Tryz.func11 rfl rfl ?_
 rintro (c:aN) hpre
 refine ai (ai rfl (ai rfl rfl)) ?_
 refine ah (p:=40<c.ins.length) (au (by omega)) (fun h1=>?_) (fun h1=>?_)
 ·refine ai (ai (fun _=>trivial) ?_) trivial
  show ak _ (bP (jG c))
  rw[xS (fun h=>absurd h.1 (by omega))]
  exact rfl
 refine ah (p:=60<c.sts.length) (au (by omega)) (fun h2=>?_) (fun h2=>?_)
 ·refine ai (ai (fun _=>trivial) ?_) trivial
  show ak _ (bP (jG c))
  rw[xS (fun h=>absurd h.2.1 (by omega))]
  exact rfl
 refine ah (p:=60<c.trs.length) (au (by omega)) (fun h3=>?_) (fun h3=>?_)
 ·refine ai (ai (fun _=>trivial) ?_) trivial
  show ak _ (bP (jG c))
  rw[xS (fun h=>absurd h.2.2 (by omega))]
  exact rfl
 have hs1:c.ins.length≤40∧c.sts.length≤60∧c.trs.length≤60:=⟨by omega,by omega,by omega⟩
 refine ei (bg.inv { X:=Nat,up:=fun k=>[(3,.s (iA k))],uo:=fun k=>[],inv:=fun k=>k≤c.ins.length∧(∀y∈c.ins.take k,y.length≤100),meas:=fun k=>c.ins.length-k,x0:=0 }) ?_
 refine ai (ai (ai (by exact (a4 (ai rfl rfl))) (ai (by exact (ai (ai (fun _=>rfl) (iE (by simp only[zz,reduceCtorEq];rfl))) rfl)) (by exact trivial))) rfl) (ai (ai (aeT _) ?_) ?_)
 ·exact fun y hy=>absurd hy (by simp)
 intro (k:Nat) ⟨hk,hall⟩
 refine ah (p:=k<c.ins.length) (au (by omega)) (fun h4=>?_) (fun h4=>?_)
 ·refine ai (ai (abw _) (iN (n:=c.ins.length) (by omega))) (ai rfl ?_)
  have hz:=dN (c.ins.getD k [])
  refine ah (p:=100<(c.ins.getD k []).length) (by exact au (by show (100:Int)<((strOf (c.ins.getD k [])).size:Int)↔_;rw[hz];omega)) (fun h5=>?_) (fun h5=>?_)
  ·refine ai (ai (fun _=>trivial) ?_) trivial
   show ak _ (bP (jG c))
   rw[amW ⟨_,aeJ (bJ [] h4),by omega⟩]
   exact rfl
  refine ei (k+1) (ai (ai rfl rfl) (ai (ai (ai rfl (ai (ai rfl rfl) (ai (ai rfl rfl) (ai (ai (ai (fun _=>rfl) (aH (by omega))) rfl) trivial)))) rfl) (ai (ai (iL (by omega)) ?_) (iM (by omega)))))
  intro y hy
  rw[aM [] h4] at hy
  rcases ahv.1 hy with hy | hy
  ·exact hall y hy
  ·simp only[aiz] at hy;subst hy;omega
 obtain rfl:k=c.ins.length:=by omega
 rw[af0] at hall
 have hins:=hall
 clear hall
 refine ei (bg.inv { X:=Nat,up:=fun k=>[(4,.s (iA k))],uo:=fun k=>[],inv:=fun k=>k≤c.sts.length∧(∀y∈c.sts.take k,y.st.length≤40),meas:=fun k=>c.sts.length-k,x0:=0 }) ?_
 refine ai (ai (ai (by exact (a4 (ai rfl rfl))) (ai (by exact (ai (ai (fun _=>rfl) (iE (by simp only[zz,reduceCtorEq];rfl))) rfl)) (by exact trivial))) rfl) (ai (ai (aeT _) ?_) ?_)
 ·exact fun y hy=>absurd hy (by simp)
 intro (k:Nat) ⟨hk,hall⟩
 refine ah (p:=k<c.sts.length) (au (by omega)) (fun h4=>?_) (fun h4=>?_)
 ·refine ai (ai (abw _) (iN (n:=c.sts.length) (by omega))) (ai rfl ?_)
  refine ah (p:=40<(c.sts.getD k st0).st.length) (by simp only[zz,reduceCtorEq];omega) (fun h5=>?_) (fun h5=>?_)
  ·refine ai (ai (fun _=>trivial) ?_) trivial
   show ak _ (bP (jG c))
   rw[ahf ⟨_,aeJ (bJ st0 h4),by omega⟩]
   exact rfl
  refine ei (k+1) (ai (ai rfl rfl) (ai (ai (ai rfl (ai (ai rfl rfl) (ai (ai rfl rfl) (ai (ai (ai (fun _=>rfl) (aH (by omega))) rfl) trivial)))) rfl) (ai (ai (iL (by omega)) ?_) (iM (by omega)))))
  intro y hy
  rw[aM st0 h4] at hy
  rcases ahv.1 hy with hy | hy
  ·exact hall y hy
  ·simp only[aiz] at hy;subst hy;omega
 obtain rfl:k=c.sts.length:=by omega
 rw[af0] at hall
 have hsts:=hall
 clear hall
 refine ei (bg.inv { X:=Nat,up:=fun k=>[(5,.s (iA k))],uo:=fun k=>[],inv:=fun k=>k≤c.trs.length∧(∀y∈c.trs.take k,qA y=true),meas:=fun k=>c.trs.length-k,x0:=0 }) ?_
 refine ai (ai (ai (by exact (a4 (ai rfl rfl))) (ai (by exact (ai (ai (fun _=>rfl) (iE (by simp only[zz,reduceCtorEq];rfl))) rfl)) (by exact trivial))) rfl) (ai (ai (aeT _) ?_) ?_)
 ·exact fun y hy=>absurd hy (by simp)
 intro (k:Nat) ⟨hk,hall⟩
 refine ah (p:=k<c.trs.length) (au (by omega)) (fun h4=>?_) (fun h4=>?_)
 ·refine ai (ai (abw _) (iN (n:=c.trs.length) (by omega))) (ai rfl ?_)
  refine ah (p:=40<(c.trs.getD k aD).fr.length) (by simp only[zz,reduceCtorEq];omega) (fun h5=>?_) (fun h5=>?_)
  ·refine ai (ai (fun _=>trivial) ?_) trivial
   show ak _ (bP (jG c))
   rw[yw ⟨_,aeJ (bJ aD h4),by unfold qA;rw[decide_eq_false (by omega),aoH]⟩]
   exact rfl
  refine ah (p:=40<(c.trs.getD k aD).to.length) (by simp only[zz,reduceCtorEq];omega) (fun h6=>?_) (fun h6=>?_)
  ·refine ai (ai (fun _=>trivial) ?_) trivial
   show ak _ (bP (jG c))
   rw[yw ⟨_,aeJ (bJ aD h4),by unfold qA;rw[decide_eq_false (p:=(c.trs.getD k aD).to.length≤40) (by omega),aoH,apT]⟩]
   exact rfl
  refine ei _ (ai (aqU) (ei ((c.trs.getD k aD).wh) (ei [] (ai (a4 (ai (fun _=>Or.inl rfl) (ai nof (Or.inl rfl)))) (ai (by exact (ai (iE (by simp only[zz,reduceCtorEq])) (ai (iE (by simp only[zz,reduceCtorEq])) (ai rfl (fun _ _=>rfl))))) (ai trivial (ai (trivial) ?_)))))))
  refine aR (b:=!lD (c.trs.getD k aD).wh) rfl (fun h7=>?_) (fun h7=>?_)
  ·have h7:lD (c.trs.getD k aD).wh=false:=by simpa using h7
   refine ai (ai (fun _=>trivial) ?_) trivial
   show ak _ (bP (jG c))
   rw[yw ⟨_,aeJ (bJ aD h4),by unfold qA;rw[h7,apT,apT]⟩]
   exact rfl
  have h7:lD (c.trs.getD k aD).wh=true:=by simpa using h7
  refine ei (k+1) (ai (ai rfl rfl) (ai (ai (ai rfl (ai (ai rfl rfl) (ai (ai rfl rfl) (ai (ai (ai (fun _=>rfl) (aH (by omega))) rfl) trivial)))) rfl) (ai (ai (iL (by omega)) ?_) (iM (by omega)))))
  intro y hy
  rw[aM aD h4] at hy
  rcases ahv.1 hy with hy | hy
  ·exact hall y hy
  ·simp only[aiz] at hy;subst hy;unfold qA;rw[decide_eq_true (by omega),decide_eq_true (by omega),h7];rfl
 obtain rfl:k=c.trs.length:=by omega
 rw[af0] at hall
 have hy:=am8 hs1 hins hsts hall
 have ho:=ag6 hs1 hsts hall
 refine ah (p:=c.sts.length≤7) (cO (by omega)) (fun h4=>?_) (fun h4=>?_)
 ·refine ah (p:=c.trs.length≤9) (cO (by omega)) (fun h5=>?_) (fun h5=>?_)
  ·refine ai (ai (fun _=>trivial) ?_) trivial
   show ak _ (bP (jG c))
   rw[hy,decide_eq_true h4,decide_eq_true h5,aiC,ajz]
   exact rfl
  ·refine ei _ (ai (ael) (ei (c) (ei [] (ai (a4 (ai (fun _=>Or.inl rfl) (ai nof (Or.inl rfl)))) (ai (by exact (ai rfl (ai (ai rfl (fun _ _=>rfl)) (ai (ai rfl (fun _ _=>rfl)) (ai rfl (fun _ _=>rfl)))))) (ai trivial (ai (ho) ?_)))))))
   refine ai (ai (fun _=>trivial) ?_) trivial
   show ak _ (bP (jG c))
   rw[hy,decide_eq_false h5,apT,aoO,arS (bE c)]
   exact rfl
 ·refine ei _ (ai (ael) (ei (c) (ei [] (ai (a4 (ai (fun _=>Or.inl rfl) (ai nof (Or.inl rfl)))) (ai (by exact (ai rfl (ai (ai rfl (fun _ _=>rfl)) (ai (ai rfl (fun _ _=>rfl)) (ai rfl (fun _ _=>rfl)))))) (ai trivial (ai (ho) ?_)))))))
  refine ai (ai (fun _=>trivial) ?_) trivial
  show ak _ (bP (jG c))
  rw[hy,decide_eq_false h4,aoH,aoO,arS (bE c)]
  exact rfl
theorem apy {c:aN} (h:jG c=true):fC c∧anc c∧c.ins.length≤1000000:=by
 by_cases h1:c.ins.length≤40∧c.sts.length≤60∧c.trs.length≤60
 ·by_cases h3:∀x∈c.sts,x.st.length≤40
  ·by_cases h4:∀x∈c.trs,qA x=true
   ·exact ⟨ag6 h1 h3 h4,⟨by omega,by omega⟩,by omega⟩
   ·simp only[Classical.not_forall] at h4
    obtain ⟨x,hx,h4⟩:=h4
    rw[yw ⟨x,hx,by simpa using h4⟩] at h;cases h
  ·simp only[Classical.not_forall] at h3
   obtain ⟨x,hx,h3⟩:=h3
   rw[ahf ⟨x,hx,h3⟩] at h;cases h
 ·rw[xS h1] at h;cases h
def p10:Array Value:=(Lib.pow10Tab.map fun z=>Value.int .u64 z).toArray
def glP:List (Nat×Array Value):=[(0,p10)]
def fnG {α:Type} (args:α→List SV) (pre:α→Prop) (res:α→PV):Spec:={ A:=α,args:=args,objs:=fun _=>[],pre:=pre,res:=res,objs':=fun _=>[],fresh:=true,ro:=0,gl:=glP }
theorem as5 {w:World} (h:∀p∈glP,∃T fr,w.heap[p.1]?=some (.cells p.2 T fr)):Lib.TabIs Tryz.prog w "internal/strconv.uint64pow10" .u64 Lib.pow10Tab:=by
 obtain ⟨T,fr,hw⟩:=h _ (aiz.2 rfl)
 have hg:Tryz.prog.globalNamed "internal/strconv.uint64pow10"=some 0:=by kernel_rfl
 show World.var? _ w _=_
 unfold World.var?
 rw[hg]
 show (match w.heap[0]? with | some (.cells cs _ _)=>some cs | _=>none)=_
 rw[show w.heap[0]?=some (.cells p10 T fr) from hw]
 rfl
theorem ag1:aG Tryz.prog 79 (fnG (fun n:Nat=>[iA n]) (fun n=>n≤1000000) (fun n=>sP (dec n))):=
 ajj (gl:=glP) Tryz.func79 rfl rfl (vals:=fun n:Nat=>[.int .i64 n]) (pre:=fun n=>n≤1000000) (ret:=fun n=>.string (strOf (dec n))) (fun _ _=>rfl) fun n hn w h=>by
  refine (Tryz.strconv_Itoa n (by omega) (by have:n≤1000000:=hn;omega) w (as5 h)).mono fun e w' hh=>?_
  obtain ⟨h1,k,os,rfl⟩:=hh
  refine ⟨?_,?_⟩
  ·rw[h1]
   have:Lib.itoa (n:Int)=dec n:=by unfold Lib.itoa;rw[if_neg (by omega)];rfl
   rw[this];rfl
  ·exact ⟨rfl,rfl,rfl,by simp[Sort.grow],fun k hk=>by rw[Sort.heap_grow_old _ _ (by exact hk)];rfl⟩
def om (x:Sk):List UInt8:=[UInt8.ofNat (65+x.1.toNat),if x.2 then 43 else 45]
theorem akK:aG Tryz.prog 138 (bM (fun x:Sk=>[skA x]) (fun x=>0≤x.1∧x.1<6) (fun x=>sP (om x))):=by
 refine aU (Tb:=tab) mixed ay Tryz.func138 rfl rfl ?_
 rintro ⟨n,b⟩ hpre
 refine ai (ai rfl (ai rfl rfl)) ?_
 obtain ⟨h0,h6⟩:=hpre
 have h0:0≤n:=h0
 have h6:n<6:=h6
 obtain ⟨d,rfl⟩:∃d:Nat,n=(d:Int):=⟨n.toNat,by omega⟩
 have hv:IntKind.i32.wrap (IntKind.i64.wrap (65+(d:Int)))=((65+d:Nat):Int):=by
  rw[wrI (n:=65+(d:Int)) (by omega) (by omega)]
  simp[IntKind.wrap,IntKind.bits,IntKind.signed]<;>omega
 refine ai (by show 0≤IntKind.i32.wrap (IntKind.i64.wrap (65+(d:Int)))∧IntKind.i32.wrap (IntKind.i64.wrap (65+(d:Int)))<128;rw[hv];omega) ?_
 have hx:(⟨#[UInt8.ofNat (IntKind.i32.wrap (IntKind.i64.wrap (65+(d:Int)))).toNat]⟩:ByteArray)=strOf [UInt8.ofNat (65+d)]:=by rw[hv];rfl
 have hxs:(((((⟨#[UInt8.ofNat (IntKind.i32.wrap (IntKind.i64.wrap (65+(d:Int)))).toNat]⟩:ByteArray)).size+1:Nat)):Int)≤9223372036854775807:=by rw[hx,dN];show ((1+1:Nat):Int)≤_;decide
 refine aR (b:=b) rfl (fun h=>?_) (fun h=>?_)
 ·refine ai hxs ?_
  refine ai (ai (fun _=>trivial) ?_) trivial
  show ak _ (sP (om ((d:Int),b)))
  rw[show om ((d:Int),b)=[UInt8.ofNat (65+d)]++[43] by unfold om;rw[h];rfl,show sP ([UInt8.ofNat (65+d)]++[43])=.val (.string ((⟨#[UInt8.ofNat (IntKind.i32.wrap (IntKind.i64.wrap (65+(d:Int)))).toNat]⟩:ByteArray)++strOf [43])) by rw[hx,eU];rfl]
  exact rfl
 ·refine ai hxs ?_
  refine ai (ai (fun _=>trivial) ?_) trivial
  show ak _ (sP (om ((d:Int),b)))
  rw[show om ((d:Int),b)=[UInt8.ofNat (65+d)]++[45] by unfold om;rw[h];rfl,show sP ([UInt8.ofNat (65+d)]++[45])=.val (.string ((⟨#[UInt8.ofNat (IntKind.i32.wrap (IntKind.i64.wrap (65+(d:Int)))).toNat]⟩:ByteArray)++strOf [45])) by rw[hx,eU];rfl]
  exact rfl
def adJ (x:Sk):Int:=if 0≤x.1∧x.1<6 then 0 else 2
theorem apn:aG Tryz.prog 137 (bM (fun x:Sk=>[skA x]) (fun _=>True) (fun x=>iP (adJ x))):=by
 refine aU (Tb:=tab) mixed ay Tryz.func137 rfl rfl ?_
 rintro (x:Sk) hpre
 refine ai (ai rfl (ai rfl rfl)) ?_
 refine ei _ (ai (aeS) (ei (x.1) (ei [] (ai (a4 (ai (fun _=>Or.inl rfl) (ai nof (Or.inl rfl)))) (ai (by exact rfl) (ai trivial (ai (trivial) ?_)))))))
 refine aR (b:=!(decide (0≤x.1)&&decide (x.1<6))) rfl (fun h=>?_) (fun h=>?_)
 ·have h:¬(0≤x.1∧x.1<6):=fun e=>by rw[decide_eq_true e.1,decide_eq_true e.2] at h;cases h
  refine ai (ai (fun _=>trivial) ?_) trivial
  show ak _ (iP (adJ x))
  rw[adJ,if_neg h]
  exact rfl
 ·have h:0≤x.1∧x.1<6:=by
   have h:(decide (0≤x.1)&&decide (x.1<6))=true:=by simpa using h
   rw[agD] at h
   exact ⟨of_decide_eq_true h.1,of_decide_eq_true h.2⟩
  refine ai (ai (fun _=>trivial) ?_) trivial
  show ak _ (iP (adJ x))
  rw[adJ,if_pos h]
  exact rfl
theorem agK:aG Tryz.prog 80 (gX (fun x:Sk=>[skA x]) (fun x=>0≤x.1∧x.1<6) (fun x=>.tup [sP (om x),iP 0])):=by
 refine aU (Tb:=tab) mixed ay Tryz.func80 rfl rfl ?_
 rintro (x:Sk) hpre
 refine ai (ai rfl (ai rfl rfl)) ?_
 obtain ⟨h0,h6⟩:=hpre
 have h0:0≤x.1:=h0
 have h6:x.1<6:=h6
 refine ei _ (ai (apn) (ei (x) (ei [] (ai (a4 (ai (fun _=>Or.inl rfl) (ai nof (Or.inl rfl)))) (ai (by exact (ai rfl rfl)) (ai trivial (ai (trivial) ?_)))))))
 refine aZ (p:=adJ x=0) (bI (by omega)) (fun h=>?_) (fun h=>?_)
 ·exact absurd (if_pos ⟨h0,h6⟩) h
 refine ei _ (ai (akK) (ei (x) (ei [] (ai (a4 (ai (fun _=>Or.inl rfl) (ai nof (Or.inl rfl)))) (ai (by exact (ai rfl rfl)) (ai trivial (ai (⟨h0,h6⟩) ?_)))))))
 refine ai (ai (fun _=>(by exact (ai trivial trivial))) ?_) trivial
 exact (ai rfl rfl)
def spI (l:List Int):List UInt8:=l.flatMap fun x=>dec x.toNat++[32]
theorem wP {n:Nat} (h:n<100):(dec n).length≤2:=by
 have:∀n:Fin 100,(Lib.decDigits n.1).length≤2:=by decide +kernel
 exact this ⟨n,h⟩
theorem apZ {l:List Int} (h:eP 100 l):(spI l).length≤3*l.length:=by
 induction l with
 | nil=>simp[spI]
 | cons x l ih=>
  have h1:0≤x∧x<100:=h x (by simp)
  have h2:=ih fun y hy=>h y (by simp[hy])
  have h3:=wP (n:=x.toNat) (by omega)
  show ((dec x.toNat++[32])++spI l).length≤_
  simp only[abg,ai6,aox];omega
theorem aP {μ:Nat→Option (Array Value)} {u v:Value} (h:aQ μ u (.val v)):u=v:=by cases h;rfl
def ap5 (a:List (List UInt8)×List UInt8):Prop:=a.1.length≤1000000∧(Lib.join a.1 a.2).length≤140737488355328
theorem ao6:aG Tryz.prog 143 (bM (fun a:List (List UInt8)×List UInt8=>[ssA a.1,sA a.2]) ap5 (fun a=>sP (Lib.join a.1 a.2))):=by
 refine ⟨⟨_,Tryz.func143,rfl,rfl⟩,fun a hpre E vs w _ hh hA=>?_⟩
 obtain ⟨l,sep⟩:=a
 obtain ⟨hll,hpre⟩:=hpre
 have hll:l.length≤1000000:=hll
 have hpre:(Lib.join l sep).length≤140737488355328:=hpre
 obtain ⟨hsz,hA⟩:=hA
 have hsz:vs.size=2:=hsz
 have hp:∀{u:Value} {d:PV},aO E u (.p false d)→aQ (E.m false) u d:=fun hx=>by cases hx with | p _ _ _ hp=>exact hp
 have h0:aQ (E.m false) (vs[0]'(by omega)) (ssP l):=hp (hA 0 _ _ (aeV (by omega)) rfl)
 have h1:vs[1]'(by omega)=.string (strOf sep):=aP (hp (hA 1 _ (sA sep) (aeV (by omega)) rfl))
 have hvs:vs=#[vs[0]'(by omega),.string (strOf sep)]:=by
  apply atK
  intro k
  match k with
  | 0=>rw[aeV (by omega)];rfl
  | 1=>rw[aeV (by omega),h1];rfl
  | k+2=>rw[amt (by omega)];simp
 generalize hv0:vs[0]'(by omega)=v0 at *
 clear h1 hv0 hA
 subst hvs
 have key:∀{n:Nat} {f:Nat→List PV},aQ (E.m false) v0 (.seq n f)→n=l.length→f=(fun k=>[sP (l.getD k [])])→Calls Tryz.prog 143 #[v0,.string (strOf sep)] w fun e w'=>e=.returned (.string (strOf (Lib.join l sep)))∧Go.RowKit.Below w.heap.size w w':=by
  intro n f h hn hf
  cases h with
  | nil=>
   obtain rfl:l=[]:=aqy.1 hn.symm
   exact (Tryz.strings_Join_none none 0 (strOf sep) w).mono fun e w' ⟨h1,h2⟩=>by subst h2;exact ⟨h1,RowKit.Below.refl _ _⟩
  | emp a c=>
   obtain rfl:l=[]:=aqy.1 hn.symm
   exact (Tryz.strings_Join_none (some a) c (strOf sep) w).mono fun e w' ⟨h1,h2⟩=>by subst h2;exact ⟨h1,RowKit.Below.refl _ _⟩
  | seq b o _ cap sz _ cs u hm hcap hmax hl hc he=>
   subst hn;subst hf
   obtain ⟨T,fr,hw⟩:=hh.mem _ _ hm
   have hcell:∀(j:Nat) x,(l.map strOf)[j]?=some x→w.cell? ⟨b,o+j,none⟩=some (.string x):=by
    intro j x hx
    rw[ajv] at hx
    obtain ⟨y,hy,rfl⟩:=atl.1 hx
    have hj:j<l.length:=(abF.1 hy).1
    have hg:l.getD j []=y:=by rw[abl,hy];rfl
    have hs1:1=sz:=hl j hj
    subst hs1
    have h2:=hc j 0 (sP (l.getD j [])) hj rfl
    have h3:=aP (he j 0 (sP (l.getD j [])) hj rfl)
    rw[h3,hg] at h2
    have h4:=h2.1
    rw[aoD,asE] at h4
    simp[World.cell?,hw,h4]
   have e:(l.map strOf).map (·.data.toList)=l:=by
    rw[List.map_map]
    exact (List.map_congr_left fun x _=>rfl).trans (List.map_id l)
   have hb:b<w.heap.size:=by
    rcases arU b w.heap.size with h | h
    ·exact h
    ·rw[amt h] at hw;cases hw
   have:=Tryz.strings_Join b o cap (l.map strOf) (strOf sep) w hcell hb (by rw[aot];omega) (by rw[aot];exact hcap) (by rw[e];exact hpre)
   rw[aot,e] at this
   exact this.mono fun e w' ⟨h1,h2⟩=>⟨h1,h2⟩
 exact (key h0 rfl rfl).mono fun e w' ⟨he,hw⟩=>⟨_,E,he,.val _,hh.below hw⟩
def mE (l:List Int):List (List UInt8):=l.map fun x=>dec x.toNat
def inT (l:List Int):List UInt8:=Lib.join (mE l) [32]
theorem aiD:∀{l:List Int},l≠[]→spI l=inT l++[32]
 | [],h=>absurd rfl h
 | [x],_=>by show (dec x.toNat++[32])++[]=_;simp[inT,mE,Lib.join]
 | x :: y :: l,_=>by
  have:=aiD (l:=y :: l) (by simp)
  show (dec x.toNat++[32])++spI (y :: l)=_
  rw[this]
  simp[inT,mE,Lib.join,List.intercalate_cons_cons]
theorem ad6 {l:List Int} (h:eP 100 l):(inT l).length≤3*l.length:=by
 by_cases hl:l=[]
 ·subst hl;simp[inT,mE,Lib.join]
 ·have:=apZ h
  rw[aiD hl,abg] at this;omega
theorem ads:aG Tryz.prog 83 (bM (fun l:List Int=>[isA l]) (fun l=>eP 100 l∧l.length≤1000) (fun l=>sP (inT l))):=by
 refine aU (Tb:=tab) mixed ay Tryz.func83 rfl rfl ?_
 rintro (l:List Int) hpre
 refine ai (ai rfl (ai rfl rfl)) ?_
 obtain ⟨hx,hl⟩:=hpre
 have hx:eP 100 l:=hx
 have hl:l.length≤1000:=hl
 refine ei (bg.inv { X:=Nat,up:=fun k=>[(8,.s (iA k)),(3,ssR (mE (l.take k)))],uo:=fun k=>[],inv:=fun k=>k≤l.length∧(True),meas:=fun k=>l.length-k,x0:=0 }) ?_
 refine ai (ai (ai (by exact (a4 (ai rfl rfl))) (ai (by exact (ai (ai (ai (fun _=>rfl) (iE (by simp only[zz,reduceCtorEq];rfl))) rfl) rfl)) (by exact trivial))) rfl) (ai (ai (aeT _) ?_) ?_)
 ·trivial
 intro (k:Nat) ⟨hk,_⟩
 have hdl:(mE (l.take k)).length=k:=by unfold mE;rw[aot,aja];omega
 refine ah (p:=k<l.length) (au (by omega)) (fun h1=>?_) (fun h1=>?_)
 ·refine ai (ai (abw _) (iN (n:=l.length) (by omega))) (ai rfl ?_)
  have hk1:=jw hx h1
  obtain ⟨d,hd⟩:∃d:Nat,l.getD k 0=(d:Int):=⟨(l.getD k 0).toNat,by omega⟩
  have e:mE (l.take (k+1))=mE (l.take k)++[dec d]:=by rw[aM 0 h1];unfold mE;rw[asz,hd];rfl
  refine ei _ (ai (xq) (ei (d) (ei [] (ai (a4 (ai (fun _=>Or.inl rfl) (ai nof (Or.inl rfl)))) (ai ?_ (ai (by exact trivial) (ai ((by show d<100;omega)) ?_)))))))
  ·exact (iE (by simp only[zz,reduceCtorEq];omega))
  refine ai (afF (by show (mE (l.take k)).length+1≤10000;omega)) (ai (aK 1 rfl) ?_)
  refine ei (k+1) (ai (ai rfl rfl) (ai (ai (ai rfl (ai (ai rfl rfl) (ai (ai rfl rfl) (ai (ai (ai (ai (fun _=>rfl) (aH (by omega))) rfl) (ai rfl (ai rfl (ai ?_ ?_)))) trivial)))) rfl) (ai (ai (iL (by omega)) trivial) (iM (by omega)))))
  all_goals rw[e]
  ·rw[abg];rfl
  ·exact fun j hj=>aa1 (a:=mE (l.take k)) (b:=[dec d]) (n:=(mE (l.take k)).length) (f:=fun k=>[sP ((mE (l.take _)).getD k [])]) rfl (fun _ _=>rfl) (ajb rfl) j (by rw[abg];exact hj)
 ·obtain rfl:k=l.length:=by omega
  have et:l.take l.length=l:=af0
  refine ei _ (ai (ao6) (ei ((mE (l.take l.length),[32])) (ei [] (ai (ai rfl (ai rfl (ai rfl (ai rfl (ai (fun _=>Or.inl rfl) (ai (fun _=>ai rfl rfl) (Or.inl rfl))))))) (ai (by exact (ai (ai rfl (fun _ _=>rfl)) rfl)) (ai trivial (ai (⟨by show (mE (l.take l.length)).length≤1000000;omega,by show (Lib.join (mE (l.take l.length)) [32]).length≤140737488355328;rw[et];have:=ad6 hx;unfold inT at this;omega⟩) ?_)))))))
  refine ai (ai (fun _=>trivial) ?_) trivial
  show ak _ (sP (inT l))
  rw[show inT l=Lib.join (mE (l.take l.length)) [32] by rw[et];rfl]
  exact rfl
end Go.Sx.Pe
namespace Go.Sx.Pe
open Go Go.Proofs Go.RowKit Go.Sx.Pn
theorem cell_of {w:World} {b:Nat} {vs:Array Value} {T:TypeId} {off:Nat} {v:Value} (h:w.heap[b]?=some (.cells vs T (0,0))) (hv:vs[off]?=some v):w.cell? ⟨b,off,none⟩=some v:=by
 simp[World.cell?,h,hv]
theorem afU {w:World} {b:Nat} {vs:Array Value} {T:TypeId} (h:w.heap[b]?=some (.cells vs T (0,0))):w.shape? b=some (T,vs.size):=by
 simp[World.shape?,h]
theorem amj {w:World} {b off:Nat} {vs:Array Value} {T:TypeId} (h:w.heap[b]?=some (.cells vs T (0,0))):w.frozen? ⟨b,off,none⟩=false:=by
 simp[World.frozen?,h]
set_option maxRecDepth 100000 in
theorem an3 (b:Nat) (w:World) (h0:w.cell? ⟨b,0,none⟩=some (.pointer (some ⟨b,0,none⟩))) :
  Calls Tryz.prog 135 #[.pointer (some ⟨b,0,none⟩)] w fun e w'=>e=.returned (.tuple #[])∧w'=w:=by
 obtain ⟨j,hj,_⟩:=atl.1 (show (Tryz.prog.info? 143).map (·.size)=some 2 by kernel_rfl)
 go_enter Tryz.func135,Tryz.ntmps135
 go_wp2
 rw[Lib.run_neq_ptr_same w _ Tryz.underlying140 hj]
 go_wp2
 go_end0
 exact ⟨rfl,rfl⟩
set_option maxRecDepth 100000 in
theorem alA (T n b:Nat) (hlies:liesAt Tryz.prog Tryz.prog.depth T (n / Tryz.prog.cellsOf T) 0 143 1=true) (hn:0<n) (w:World) (h0:w.cell? ⟨b,0,none⟩=some (.pointer none)) (hsh:w.shape? b=some (T,n)) (hfz:w.frozen? ⟨b,0,none⟩=false) :
  Calls Tryz.prog 135 #[.pointer (some ⟨b,0,none⟩)] w fun e w'=>e=.returned (.tuple #[])∧w'=w.setCell ⟨b,0,none⟩ (.pointer (some ⟨b,0,none⟩)):=by
 obtain ⟨j,hj,hjs⟩:=atl.1 (show (Tryz.prog.info? 143).map (·.size)=some 2 by kernel_rfl)
 go_enter Tryz.func135,Tryz.ntmps135
 go_wp2
 rw[Lib.run_to_unsafe w ⟨b,0,none⟩ Tryz.underlying140 Tryz.underlying226 hj (by rw[hjs];decide) hsh hn]
 simp only[Result.andThen]
 rw[Oper.upon_value]
 go_wp2
 rw[run_callFunc_extern Tryz.func166 (by kernel_rfl) (by kernel_rfl) (by kernel_rfl) (e:=Extern.AbiNoEscape.same) (by kernel_rfl)]
 rw[Lib.run_noEscape]
 simp only[Result.andThen]
 rw[Oper.upon_value]
 go_wp2
 rw[Lib.run_from_unsafe w ⟨b,0,none⟩ Tryz.underlying226 Tryz.underlying140 hj hsh hlies]
 simp only[Result.andThen]
 rw[Oper.upon_value]
 go_wp2
 go_end0
 exact ⟨rfl,rfl⟩
theorem ahJ (T n:Nat) (hlies:liesAt Tryz.prog Tryz.prog.depth T (n / Tryz.prog.cellsOf T) 0 143 1=true) (hn:0<n):acB Tryz.prog 135 T n:=
 ⟨⟨_,Tryz.func135,rfl,rfl⟩,fun b vs w hw hs=>⟨fun h0=>alA T n b hlies hn w (cell_of hw h0) (by rw[afU hw,hs]) (amj hw),fun h0=>an3 b w (cell_of hw h0)⟩⟩
theorem afM:acB Tryz.prog 135 143 2:=ahJ _ _ (by kernel_rfl) (by decide)
theorem aoI:acB Tryz.prog 135 202 3:=ahJ _ _ (by kernel_rfl) (by decide)
set_option maxRecDepth 100000 in
theorem ajD (T n:Nat):aoz Tryz.prog 84 T n 5:=by
 refine ⟨⟨_,Tryz.func84,rfl,rfl⟩,fun b vs w g cap cur l hw hs h1 hg hnc hcm hcs hcell h0=>?_⟩
 have hl0:l.length≠0:=by simpa using h0
 have c1:w.drew.cell? ⟨b,1,none⟩=some (.slice (some ⟨g,0,none⟩) l.length cap):=cell_of (w:=w.drew) hw h1
 have hSD:(Builtin.unsafeSliceData_ #[141] 206 #[.slice (some ⟨g,0,none⟩) l.length cap]).run Tryz.prog w.drew=.ok (.pointer (some ⟨g,0,none⟩)) w.drew:=
  Lib.run_unsafeSliceData_row _ _ _ _ _ _ (by omega)
 have hUS:(Builtin.unsafeString_ #[206,3] 9 #[.pointer (some ⟨g,0,none⟩),.int .i64 l.length]).run Tryz.prog w.drew=.ok (.string ⟨l.toArray⟩) (w.drew.freeze ⟨g,0,none⟩ l.length):=by
  refine Lib.run_unsafeString_row w.drew 206 3 9 5 Tryz.underlying206 (by kernel_rfl) g cur.size (afU (w:=w.drew) hg) l h0 (by omega) (by unfold maxLen at hcm;omega) ?_
  intro j x hx
  rw[Addr.add_lit]
  exact cell_of (w:=w.drew) hg (by rw[ahH];exact hcell j x hx)
 have mixed:=mixed
 go_enter Tryz.func84,Tryz.ntmps84
 go_wp2
 go_region_o
 all_goals (go_wp2;go_ret;exact ⟨rfl,rfl⟩)
end Go.Sx.Pe
namespace Go.Sx.Pe
open Go Go.Proofs Go.Sx.Pn
def oQ (l:List UInt8):Ob:=.row 5 1 l.length (fun k=>[cP (l.getD k 0)])
def aqu:SV:=.p false (.val .nilIface)
theorem nI {a b:List UInt8} {n:Nat} {f g:Nat→List PV} (hn:n=a.length) (hf:∀k,k<a.length→f k=[cP (a.getD k 0)]) (hg:∀k,k<b.length→g k=[cP (b.getD k 0)]):∀k,k<(a++b).length→bQ n f g k=[cP ((a++b).getD k 0)]:=by
 intro k hk
 subst hn
 unfold bQ
 by_cases h:k<a.length
 ·rw[if_pos h,hf k h,abl,abl,afs h]
 ·have hb:k-a.length<b.length:=by rw[abg] at hk;omega
  rw[if_neg h,hg _ hb,abl,abl,ag4 (by omega)]
theorem one_byte {c:UInt8}:∀k,k<[c].length→bn 1 [cP c] k=[cP ([c].getD k 0)]:=by
 intro k hk
 have hk:k<1:=hk
 obtain rfl:k=0:=by omega
 rfl
theorem vJ (l:List UInt8):∀k,kF (strOf l) k=[cP (l.getD k 0)]:=by
 intro k
 show [PV.val (.int .u8 ((strOf l).data.getD k 0).toNat)]=_
 have:(strOf l).data.getD k 0=l.getD k 0:=by
  show l.toArray.getD k 0=_
  simp[ae4]
 rw[this];rfl
theorem ahd (l:List UInt8):(strOf l).size=l.length:=by
 show l.toArray.size=_
 simp
def adr:Bool→SV
 | true=>.own 0 0
 | false=>.p false (.val (.pointer none))
def bld (T:Nat) (rest:List SV) (st:Bool:=true):Ob:=.cells T (adr st :: .row 1 :: rest)
abbrev NM := List (List UInt8)
def wbG (T:Nat) (rest:NM→List SV):rz:={ A:=Bool×NM×List UInt8×UInt8,fix:=1,args:=fun a=>[.own 0 0,cA a.2.2.2],objs:=fun a=>[bld T (rest a.2.1) a.1,oQ a.2.2.1],pre:=fun a=>a.2.2.1.length≤1000000,res:=fun _=>aqu,objs':=fun a=>[bld T (rest a.2.1),oQ (a.2.2.1++[a.2.2.2])],inl:=[135] }
def wsG (T:Nat) (rest:NM→List SV):rz:={ A:=Bool×NM×List UInt8×List UInt8,fix:=1,args:=fun a=>[.own 0 0,sA a.2.2.2],objs:=fun a=>[bld T (rest a.2.1) a.1,oQ a.2.2.1],pre:=fun a=>a.2.2.1.length≤1000000∧a.2.2.2.length≤1000000,res:=fun a=>.tup [iA a.2.2.2.length,aqu],objs':=fun a=>[bld T (rest a.2.1),oQ (a.2.2.1++a.2.2.2)],inl:=[135] }
def noR:NM→List SV:=fun _=>[]
def nmR:NM→List SV:=fun l=>[ssA l]
theorem uD:jT Tryz.prog 78 (wsG 143 noR):=by
 refine qg (Tb:=tab) mixed ay Tryz.func78 rfl rfl ?_
 rintro ⟨st,a⟩ hpre
 refine ai (ai rfl (ai rfl rfl)) ?_
 have hl:a.2.1.length≤1000000:=hpre.1
 have hl2:a.2.2.length≤1000000:=hpre.2
 have hz:=ahd a.2.2
 cases st with
 | true=>
  refine ug afM rfl rfl rfl (.inl rfl) ?_
  refine ai (ai (ai rfl rfl) (ai (by show a.2.1.length+_≤_;rw[hz];unfold maxLen;omega) (by show a.2.1.length+_≤_;rw[hz];omega))) ?_
  refine ei [0,2] (ai (ai rfl (ai rfl rfl)) (ai ?_ ?_))
  ·exact (ai (iE (by simp only[zz,reduceCtorEq];rfl)) rfl)
  ·refine (ai (ai rfl (ai (ai rfl rfl) rfl)) (ai rfl (ai rfl (ai ?_ ?_))))
   ·show a.2.1.length+(strOf a.2.2).size=(a.2.1++a.2.2).length
    rw[hz,abg]
   ·exact nI rfl (fun _ _=>rfl) (fun k _=>vJ _ k)
 | false=>
  refine ug afM rfl rfl rfl (.inr ⟨_,rfl⟩) ?_
  refine ai (ai (ai rfl rfl) (ai (by show a.2.1.length+_≤_;rw[hz];unfold maxLen;omega) (by show a.2.1.length+_≤_;rw[hz];omega))) ?_
  refine ei [0,2] (ai (ai rfl (ai rfl rfl)) (ai ?_ ?_))
  ·exact (ai (iE (by simp only[zz,reduceCtorEq];rfl)) rfl)
  ·refine (ai (ai rfl (ai (ai rfl rfl) rfl)) (ai rfl (ai rfl (ai ?_ ?_))))
   ·show a.2.1.length+(strOf a.2.2).size=(a.2.1++a.2.2).length
    rw[hz,abg]
   ·exact nI rfl (fun _ _=>rfl) (fun k _=>vJ _ k)
theorem ahV:jT Tryz.prog 78 (wsG 202 nmR):=by
 refine qg (Tb:=tab) mixed ay Tryz.func78 rfl rfl ?_
 rintro ⟨st,a⟩ hpre
 refine ai (ai rfl (ai rfl rfl)) ?_
 have hl:a.2.1.length≤1000000:=hpre.1
 have hl2:a.2.2.length≤1000000:=hpre.2
 have hz:=ahd a.2.2
 cases st with
 | true=>
  refine ug aoI rfl rfl rfl (.inl rfl) ?_
  refine ai (ai (ai rfl rfl) (ai (by show a.2.1.length+_≤_;rw[hz];unfold maxLen;omega) (by show a.2.1.length+_≤_;rw[hz];omega))) ?_
  refine ei [0,2] (ai (ai rfl (ai rfl rfl)) (ai ?_ ?_))
  ·exact (ai (iE (by simp only[zz,reduceCtorEq];rfl)) rfl)
  ·refine (ai (ai rfl (ai (ai rfl rfl) (ai rfl (ai rfl (fun _ _=>rfl))))) (ai rfl (ai rfl (ai ?_ ?_))))
   ·show a.2.1.length+(strOf a.2.2).size=(a.2.1++a.2.2).length
    rw[hz,abg]
   ·exact nI rfl (fun _ _=>rfl) (fun k _=>vJ _ k)
 | false=>
  refine ug aoI rfl rfl rfl (.inr ⟨_,rfl⟩) ?_
  refine ai (ai (ai rfl rfl) (ai (by show a.2.1.length+_≤_;rw[hz];unfold maxLen;omega) (by show a.2.1.length+_≤_;rw[hz];omega))) ?_
  refine ei [0,2] (ai (ai rfl (ai rfl rfl)) (ai ?_ ?_))
  ·exact (ai (iE (by simp only[zz,reduceCtorEq];rfl)) rfl)
  ·refine (ai (ai rfl (ai (ai rfl rfl) (ai rfl (ai rfl (fun _ _=>rfl))))) (ai rfl (ai rfl (ai ?_ ?_))))
   ·show a.2.1.length+(strOf a.2.2).size=(a.2.1++a.2.2).length
    rw[hz,abg]
   ·exact nI rfl (fun _ _=>rfl) (fun k _=>vJ _ k)
def as4 (T:Nat) (rest:NM→List SV):rz:={ A:=NM×List UInt8,fix:=1,args:=fun a=>[.own 0 0],objs:=fun a=>[bld T (rest a.1),oQ a.2],pre:=fun a=>True,res:=fun a=>iA a.2.length,objs':=fun a=>[bld T (rest a.1),oQ a.2] }
theorem ap7:jT Tryz.prog 142 (as4 202 nmR):=by
 refine qg (Tb:=tab) mixed ay Tryz.func142 rfl rfl ?_
 rintro (a:NM×List UInt8) hpre
 refine ai (ai rfl (ai rfl rfl)) ?_
 refine ei [0,1] (ai (ai rfl (ai rfl rfl)) (ai ?_ ?_))
 ·exact rfl
 ·exact (ai (ai rfl (ai (ai rfl rfl) (ai rfl (ai rfl (fun _ _=>rfl))))) (ai rfl (ai rfl (ai rfl (fun _ _=>rfl)))))
theorem acA:jT Tryz.prog 81 (wbG 143 noR):=by
 refine qg (Tb:=tab) mixed ay Tryz.func81 rfl rfl ?_
 rintro ⟨st,a⟩ hpre
 refine ai (ai rfl (ai rfl rfl)) ?_
 have hl:a.2.1.length≤1000000:=hpre
 cases st with
 | true=>
  refine ug afM rfl rfl rfl (.inl rfl) ?_
  refine ai (mxL (n:=a.2.1.length+1) (by omega) (by decide)) ?_
  refine ai (lt1 rfl) ?_
  refine ei [0,3] (ai (ai rfl (ai rfl rfl)) (ai ?_ ?_))
  ·exact rfl
  ·refine (ai (ai rfl (ai (ai rfl rfl) rfl)) (ai rfl (ai rfl (ai ?_ ?_))))
   ·show a.2.1.length+1=(a.2.1++[a.2.2]).length
    simp
   ·exact nI rfl (fun _ _=>rfl) one_byte
 | false=>
  refine ug afM rfl rfl rfl (.inr ⟨_,rfl⟩) ?_
  refine ai (mxL (n:=a.2.1.length+1) (by omega) (by decide)) ?_
  refine ai (lt1 rfl) ?_
  refine ei [0,3] (ai (ai rfl (ai rfl rfl)) (ai ?_ ?_))
  ·exact rfl
  ·refine (ai (ai rfl (ai (ai rfl rfl) rfl)) (ai rfl (ai rfl (ai ?_ ?_))))
   ·show a.2.1.length+1=(a.2.1++[a.2.2]).length
    simp
   ·exact nI rfl (fun _ _=>rfl) one_byte
def jk (sep:List UInt8):List (List UInt8)→List UInt8
 | []=>[]
 | [x]=>x
 | x :: y :: l=>x++(sep++jk sep (y :: l))
theorem acw (sep x:List UInt8):∀l:List (List UInt8),jk sep (l++[x])=if l=[] then x else jk sep l++(sep++x)
 | []=>rfl
 | [y]=>by rw[if_neg (by simp)];rfl
 | y :: z :: l=>by
  rw[if_neg (by simp)]
  show y++(sep++jk sep (z :: l++[x]))=y++(sep++jk sep (z :: l))++(sep++x)
  rw[acw sep x (z :: l),if_neg (by simp)]
  simp
def zm (o:Int):List UInt8:=if o=4 then [32,124,32] else [32,38,32]
def adS (b:Bool) (t:List UInt8):List UInt8:=if b then 40 :: (t++[41]) else t
def brA (o x:Int):Bool:=decide (x=4)||(decide (x=3)&&decide (o≠4))
mutual
def eF (nm:NM):Ex→List UInt8
 | .node o i l=>if o=0 then [if i=0 then 48 else 49] else if o=1 then nm.getD i.toNat [] else if o=2 then 33 :: (arE nm o l).headD [] else jk (zm o) (arE nm o l)
def arE (nm:NM) (o:Int):List Ex→List (List UInt8)
 | []=>[]
 | x :: l=>adS (brA o x.op) (eF nm x) :: arE nm o l
end
def lZ (nm:NM) (o:Int) (x:Ex):List UInt8:=adS (brA o x.op) (eF nm x)
theorem aiF (nm:NM) (o:Int):∀l:List Ex,arE nm o l=l.map (lZ nm o)
 | []=>by rw[arE];rfl
 | x :: l=>by rw[arE,aiF nm o l];rfl
theorem qH (nm:NM) (x:Ex):eF nm x=if x.op=0 then [if x.idx=0 then 48 else 49] else if x.op=1 then nm.getD x.idx.toNat [] else if x.op=2 then 33 :: (x.args.map (lZ nm x.op)).headD [] else jk (zm x.op) (x.args.map (lZ nm x.op)):=by
 obtain ⟨o,i,l⟩:=x;rw[eF,aiF]
def wrB (o out:Int):Bool:=(decide (o=3)||decide (o=4))&&(decide (0≤out)&&(decide (o=4)||decide (out≠4)))
def qj (nm:NM) (x:Ex) (out:Int):List UInt8:=adS (wrB x.op out) (eF nm x)
theorem aiN (nm:NM) (x:Ex) {o:Int} (h:0≤o):qj nm x o=lZ nm o x:=by
 unfold qj lZ
 have:wrB x.op o=brA o x.op:=by
  unfold wrB brA
  rw[decide_eq_true h,aiC]
  by_cases h3:x.op=3
  ·rw[h3];simp
  ·by_cases h4:x.op=4
   ·rw[h4];simp
   ·rw[decide_eq_false h3,decide_eq_false h4];rfl
 rw[this]
theorem xV (b:Bool) (t:List UInt8):(adS b t).length≤t.length+2:=by unfold adS;split<;>simp
def abX (nm:NM):Prop:=∀k,(nm.getD k []).length≤100
theorem aaz (sep:List UInt8):∀l:List (List UInt8),(jk sep l).length≤(l.map fun t=>t.length+sep.length).sum
 | []=>by simp[jk]
 | [x]=>by simp[jk]
 | x :: y :: l=>by
  have:=aaz sep (y :: l)
  simp only[jk,abg,aoK,aum] at this ⊢
  omega
theorem af8 (o:Int):(zm o).length=3:=by unfold zm;split<;>rfl
theorem ab9 {nm:NM} {o:Int}:∀(l:List Ex),(∀x∈l,(eF nm x).length+5≤110*x.size)→((l.map (lZ nm o)).map fun t=>t.length+3).sum≤110*sizes l
 | [],_=>by simp
 | x :: l,h=>by
  have h1:=h x (by simp)
  have h2:=ab9 (nm:=nm) (o:=o) l fun y hy=>h y (by simp[hy])
  have h3:=xV (brA o x.op) (eF nm x)
  rw[sizes]
  simp only[aoK,aum] at h2 ⊢
  unfold lZ at h2 ⊢
  omega
theorem abV {nm:NM} (hnm:abX nm):∀(n:Nat) (x:Ex),x.size≤n→(eF nm x).length+5≤110*x.size
 | 0,x,h=>by have:=size_pos x;omega
 | n+1,x,h=>by
  have hsz:=x.size_eq
  have ih:∀y∈x.args,(eF nm y).length+5≤110*y.size:=fun y hy=>abV hnm n y (by have:=jh hy;omega)
  have h4:=ab9 (nm:=nm) (o:=x.op) x.args ih
  rw[qH]
  split
  ·simp;omega
  ·split
   ·have:=hnm x.idx.toNat;omega
   ·split
    ·cases hc:x.args with
     | nil=>simp;omega
     | cons y l=>
      rw[hc,sizes] at hsz
      have h1:=ih y (by rw[hc];simp)
      have h3:=xV (brA x.op y.op) (eF nm y)
      simp only[aoK,List.headD_cons,ai6]
      unfold lZ
      omega
    ·have h5:=aaz (zm x.op) (x.args.map (lZ nm x.op))
     rw[af8] at h5
     omega
def jF (nm:NM) (base sep:List UInt8) (o:Int) (l:List Ex) (k:Nat):List UInt8:=base++jk sep ((l.take k).map (lZ nm o))
theorem vR (nm:NM) (base sep:List UInt8) (o:Int) (l:List Ex):jF nm base sep o l 0=base:=by unfold jF;simp[jk]
theorem anY {nm:NM} {base sep:List UInt8} {o:Int} {l:List Ex} (h:0<l.length):jF nm base sep o l 1=base++lZ nm o (l.getD 0 bV):=by
 unfold jF;rw[aM bV h];rfl
theorem al0 {nm:NM} {base sep:List UInt8} {o:Int} {l:List Ex} {k:Nat} (h:k+1<l.length):jF nm base sep o l (k+1+1)=jF nm base sep o l (k+1)++sep++lZ nm o (l.getD (k+1) bV):=by
 unfold jF
 have hne:(l.take (k+1)).map (lZ nm o)≠[]:=by
  cases l with
  | nil=>simp at h
  | cons y l=>simp
 rw[aM bV h,asz,List.map_singleton,acw,if_neg hne]
 simp
theorem amQ (nm:NM) (base sep:List UInt8) (o:Int) (l:List Ex):jF nm base sep o l l.length=base++jk sep (l.map (lZ nm o)):=by unfold jF;rw[af0]
theorem ac7 (sep:List UInt8):∀l:List (List UInt8),l≠[]→(jk sep l).length+sep.length≤(l.map fun t=>t.length+sep.length).sum
 | [],h=>absurd rfl h
 | [x],_=>by simp[jk]
 | x :: y :: l,_=>by
  have:=ac7 sep (y :: l) (by simp)
  simp only[jk,abg,aoK,aum] at this ⊢
  omega
theorem anL {nm:NM} (hnm:abX nm) {base sep:List UInt8} (hsep:sep.length=3) {o:Int} {l:List Ex} {k:Nat} (hk:k≤l.length):(jF nm base sep o l k).length+(if k=0 then 0 else 3)≤base.length+110*sizes (l.take k):=by
 have h4:=ab9 (nm:=nm) (o:=o) (l.take k) fun x _=>abV hnm x.size x (ahl _)
 unfold jF
 rw[abg]
 cases k with
 | zero=>simp[jk,sizes]
 | succ k=>
  have hne:(l.take (k+1)).map (lZ nm o)≠[]:=by
   cases l with
   | nil=>simp at hk
   | cons y l=>simp
  have h5:=ac7 sep _ hne
  rw[hsep] at h5
  rw[if_neg (by omega)]
  omega
structure WrA where
 st:Bool
 nm:NM
 bs:List UInt8
 x:Ex
 out:Int
def akL (a:WrA):Prop:=kS a.nm.length a.x∧a.x.size≤256∧abX a.nm∧a.nm.length≤256∧a.bs.length+110*a.x.size≤500000
def wrG (n:Nat):rz:={ A:=WrA,fix:=1,args:=fun a=>[.own 0 0,tq a.x,iA a.out],objs:=fun a=>[bld 202 (nmR a.nm) a.st,oQ a.bs],pre:=fun a=>akL a∧a.x.size≤n,res:=fun _=>.tup [],objs':=fun a=>[bld 202 (nmR a.nm),oQ (a.bs++qj a.nm a.x a.out)],inl:=[141,81,78] }
def asO (st:Bool):Nat→SV
 | 0=>adr st
 | _+1=>.own 0 0
theorem akA (c:UInt8) (h:iZ c=true):iD c=true:=by
 unfold iZ dY jD uR at h
 unfold iD gJ
 simp only[aqM,agD,decide_eq_true_eq] at h ⊢
 omega
theorem ah7 (c:UInt8) (h:jD c=true):gJ c=true:=by
 unfold jD at h
 unfold gJ
 simp only[aqM,agD,decide_eq_true_eq] at h ⊢
 omega
theorem aj7 {s:List UInt8} (h:dQ s=0):s.length≤24∧resE s=false∧jN s=true:=by
 unfold dQ at h
 split at h
 ·cases h
 rename_i h1
 split at h
 ·cases h
 rename_i h2
 split at h
 ·rename_i h3
  simp only[aqM,not_or,aoF,Bool.not_eq_true,Bool.not_eq_false'] at h2
  obtain ⟨⟨h4,h5⟩,h6⟩:=h2
  refine ⟨by omega,h6,?_⟩
  unfold jN
  rw[ajw.2 fun c hc=>akA c (ajw.1 h3 c hc),h4,ah7 _ (by simpa using h5)];rfl
 ·cases h
def aaW (b:Bool) (s:List UInt8):Bool:=decide (s.length≤24)&&(jN s&&(resE s==b))
theorem aew {b:Bool} {s:List UInt8} (h:aaW b s=true):s.length≤24∧jN s=true∧resE s=b:=by
 unfold aaW at h
 simp only[agD,decide_eq_true_eq,beq_iff_eq] at h
 exact ⟨h.1,h.2.1,h.2.2⟩
theorem anW {n:Nat} (h:n≤6):(jy n).all (aaW true)=true∧(jy n).Nodup∧(jy n).all (fun s=>s.getD 0 0 != 121)=true:=by
 have:∀n:Fin 7,(jy n.1).all (aaW true)=true∧(jy n.1).Nodup∧(jy n.1).all (fun s=>s.getD 0 0 != 121)=true:=by decide +kernel
 exact this ⟨n,by omega⟩
theorem anT {n:Nat} (h:n≤24):(nN n).all (aaW true)=true∧(nN n).Nodup∧(nN n).all (fun s=>s.getD 0 0==121)=true:=by
 have:∀n:Fin 25,(nN n.1).all (aaW true)=true∧(nN n.1).Nodup∧(nN n.1).all (fun s=>s.getD 0 0==121)=true:=by decide +kernel
 exact this ⟨n,by omega⟩
theorem ajn {α:Type} [BEq α] [LawfulBEq α] {x:α} {l:List α}:l.any (fun y=>x==y)=false↔x∉l:=by
 rw[atg]
 constructor
 ·intro h hx;exact h x hx (by simp)
 ·intro h y hy e;exact h (by rw[beq_iff_eq.1 e];exact hy)
theorem aky {α:Type} {l:List α} {k:Nat} {d:α} (hn:l.Nodup) (hk:k<l.length):l.getD k d∉l.take k:=by
 have h1:(l.take (k+1)).Nodup:=hn.sublist (List.take_sublist _ _)
 rw[aM d hk,at0] at h1
 intro hx
 exact h1.2.2 _ hx _ (aiz.2 rfl) rfl
theorem afA {α:Type} {d:α}:∀{l:List α},(∀k,k<l.length→l.getD k d∉l.take k)→l.Nodup:=by
 intro l h
 rw[List.Nodup,atV]
 intro i j hi hj hij e
 refine h j hj ?_
 have e2:l.getD j d=l[j]:=by rw[abl,abr hj];rfl
 rw[e2,←e]
 exact List.mem_iff_getElem.2 ⟨i,by rw[aja];omega,by simp⟩
theorem aix {l:List (List UInt8)} (h:dO l=0):(∀s∈l,s.length≤24∧resE s=false∧jN s=true)∧l.Nodup:=by
 unfold dO at h
 split at h
 ·cases h
 have h1:=oW h
 have key:∀k,k<l.length→dQ (l.getD k [])=0∧l.getD k []∉l.take k:=fun k hk=>by
  have h2:=h1 k hk
  unfold sW at h2
  split at h2
  ·rename_i h3;exact absurd h2 h3
  rename_i h3
  split at h2
  ·cases h2
  rename_i h4
  exact ⟨aqG.1 h3,ajn.1 (asC.2 h4)⟩
 refine ⟨fun s hs=>?_,afA (d:=[]) fun k hk=>(key k hk).2⟩
 obtain ⟨k,hk,rfl⟩:=arD hs
 have:=(key k hk).1
 rw[abl,abr hk] at this
 exact aj7 this
theorem rR {c:aN} (h:bE c=0):(∀s∈dS c,s.length≤24∧jN s=true)∧(dS c).Nodup∧((dS c).length:Int)=jX c∧(dS c).length≤52:=by
 obtain ⟨h1,h2,h3,_⟩:=dW h
 have hi:=aix h2
 have hil:=qp h2
 obtain ⟨a1,a2,a3⟩:=anW (n:=c.act.toNat) (by omega)
 obtain ⟨b1,b2,b3⟩:=anT (n:=c.sts.length) (by omega)
 have A:∀s∈jy c.act.toNat,s.length≤24∧jN s=true∧resE s=true:=fun s hs=>aew (ajw.1 a1 s hs)
 have B:∀s∈nN c.sts.length,s.length≤24∧jN s=true∧resE s=true:=fun s hs=>aew (ajw.1 b1 s hs)
 refine ⟨fun s hs=>?_,?_,?_,?_⟩
 ·unfold dS at hs
  simp only[ahv] at hs
  rcases hs with (hs | hs) | hs
  ·exact ⟨(A s hs).1,(A s hs).2.1⟩
  ·exact ⟨(hi.1 s hs).1,(hi.1 s hs).2.2⟩
  ·exact ⟨(B s hs).1,(B s hs).2.1⟩
 ·unfold dS
  rw[at0,at0]
  refine ⟨⟨a2,hi.2,fun x hx y hy e=>?_⟩,b2,fun x hx y hy e=>?_⟩
  ·subst e;have:=(A x hx).2.2;rw[(hi.1 x hy).2.1] at this;cases this
  ·subst e
   rcases ahv.1 hx with hx | hx
   ·have p:=ajw.1 a3 x hx
    have q:=ajw.1 b3 x hy
    rw[beq_iff_eq] at q
    rw[q] at p;cases p
   ·have:=(B x hy).2.2;rw[(hi.1 x hx).2.1] at this;cases this
 ·unfold dS jX
  rw[abg,abg,aaV,aaU];omega
 ·unfold dS
  rw[abg,abg,aaV,aaU];omega
theorem akT {c:aN} (h:bE c=0):kK (dS c)=0:=by
 obtain ⟨h1,h2,_,h3⟩:=rR h
 unfold kK
 rw[if_neg (by omega)]
 refine gG fun k hk=>?_
 have hm:(dS c).getD k []∈dS c:=aeJ (bJ [] hk)
 have:=h1 _ hm
 unfold pR
 rw[if_neg (by rw[this.2];decide),if_neg (by omega),if_neg]
 rw[ajn.2 (aky h2 hk)];decide
theorem adq {nm:NM} {o:Int}:∀(l:List Ex),(∀x∈l,(eF nm x).length+5≤34*x.size)→((l.map (lZ nm o)).map fun t=>t.length+3).sum≤34*sizes l
 | [],_=>by simp
 | x :: l,h=>by
  have h1:=h x (by simp)
  have h2:=adq (nm:=nm) (o:=o) l fun y hy=>h y (by simp[hy])
  have h3:=xV (brA o x.op) (eF nm x)
  rw[sizes]
  simp only[aoK,aum] at h2 ⊢
  unfold lZ at h2 ⊢
  omega
theorem acF {nm:NM} (hnm:∀k,(nm.getD k []).length≤24):∀(n:Nat) (x:Ex),x.size≤n→(eF nm x).length+5≤34*x.size
 | 0,x,h=>by have:=size_pos x;omega
 | n+1,x,h=>by
  have hsz:=x.size_eq
  have ih:∀y∈x.args,(eF nm y).length+5≤34*y.size:=fun y hy=>acF hnm n y (by have:=jh hy;omega)
  have h4:=adq (nm:=nm) (o:=x.op) x.args ih
  rw[qH]
  split
  ·simp;omega
  ·split
   ·have:=hnm x.idx.toNat;omega
   ·split
    ·cases hc:x.args with
     | nil=>simp;omega
     | cons y l=>
      rw[hc,sizes] at hsz
      have h1:=ih y (by rw[hc];simp)
      have h3:=xV (brA x.op y.op) (eF nm y)
      simp only[aoK,List.headD_cons,ai6]
      unfold lZ
      omega
    ·have h5:=aaz (zm x.op) (x.args.map (lZ nm x.op))
     rw[af8] at h5
     omega
theorem agW {c:aN} (h:bE c=0) (k:Nat):((dS c).getD k []).length≤24:=by
 rcases arU k (dS c).length with hk | hk
 ·exact ((rR h).1 _ (aeJ (bJ [] hk))).1
 ·rw[abl,asw hk];simp
theorem qM {a b:ByteArray} {l m:List UInt8} (ha:a=strOf l) (hb:b=strOf m) (h:l.length+m.length≤9223372036854775807):(((a.size+b.size:Nat)):Int)≤9223372036854775807:=by
 subst ha hb;rw[dN,dN];omega
def stepW:List UInt8:=[115,116,101,112,32]
def jd (l:List Sk):List UInt8:=l.flatMap fun y=>32 :: om y
def uQ (w:Int):List UInt8:=if 0<w then 32 :: dec w.toNat else []
def gQ (k:Nat):List UInt8:=(stepW++dec k)++[58]
def lnK (k:Nat) (x:Stp):List UInt8:=((gQ k++jd x.st)++uQ x.wt)++[10]
def bO (l:List Stp):Nat→List UInt8
 | 0=>[]
 | k+1=>bO l k++lnK k (l.getD k st0)
def lnT (nm:NM) (t:jK):List UInt8:=(((((inT t.fr++[32,62,32])++inT t.to)++[58,32])++eF nm t.wh)++[10])
def nO (nm:NM) (l:List jK):Nat→List UInt8
 | 0=>[]
 | k+1=>nO nm l k++lnT nm (l.getD k aD)
def akS (c:aN):List UInt8:=bO c.sts c.sts.length++nO (dS c) c.trs c.trs.length
def vS (c:aN):PV:=.tup [sP (if bE c=0 then akS c else []),iP (bE c)]
theorem agP:∀(j n:Nat),n<10 ^ j→(ad3 n).length≤j
 | 0,n,h=>by
  have:n=0:=by rw[Nat.pow_zero] at h;omega
  subst this;simp[ad3]
 | j+1,n,h=>by
  rw[als]
  split
  ·simp
  ·have:=agP j (n / 10) (by rw[Nat.div_lt_iff_lt_mul (by decide)];rw[Nat.pow_succ] at h;exact h)
   rw[abg,List.length_singleton];omega
theorem abL {n:Nat} (h:n≤1000000):(dec n).length≤7:=by
 by_cases h0:n=0
 ·subst h0;have:=wP (n:=0) (by decide);omega
 ·have:=agP 7 n (by show n<10 ^ 7;omega)
  unfold ad3 at this
  rw[if_neg h0] at this;exact this
theorem ad1 (l:List Sk):(jd l).length=3*l.length:=by
 induction l with
 | nil=>rfl
 | cons x l ih=>
  show ((32 :: om x)++jd l).length=_
  rw[abg,ih]
  simp[om];omega
theorem apo {w:Int} (h:w≤1000000):(uQ w).length≤8:=by
 unfold uQ
 split
 ·have:=abL (n:=w.toNat) (by omega)
  rw[ai6];omega
 ·simp
theorem ama {n:Int} {l:List Int} (h0:∀x∈l,0≤x∧x<n) (h1:∀k,0<k→k<l.length→l.getD (k-1) 0<l.getD k 0):(l.length:Int)≤max n 0:=by
 have key:∀k,k<l.length→(k:Int)≤l.getD k 0:=by
  intro k
  induction k with
  | zero=>intro hk;exact (h0 _ (aeJ (bJ 0 hk))).1
  | succ k ih=>
   intro hk
   have:=h1 (k+1) (by omega) hk
   have:=ih (by omega)
   simp only[Nat.add_sub_cancel] at *
   omega
 rcases arC l.length with h | h
 ·omega
 ·have h2:=key (l.length-1) (by omega)
  have h3:=(h0 _ (aeJ (bJ 0 (show l.length-1<l.length by omega)))).2
  omega
theorem afV {n:Nat} {l:List Int} (h:iw n l=0) (hn:n≤24):l.length≤24:=by
 have h0:=(aa0 h hn).2.1
 unfold iw at h
 split at h
 ·cases h
 have h1:=oW h
 have:=ama (n:=(n:Int)) (l:=l) h0 fun k hk hl=>by
  have h2:=h1 k hl
  unfold mY at h2
  split at h2
  ·cases h2
  split at h2
  ·cases h2
  ·rename_i h3;omega
 omega
theorem apI {act:Int} {x:Stp} (ha:1≤act∧act≤6) (h:fB act x=0):x.st.length≤6∧okS 6 x.st∧0≤x.wt∧x.wt≤1000000:=by
 unfold fB at h
 split at h
 ·rename_i h1;exact absurd h h1
 rename_i h1
 split at h
 ·cases h
 rename_i h2
 have h3:=oW (aqG.1 h1)
 have hk:∀k,k<x.st.length→(0≤(x.st.getD k bB).1∧(x.st.getD k bB).1<act)∧(0<k→(x.st.getD (k-1) bB).1<(x.st.getD k bB).1):=fun k hk=>by
  have h4:=h3 k hk
  unfold jv at h4
  split at h4
  ·cases h4
  split at h4
  ·cases h4
  ·rename_i h5 h6;exact ⟨by omega,fun h7=>by omega⟩
 have hs:okS 6 x.st:=fun y hy=>by
  obtain ⟨k,hk1,rfl⟩:=arD hy
  have:=(hk k hk1).1
  rw[abl,abr hk1] at this
  have this:0≤x.st[k].1∧x.st[k].1<act:=this
  omega
 refine ⟨?_,hs,by omega,by omega⟩
 have gm:∀k,k<x.st.length→(x.st.map (·.1)).getD k 0=(x.st.getD k bB).1:=fun k hk1=>by
  rw[abl,abl,ajv,abr hk1];rfl
 have:=ama (n:=6) (l:=x.st.map (·.1)) (fun y hy=>by
  obtain ⟨z,hz,rfl⟩:=atf.1 hy
  exact hs z hz) fun k hk0 hkl=>by
   rw[aot] at hkl
   rw[gm k hkl,gm (k-1) (by omega)]
   exact (hk k hkl).2 hk0
 rw[aot] at this
 omega
theorem agC {c:aN} (h:bE c=0) {k:Nat} (hk:k<c.sts.length):(c.sts.getD k st0).st.length≤6∧okS 6 (c.sts.getD k st0).st∧0≤(c.sts.getD k st0).wt∧(c.sts.getD k st0).wt≤1000000:=by
 obtain ⟨h1,_,_,_,h5,_⟩:=dW h
 exact apI h1 (h5 k hk)
theorem adO {k:Nat} (h:k<100):(gQ k).length≤8:=by
 have:=wP h
 unfold gQ stepW
 simp only[abg,ai6,aox];omega
theorem ao8 {k:Nat} {x:Stp} (h:k<100) (h1:x.st.length≤6) (h2:x.wt≤1000000):(lnK k x).length≤35:=by
 have h3:=adO h
 have h4:=ad1 x.st
 have h5:=apo h2
 unfold lnK
 simp only[abg,ai6,aox];omega
theorem ahs {c:aN} (h:bE c=0):∀{k:Nat},k≤c.sts.length→(bO c.sts k).length≤35*k
 | 0,_=>by simp[bO]
 | k+1,hk=>by
  have h1:=agC h (k:=k) (by omega)
  have h2:=(dW h).2.2.1
  have h3:=ao8 (k:=k) (by omega) h1.1 h1.2.2.2
  have h4:=ahs h (k:=k) (by omega)
  rw[bO,abg];omega
theorem ajy {c:aN} (h:bE c=0) {k:Nat} (hk:k<c.trs.length):((c.trs.getD k aD).fr.length≤24∧(c.trs.getD k aD).to.length≤24)∧(c.trs.getD k aD).to≠[]∧(c.trs.getD k aD).wh.size≤256∧kS (dS c).length (c.trs.getD k aD).wh:=by
 obtain ⟨_,_,h3,_,_,h6⟩:=dW h
 have h7:=h6 k hk
 have hw:=(jJ h hk).2.2
 unfold iX at h7
 split at h7
 ·rename_i h8;exact absurd h7 h8
 rename_i h8
 split at h7
 ·rename_i h9;exact absurd h7 h9
 rename_i h9
 have h9:=aqG.1 h9
 have hn:=(rR h).2.2.1
 obtain ⟨_,h10,h11⟩:=qV.1 hw
 refine ⟨⟨afV (aqG.1 h8) h3.2,afV h9 h3.2⟩,?_,h10.1,by rw[hn];exact h11⟩
 have:=(aa0 h9 h3.2).2.2
 intro e
 rw[e] at this;simp at this
theorem aoE {c:aN} (h:bE c=0):abX (dS c):=fun k=>ajJ (agW h k) (by decide)
theorem xH {n:Nat} {l:List Int} (h:eP n l) (hn:n≤24):eP 100 l:=fun x hx=>by have:=h x hx;omega
theorem ajg {c:aN} (h:bE c=0) {k:Nat} (hk:k<c.trs.length):((inT (c.trs.getD k aD).fr).length≤72∧(inT (c.trs.getD k aD).to).length≤72)∧(eF (dS c) (c.trs.getD k aD).wh).length≤28160∧(lnT (dS c) (c.trs.getD k aD)).length≤28310:=by
 obtain ⟨h1,h2,h3,h4⟩:=ajy h hk
 have h5:=jJ h hk
 have h6:=ad6 (xH h5.1.1 (by decide))
 have h7:=ad6 (xH h5.2.1.1 (by decide))
 have h8:=abV (aoE h) _ _ (ahl (c.trs.getD k aD).wh.size)
 refine ⟨⟨by omega,by omega⟩,by omega,?_⟩
 unfold lnT
 simp only[abg,ai6,aox];omega
theorem ahF {c:aN} (h:bE c=0):∀{k:Nat},k≤c.trs.length→(nO (dS c) c.trs k).length≤28310*k
 | 0,_=>by simp[nO]
 | k+1,hk=>by
  have h1:=ajg h (k:=k) (by omega)
  have h2:=ahF h (k:=k) (by omega)
  rw[nO,abg];omega
def ar7:SV:=.p false (.val (.pointer none))
def as8:Nat→SV
 | 0=>ar7
 | _+1=>.own 1 0
def aeo (l:List UInt8) (k:Nat):List PV:=[cP (l.getD k 0)]
theorem mD {l m:List UInt8} (h:l=m) {n:Nat}:∀j,j<n→aeo l j=aeo m j:=fun j _=>by rw[h]
def qF:SV:=.p false (.val (.pointer none))
def aar:SV:=.p false (.val (.slice none 0 0))
theorem ahU {P:Program} {f T:Nat} {A:Type} {args:A→List SV} {rest:A→List SV} {pre:A→Prop} {res:A→SV} {objs':A→List Ob}
  (h:jT P f { A:=A,fix:=1,args:=args,objs:=fun a=>[.cells T (qF :: .row 1 :: rest a),oQ []],pre:=pre,res:=res,objs':=objs' }) :
  jT P f { A:=A,fix:=1,args:=args,objs:=fun a=>[.cells T (qF :: aar :: rest a)],pre:=pre,res:=res,objs':=objs' }:=by
 refine ⟨h.1,fun a hp base E vs w hg H hA=>?_⟩
 have H:bC (zx w E [.cells T (qF :: aar :: rest a)] base 1) E (iK [.cells T (qF :: aar :: rest a)]) w:=H
 have hA:kr E vs (args a):=hA
 have hn1:∀i,1≤i→E.hd i=none:=fun i hi=>H.new i hi
 obtain ⟨E2,hE2⟩:∃E2:Env,E2={ E with hd:=fun i=>if i=1 then some (.slice none 0 0) else E.hd i }:=⟨_,rfl⟩
 have hd1:E2.hd 1=some (.slice none 0 0):=by rw[hE2];rfl
 have hdn:∀i,i≠1→E2.hd i=E.hd i:=fun i hi=>by rw[hE2];exact if_neg hi
 have hm:E2.mem=E.mem:=by rw[hE2]
 have ht:E2.tm=E.tm:=by rw[hE2]
 have hws:E2.ws=E.ws:=by rw[hE2]
 have hI:E2.I=E.I:=by rw[hE2]
 have hk:E2.k=E.k:=by rw[hE2]
 have hle:E.Le E2:=⟨fun i v hv=>by
  by_cases hi:i=1
  ·subst hi;rw[hn1 1 (ahl _)] at hv;cases hv
  ·rw[hdn i hi];exact hv,fun b cs hb=>by rw[hm];exact hb,ht⟩
 have hbl:∀i,i≠1→E2.blk i=E.blk i:=fun i hi=>by unfold Env.blk;rw[hdn i hi]
 have hb1:E2.blk 1=none:=by unfold Env.blk;rw[hd1];rfl
 have hbor:kV E2.hd [.cells T (qF :: .row 1 :: rest a),oQ []] 0=kV E.hd [.cells T (qF :: aar :: rest a)] 0:=by
  funext b
  refine propext ⟨fun ⟨k,o,_,hk,hb⟩=>?_,fun ⟨k,o,_,hk,hb⟩=>?_⟩
  ·match k with
   | 0=>exact ⟨0,_,ahl _,rfl,by rw[←hdn 0 (by decide)];exact hb⟩
   | 1=>rw[hd1] at hb;cases hb
   | k+2=>simp at hk
  ·match k with
   | 0=>exact ⟨0,_,ahl _,rfl,by rw[hdn 0 (by decide)];exact hb⟩
   | k+1=>simp at hk
 have hobj:∀i o,(iK [.cells T (qF :: .row 1 :: rest a),oQ []]).obj i=some o→i=0∧o=.cells T (qF :: .row 1 :: rest a)∨i=1∧o=oQ []:=fun i o ho=>by
  rw[dV] at ho
  match i with
  | 0=>cases ho;exact .inl ⟨rfl,rfl⟩
  | 1=>cases ho;exact .inr ⟨rfl,rfl⟩
  | i+2=>simp at ho
 have ob0:(iK [.cells T (qF :: aar :: rest a)]).obj 0=some (.cells T (qF :: aar :: rest a)):=by rw[dV];rfl
 have HR:bC (zx w E2 [.cells T (qF :: .row 1 :: rest a),oQ []] base 1) E2 (iK [.cells T (qF :: .row 1 :: rest a),oQ []]) w:=by
  refine ⟨fun i o ho=>?_,fun i j o o' b ho ho' hb hb'=>?_,fun i o b ho hb=>?_,fun b cs hb=>H.mem b cs (by rw[←hm];exact hb),fun b cs hb=>hb,fun b cs hb=>.inl hb,fun i hi=>?_,?_,?_,fun k _=>rfl,by show 1≤2;decide,aeT _,by rw[hk];exact H.kk⟩
  ·rcases hobj i o ho with ⟨rfl,rfl⟩ | ⟨rfl,rfl⟩
   ·cases (H.ob 0 _ ob0).mono hle with
    | cells b T vs cs hh hw hl h1 he=>
     refine .cells b T vs _ hh hw hl h1 fun k u s hu hs=>?_
     match k with
     | 0=>exact he 0 u s hu hs
     | 1=>
      cases hs
      have:=he 1 u aar hu rfl
      cases this with
      | p _ _ _ hp=>cases hp;exact .row 1 _ hd1 rfl
     | k+2=>exact he (k+2) u s hu hs
   ·exact .row 5 1 0 _ _ [] (fun _ _=>undef) hd1 ⟨rfl,.inl ⟨rfl,rfl⟩⟩ (aeT _) (fun j hj=>absurd hj (alb _)) (fun j _ _ hj=>absurd hj (alb _)) (fun j _ _ hj=>absurd hj (alb _))
  ·rcases hobj i o ho with ⟨rfl,rfl⟩ | ⟨rfl,rfl⟩
   ·rcases hobj j o' ho' with ⟨rfl,rfl⟩ | ⟨rfl,rfl⟩
    ·rfl
    ·rw[hb1] at hb';cases hb'
   ·rw[hb1] at hb;cases hb
  ·rcases hobj i o ho with ⟨rfl,rfl⟩ | ⟨rfl,rfl⟩
   ·have:=H.own 0 _ b ob0 (by rw[←hbl 0 (by decide)];exact hb)
    unfold Env.mine at this ⊢
    rw[hm,hws,hI];exact this
   ·rw[hb1] at hb;cases hb
  ·have hi:2≤i:=hi
   rw[hdn i (by omega)];exact hn1 i (by omega)
  ·rw[ht];exact H.base
  ·obtain ⟨f1,f2,f3,f4,f5,f6,f7,f8,f9⟩:=H.fr
   refine ⟨f1,f2,f3,by rw[hws];exact f4,by rw[hws];exact f5,by rw[hws];exact f6,by rw[hws,hI];exact f7,by rw[hws,hI];exact f8,?_⟩
   obtain ⟨g1,g2,g3⟩:=f9
   exact ⟨by rw[hk];exact g1,by rw[hI];exact g2.trans hbor.symm,by rw[hws];exact g3⟩
 refine (h.2 a hp base E2 vs w (fun p hp=>by rw[hm];exact hg p hp) HR ⟨hA.1,fun k u s hu hs=>(hA.2 k u s hu hs).mono hle⟩).mono fun e w' ⟨v,E',he,hv,R⟩=>⟨v,E',he,hv,?_⟩
 obtain ⟨r1,r2,r3,r4,r5,r6,r7,r8,⟨f1,f2,f3,f4,f5,f6,f7,f8,g1,g2,g3⟩,r10,r11,r12,r13⟩:=R
 refine ⟨r1,r2,r3,r4,fun b cs hb=>r5 b cs (by show E2.mem b=some cs;rw[hm];exact hb),fun b cs hb=>(r6 b cs hb).imp (fun hb=>by show E.mem b=some cs;rw[←hm];exact hb) id,r7,r8,⟨f1,f2,f3,f4,f5,f6,f7,f8,g1,g2.trans hbor,g3⟩,fun k hk=>(r10 k hk).trans (hdn k (by have hk:k<1:=hk;omega)),r11,r12,r13⟩
theorem an6 {sep:List UInt8} {l:List (List UInt8)} (hs:sep≠[]) (h:2≤l.length):jk sep l≠[]:=by
 match l with
 | x :: y :: l=>
  intro e
  have:(jk sep (x :: y :: l)).length=0:=by rw[e];rfl
  simp only[jk,abg] at this
  have:sep.length=0:=by omega
  exact hs (aqy.1 this)
theorem anu {nm:NM} {x:Ex} (hg:kS nm.length x) (hn:∀s∈nm,s≠[]):eF nm x≠[]:=by
 obtain ⟨hn0,_⟩:=(oO _ _).1 hg
 obtain ⟨ho,hle,hi⟩:=nH hn0
 rw[qH]
 split
 ·simp
 rename_i h0
 split
 ·rename_i h1
  have ht:uN x.op nm.length=nm.length-1:=by unfold uN;rw[if_neg h0,if_pos h1]
  rw[ht] at hi
  exact hn _ (aeJ (bJ [] (show x.idx.toNat<nm.length by omega)))
 rename_i h1
 split
 ·simp
 ·rename_i h2
  have:nV x.op=2:=by unfold nV;rw[if_neg h2,if_pos (by omega)]
  exact an6 (by unfold zm;split<;>simp) (by rw[aot];omega)
theorem ao4 {nm:NM} {x:Ex} {out:Int} (h:out<0):qj nm x out=eF nm x:=by
 unfold qj wrB
 rw[decide_eq_false (show ¬0≤out by omega),aoH,apT];rfl
def wrC (Q:WrA→Prop):rz:={ wrG 0 with pre:=fun a=>akL a∧Q a }
theorem asZ:jT Tryz.prog 141 (wrC fun a=>a.st=true∧a.x.op=1):=by
 refine qg (Tb:=tab) mixed ay Tryz.func141 rfl rfl ?_
 rintro ⟨st,nm,bs,x,out⟩ hpre
 refine ai (ai rfl (ai rfl rfl)) ?_
 obtain ⟨⟨hg,hs,hnm,hnl,hlen⟩,hst,hQ⟩:=hpre
 obtain rfl:st=true:=hst
 have hg:kS nm.length x:=hg
 have hnm:abX nm:=hnm
 have hlen:bs.length+110*x.size≤500000:=hlen
 obtain ⟨hn0,hga⟩:=(oO _ _).1 hg
 obtain ⟨ho,hle,hi⟩:=nH hn0
 have hA:=qH nm x
 have hQ:x.op=1:=hQ
 refine ah (p:=x.op=0) (eZ (by omega)) (fun h0=>?_) (fun h0=>?_)
 ·exact absurd h0 (by omega)
 rw[if_neg h0] at hA
 refine ah (p:=x.op=1) (eZ (by omega)) (fun h1=>?_) (fun h1=>?_)
 ·rw[if_pos h1] at hA
  have hnk:(nm.getD x.idx.toNat []).length≤100:=hnm _
  have ht:uN x.op nm.length=nm.length-1:=by rw[h1];rfl
  rw[ht] at hi
  have hW:qj nm x out=nm.getD x.idx.toNat []:=by
   unfold qj wrB;rw[hA,h1];rfl
  refine ei (.one 0 (.one 1 (.one 2 (.one 3 (.one 4 (.one 5 (.one 6 (.one 7 (.one 8 (.one 9 (.one 10 (.wr 11 .done)))))))))))) (ai (by kernel_rfl) ?_)
  refine ai (ai hi.1 (by show x.idx<(nm.length:Int);omega)) ?_
  refine ai rfl ?_
  refine eX (ahV) ((true,nm,bs,nm.getD x.idx.toNat [])) [0,1] (a4 (ai rfl rfl)) (Or.inl rfl) (by exact (ai (ai rfl rfl) rfl)) (by exact (ai (ai rfl (ai (ai rfl rfl) (ai rfl (ai rfl (fun _ _=>rfl))))) (ai rfl (ai rfl (ai rfl (fun _ _=>rfl)))))) (⟨by show bs.length≤1000000;omega,by show (nm.getD x.idx.toNat []).length≤1000000;exact ajJ hnk (by decide)⟩) ?_
  refine ei [0,3] (ai (ai rfl (ai rfl rfl)) (ai (by exact trivial) ?_))
  refine (ai (ai rfl (ai (ai rfl rfl) (ai rfl (ai rfl (fun _ _=>rfl))))) (ai rfl (ai rfl (ai ?_ ?_))))
  ·exact congrArg List.length (congrArg (fun t=>bs++t) hW.symm)
  ·exact fun k _=>congrArg (fun l=>[cP (l.getD k 0)]) (congrArg (fun t=>bs++t) hW.symm)
 exact absurd hQ h1
theorem anX:jT Tryz.prog 141 (wrC fun a=>a.st=false∧a.x.op=1):=by
 refine qg (Tb:=tab) mixed ay Tryz.func141 rfl rfl ?_
 rintro ⟨st,nm,bs,x,out⟩ hpre
 refine ai (ai rfl (ai rfl rfl)) ?_
 obtain ⟨⟨hg,hs,hnm,hnl,hlen⟩,hst,hQ⟩:=hpre
 obtain rfl:st=false:=hst
 have hg:kS nm.length x:=hg
 have hnm:abX nm:=hnm
 have hlen:bs.length+110*x.size≤500000:=hlen
 obtain ⟨hn0,hga⟩:=(oO _ _).1 hg
 obtain ⟨ho,hle,hi⟩:=nH hn0
 have hA:=qH nm x
 have hQ:x.op=1:=hQ
 refine ah (p:=x.op=0) (eZ (by omega)) (fun h0=>?_) (fun h0=>?_)
 ·exact absurd h0 (by omega)
 rw[if_neg h0] at hA
 refine ah (p:=x.op=1) (eZ (by omega)) (fun h1=>?_) (fun h1=>?_)
 ·rw[if_pos h1] at hA
  have hnk:(nm.getD x.idx.toNat []).length≤100:=hnm _
  have ht:uN x.op nm.length=nm.length-1:=by rw[h1];rfl
  rw[ht] at hi
  have hW:qj nm x out=nm.getD x.idx.toNat []:=by
   unfold qj wrB;rw[hA,h1];rfl
  refine ei (.one 0 (.one 1 (.one 2 (.one 3 (.one 4 (.one 5 (.one 6 (.one 7 (.one 8 (.one 9 (.one 10 (.wr 11 .done)))))))))))) (ai (by kernel_rfl) ?_)
  refine ai (ai hi.1 (by show x.idx<(nm.length:Int);omega)) ?_
  refine ai rfl ?_
  refine eX (ahV) ((false,nm,bs,nm.getD x.idx.toNat [])) [0,1] (a4 (ai rfl rfl)) (Or.inl rfl) (by exact (ai (ai rfl rfl) rfl)) (by exact (ai (ai rfl (ai rfl (ai rfl (ai rfl (fun _ _=>rfl))))) (ai rfl (ai rfl (ai rfl (fun _ _=>rfl)))))) (⟨by show bs.length≤1000000;omega,by show (nm.getD x.idx.toNat []).length≤1000000;exact ajJ hnk (by decide)⟩) ?_
  refine ei [0,3] (ai (ai rfl (ai rfl rfl)) (ai (by exact trivial) ?_))
  refine (ai (ai rfl (ai (ai rfl rfl) (ai rfl (ai rfl (fun _ _=>rfl))))) (ai rfl (ai rfl (ai ?_ ?_))))
  ·exact congrArg List.length (congrArg (fun t=>bs++t) hW.symm)
  ·exact fun k _=>congrArg (fun l=>[cP (l.getD k 0)]) (congrArg (fun t=>bs++t) hW.symm)
 exact absurd hQ h1
theorem asR:jT Tryz.prog 141 (wrC fun a=>a.st=false∧(a.x.op=3∧a.out<0)∧∀y∈a.x.args,y.op=1):=by
 refine qg (Tb:=tab) mixed ay Tryz.func141 rfl rfl ?_
 rintro ⟨st,nm,bs,x,out⟩ hpre
 refine ai (ai rfl (ai rfl rfl)) ?_
 obtain ⟨⟨hg,hs,hnm,hnl,hlen⟩,hst,hQ,hv⟩:=hpre
 obtain rfl:st=false:=hst
 have hv:∀y∈x.args,y.op=1:=hv
 have hg:kS nm.length x:=hg
 have hs:x.size≤256:=hs
 have hnm:abX nm:=hnm
 have hnl:nm.length≤256:=hnl
 have hlen:bs.length+110*x.size≤500000:=hlen
 have hsp:=size_pos x
 have hal:=qJ x
 have hsz:=x.size_eq
 obtain ⟨hn0,hga⟩:=(oO _ _).1 hg
 obtain ⟨ho,hle,hi⟩:=nH hn0
 have hA:=qH nm x
 have hQ:x.op=3∧out<0:=hQ
 refine ah (p:=x.op=0) (eZ (by omega)) (fun h0=>?_) (fun h0=>?_)
 ·exact absurd h0 (by omega)
 rw[if_neg h0] at hA
 refine ah (p:=x.op=1) (eZ (by omega)) (fun h1=>?_) (fun h1=>?_)
 ·exact absurd h1 (by omega)
 rw[if_neg h1] at hA
 refine ah (p:=x.op=2) (eZ (by omega)) (fun h2=>?_) (fun h2=>?_)
 ·exact absurd h2 (by omega)
 rw[if_neg h2] at hA
 have hl2:2≤x.args.length:=by
  have:nV x.op=2:=by unfold nV;rw[if_neg h2,if_pos (by omega)]
  omega
 have hW:qj nm x out=eF nm x:=by
  unfold qj wrB;rw[decide_eq_false (show ¬0≤out by omega)];simp[adS]
 refine ah (p:=0≤out) (cO (by omega)) (fun h3=>?_) (fun h3=>?_)
 ·exact absurd h3 (by omega)
 refine ah (p:=x.op=4) (eZ (by omega)) (fun h4=>?_) (fun h4=>?_)
 ·exact absurd h4 (by omega)
 ·refine ei (bg.inv { X:=Nat,up:=fun k=>[(71,.s (iA k))],uo:=fun k=>[⟨0,202,[.s (asO false k),.rw 5 1 (jF nm (bs) [32,38,32] x.op x.args k).length (fun j=>[cP ((jF nm (bs) [32,38,32] x.op x.args k).getD j 0)]),.s (ssA nm)]⟩],inv:=fun k=>k≤x.args.length∧(True),meas:=fun k=>x.args.length-k,x0:=0 }) ?_
  refine ai (ai (ai (by exact (a4 (ai rfl rfl))) (ai ?_ ?_)) rfl) (ai (ai (aeT _) ?_) ?_)
  ·exact (ai (ai (fun _=>rfl) (iE (by simp only[zz,reduceCtorEq];rfl))) rfl)
  ·refine (ai (ai (ai (ai nof rfl) rfl) (ai (ai rfl (ai rfl (ai ?_ ?_))) (ai (ai nof (ai rfl (fun _ _=>rfl))) rfl))) trivial)
   ·exact congrArg List.length (vR nm (bs) [32,38,32] x.op x.args).symm
   ·exact fun j _=>congrArg (fun l=>[cP (l.getD j 0)]) (vR nm (bs) [32,38,32] x.op x.args).symm
  ·trivial
  intro (k:Nat) ⟨hk,_⟩
  have hpl:=anL (nm:=nm) (base:=bs) (sep:=[32,38,32]) (o:=x.op) hnm rfl hk
  cases k with
  | zero=>
   have hk0:0<x.args.length:=by omega
   refine ah (p:=0<x.args.length) (au (by dsimp only;omega)) (fun h5=>?_) (fun h5=>?_)
   ·refine ai (ai (abw _) (iN (n:=x.args.length) (by omega))) (ai rfl ?_)
    have hy:x.args.getD 0 bV∈x.args:=aeJ (qo hk0)
    have hms:=jh hy
    have hb0:=congrArg List.length (vR nm (bs) [32,38,32] x.op x.args)
    have hB:(bs).length≤bs.length+1:=by simp
    refine eX (anX) (⟨false,nm,jF nm (bs) [32,38,32] x.op x.args 0,x.args.getD 0 bV,x.op⟩) [0,3] (a4 (ai rfl rfl)) (Or.inl rfl) (by exact (ai (ai rfl rfl) (ai (ai (iE (by simp only[zz,reduceCtorEq])) (ai (iE (by simp only[zz,reduceCtorEq])) (ai rfl (wB _)))) rfl))) (by exact (ai (ai rfl (ai rfl (ai rfl (ai rfl (fun _ _=>rfl))))) (ai rfl (ai rfl (ai rfl (fun _ _=>rfl)))))) (ai ⟨hga _ hy,by show (x.args.getD 0 bV).size≤256;omega,hnm,hnl,by show (jF nm (bs) [32,38,32] x.op x.args 0).length+110*(x.args.getD 0 bV).size≤_;omega⟩ ⟨rfl,hv _ hy⟩) ?_
    have eN:jF nm (bs) [32,38,32] x.op x.args 0++qj nm (x.args.getD 0 bV) x.op=jF nm (bs) [32,38,32] x.op x.args (0+1):=by
     rw[aiN nm _ ho.1,vR,anY hk0]
    refine ei (0+1) (ai (ai rfl rfl) (ai (ai (ai rfl (ai (ai rfl rfl) (ai (ai rfl rfl) (ai (ai (ai (fun _=>rfl) (aH (by omega))) rfl) (ai (ai (ai (ai rfl rfl) rfl) (ai (ai rfl (ai rfl (ai ?_ ?_))) (ai (ai nof (ai rfl (fun _ _=>rfl))) rfl))) trivial))))) rfl) (ai (ai (iL (by omega)) trivial) (iM (by omega)))))
    ·exact congrArg List.length eN
    ·exact fun j _=>congrArg (fun l=>[cP (l.getD j 0)]) eN
   ·exact absurd hk0 h5
  | succ k=>
   refine ah (p:=k+1<x.args.length) (au (by dsimp only;omega)) (fun h5=>?_) (fun h5=>?_)
   ·refine ai (ai (abw _) (iN (n:=x.args.length) (by omega))) (ai rfl ?_)
    have hy:x.args.getD (k+1) bV∈x.args:=aeJ (qo h5)
    have hms:=jh hy
    have hss:=yt h5
    have hst:=adB x.args (k+1+1)
    have hB:(bs).length≤bs.length+1:=by simp
    rw[if_neg (by omega)] at hpl
    refine ah (p:=0<k+1) (au (by omega)) (fun h6=>?_) (fun h6=>?_)
    ·refine eX (ahV) ((true,nm,jF nm (bs) [32,38,32] x.op x.args (k+1),[32,38,32])) [0,3] (a4 (ai rfl rfl)) (Or.inl rfl) (by exact (ai (ai rfl rfl) rfl)) (by exact (ai (ai rfl (ai (ai rfl rfl) (ai rfl (ai rfl (fun _ _=>rfl))))) (ai rfl (ai rfl (ai rfl (fun _ _=>rfl)))))) (⟨by show (jF nm (bs) [32,38,32] x.op x.args (k+1)).length≤1000000;omega,by show ([32,38,32]:List UInt8).length≤1000000;simp⟩) ?_
     refine eX (asZ) (⟨true,nm,jF nm (bs) [32,38,32] x.op x.args (k+1)++[32,38,32],x.args.getD (k+1) bV,x.op⟩) [0,5] (a4 (ai rfl rfl)) (Or.inl rfl) (by exact (ai (ai rfl rfl) (ai (ai (iE (by simp only[zz,reduceCtorEq])) (ai (iE (by simp only[zz,reduceCtorEq])) (ai rfl (wB _)))) rfl))) (by exact (ai (ai rfl (ai (ai rfl rfl) (ai rfl (ai rfl (fun _ _=>rfl))))) (ai rfl (ai rfl (ai rfl (fun _ _=>rfl)))))) (ai ⟨hga _ hy,by show (x.args.getD (k+1) bV).size≤256;omega,hnm,hnl,by show (jF nm (bs) [32,38,32] x.op x.args (k+1)++[32,38,32]).length+110*(x.args.getD (k+1) bV).size≤_;rw[abg];show (jF nm (bs) [32,38,32] x.op x.args (k+1)).length+3+110*(x.args.getD (k+1) bV).size≤_;omega⟩ ⟨rfl,hv _ hy⟩) ?_
     have eN:jF nm (bs) [32,38,32] x.op x.args (k+1)++[32,38,32]++qj nm (x.args.getD (k+1) bV) x.op=jF nm (bs) [32,38,32] x.op x.args (k+1+1):=by
      rw[aiN nm _ ho.1,al0 h5]
     refine ei ((k+1)+1) (ai (ai rfl rfl) (ai (ai (ai rfl (ai (ai rfl rfl) (ai (ai rfl rfl) (ai (ai (ai (fun _=>rfl) (aH (by omega))) rfl) (ai (ai (ai (ai rfl rfl) rfl) (ai (ai rfl (ai rfl (ai ?_ ?_))) (ai (ai nof (ai rfl (fun _ _=>rfl))) rfl))) trivial))))) rfl) (ai (ai (iL (by omega)) trivial) (iM (by omega)))))
     ·exact congrArg List.length eN
     ·exact fun j _=>congrArg (fun l=>[cP (l.getD j 0)]) eN
    ·exact absurd (Nat.succ_pos k) h6
   ·have hke:k+1=x.args.length:=by omega
    have eT:jF nm (bs) [32,38,32] x.op x.args (k+1)=bs++eF nm x:=by
     rw[hke,amQ,hA];unfold zm;rw[if_neg h4]
    refine ei [0,3] (ai (ai rfl (ai rfl rfl)) (ai (by exact trivial) ?_))
    refine (ai (ai rfl (ai (ai rfl rfl) (ai rfl (ai rfl (fun _ _=>rfl))))) (ai rfl (ai rfl (ai ?_ ?_))))
    ·exact congrArg List.length (eT.trans (congrArg (fun t=>bs++t) hW.symm))
    ·exact fun k _=>congrArg (fun l=>[cP (l.getD k 0)]) (eT.trans (congrArg (fun t=>bs++t) hW.symm))
def abN (x:Ex):Prop:=x.op=1∨x.op=3∧∀y∈x.args,y.op=1
theorem ak4:jT Tryz.prog 141 (wrC fun a=>a.st=false∧a.out<0∧abN a.x):=
 ⟨anX.1,fun a hp base E vs w hg hh hA=>by
  obtain ⟨h1,h2,h3,h4⟩:=hp
  rcases h4 with h4 | ⟨h4,h5⟩
  ·exact anX.2 a ⟨h1,h2,h4⟩ base E vs w hg hh hA
  ·exact asR.2 a ⟨h1,h2,⟨h4,h3⟩,h5⟩ base E vs w hg hh hA⟩
def aqz (a:NM×Ex×Int):Prop:=akL ⟨false,a.1,[],a.2.1,a.2.2⟩∧a.2.2<0∧abN a.2.1
theorem akf:jT Tryz.prog 141 { A:=NM×Ex×Int,fix:=1,args:=fun a=>[.own 0 0,tq a.2.1,iA a.2.2],objs:=fun a=>[.cells 202 (qF :: aar :: nmR a.1)],pre:=aqz,res:=fun _=>.tup [],objs':=fun a=>[bld 202 (nmR a.1),oQ ([]++qj a.1 a.2.1 a.2.2)] }:=
 ahU (T:=202) (rest:=fun a:NM×Ex×Int=>nmR a.1) ⟨ak4.1,fun a hp=>ak4.2 ⟨false,a.1,[],a.2.1,a.2.2⟩ ⟨hp.1,rfl,hp.2.1,hp.2.2⟩⟩
def ai7 (a:Ex×NM):Prop:=kK a.2=0∧dB a.1 a.2.length=0∧(∀k,(a.2.getD k []).length≤100)∧(∀s∈a.2,s≠[])∧a.1.size≤256∧(eF a.2 a.1).length≤4096∧abN a.1
theorem akB:aG Tryz.prog 82 (bM (fun a:Ex×NM=>[tq a.1,ssA a.2]) ai7 (fun a=>.tup [sP (eF a.2 a.1),iP 0])):=by
 refine jC [141,142,84] ?_
 refine aU (Tb:=tab) mixed ay Tryz.func82 rfl rfl ?_
 rintro ⟨x,nm⟩ hpre
 refine ai (ai rfl (ai rfl rfl)) ?_
 obtain ⟨h1,h2,h3,h4,h5,h6,h7⟩:=hpre
 have h1:kK nm=0:=h1
 have h2:dB x nm.length=0:=h2
 have h3:∀k,(nm.getD k []).length≤100:=h3
 have h4:∀s∈nm,s≠[]:=h4
 have h5:x.size≤256:=h5
 have h6:(eF nm x).length≤4096:=h6
 obtain ⟨hn,_,hg⟩:=qV.1 h2
 have hnl:∀s∈nm,s.length≤1000000:=fun s hs=>by
  obtain ⟨k,hk,rfl⟩:=arD hs
  have:=h3 k
  rw[abl,abr hk] at this
  have this:(nm[k]).length≤100:=this
  omega
 refine ei _ (ai (anN) (ei (nm) (ei [] (ai (a4 (ai (fun _=>Or.inl rfl) (ai nof (Or.inl rfl)))) (ai (by exact (ai rfl (fun _ _=>rfl))) (ai trivial (ai (hnl) ?_)))))))
 refine aZ (p:=kK nm=0) (bI (by omega)) (fun g1=>?_) (fun g1=>?_)
 ·exact absurd h1 g1
 refine ei _ (ai (abR) (ei ((x,(nm.length:Int))) (ei [] (ai (a4 (ai (fun _=>Or.inl rfl) (ai nof (Or.inl rfl)))) (ai (by exact (ai (ai rfl (ai rfl (ai rfl (fun _ _=>rfl)))) rfl)) (ai trivial (ai ((by show x.size≤1000000;omega)) ?_)))))))
 refine aZ (p:=dB x nm.length=0) (bI (by dsimp only;omega)) (fun g2=>?_) (fun g2=>?_)
 ·exact absurd h2 g2
 refine eX (akf) ((nm,x,-1)) [1] (a4 (ai rfl rfl)) (Or.inl rfl) (by exact (ai (ai rfl rfl) (ai (ai rfl (ai rfl (ai rfl (fun _ _=>rfl)))) rfl))) (by exact (ai rfl (ai rfl (ai rfl (ai rfl (fun _ _=>rfl)))))) (⟨⟨hg,h5,h3,by show nm.length≤256;omega,by show 0+110*x.size≤500000;omega⟩,(by show (-1:Int)<0;decide),h7⟩) ?_
 have eW:([]:List UInt8)++qj nm x (-1)=eF nm x:=by rw[ao4 (by decide)];rfl
 refine eX (ap7) ((nm,[]++qj nm x (-1))) [1,2] (a4 (ai rfl rfl)) (Or.inl rfl) (by exact (ai rfl rfl)) (by exact (ai (ai rfl (ai (ai rfl rfl) (ai rfl (ai rfl (fun _ _=>rfl))))) (ai rfl (ai rfl (ai rfl (fun _ _=>rfl)))))) (trivial) ?_
 refine ah (p:=4096<(([]:List UInt8)++qj nm x (-1)).length) (au (by dsimp only;omega)) (fun g3=>?_) (fun g3=>?_)
 ·rw[eW] at g3;exact absurd h6 (by omega)
 refine aml (ajD 202 3) rfl rfl rfl rfl ([]++qj nm x (-1)) rfl (by rw[eW];exact anu hg h4) (fun k _=>rfl) ?_
 refine ai (ai (fun _=>(by exact (ai trivial trivial))) ?_) trivial
 show ak _ (PV.tup [sP (eF nm x),iP 0])
 rw[show eF nm x=[]++qj nm x (-1) from eW.symm]
 exact (ai rfl rfl)
def apg (c:aN):Prop:=fC c∧(bE c=0→∀t∈c.trs,t.wh.size≤120∧abN t.wh)
theorem amT {c:aN} (h:bE c=0) (h2:∀t∈c.trs,t.wh.size≤120∧abN t.wh) {k:Nat} (hk:k<c.trs.length):ai7 ((c.trs.getD k aD).wh,dS c):=by
 have hn:=(rR h).2.2.1
 have hs:=h2 _ (aeJ (bJ aD hk))
 refine ⟨akT h,?_,aoE h,fun s hm e=>?_,by show (c.trs.getD k aD).wh.size≤256;omega,?_,hs.2⟩
 ·show dB (c.trs.getD k aD).wh ((dS c).length:Int)=0
  rw[hn];exact (jJ h hk).2.2
 ·have:=((rR h).1 s hm).2
  rw[e] at this;exact absurd this (by decide)
 ·have:=acF (agW h) _ _ (ahl (c.trs.getD k aD).wh.size)
  show (eF (dS c) (c.trs.getD k aD).wh).length≤4096
  omega
end Go.Sx.Pe
