/- The card of CompileReads: for every input the law answers true, and its arguments read as they did. -/
import Derived.Test.YtagbjlbohahcaaaGreatDoorR6
set_option maxHeartbeats 1000000
set_option maxRecDepth 4000
set_option linter.unusedSimpArgs false
set_option linter.unusedVariables false
set_option linter.unusedSectionVars false
namespace Go.Sx.Pe
open Go Go.Proofs Go.Sx.Pn
set_option maxHeartbeats 8000000 in
theorem ars:av Tryz.prog 26 (bO (fun a:aB×dw=>[iG a.1,kE a.2]) og (fun a=>adj (sK a.1 a.2) (zo a.1 a.2))):=by
 have h:av Tryz.prog 26 (bO (fun a:aB×dw=>[iG a.1,kE a.2]) og (fun a=>dz (sK a.1 a.2) (zo a.1 a.2))):=by
  refine vI [59,51,95,96,61,5000029,1000010,1000011] Tryz.func26 ?_
  rintro ⟨c,s⟩ hpre
  obtain ⟨ho,hsl,hsm⟩:=hpre
  have ho:jr c:=ho
  refine mY mixed fQ Tryz.func59 rfl rfl ?_
  refine ai rfl ?_
  refine mY mixed fQ Tryz.func51 rfl rfl ?_
  refine ai rfl ?_
  refine cK (aaf) (c) (by exact (ai rfl (ai (ai rfl (fun _ _=>rfl)) (ai (ai rfl (fun _ _=>rfl)) (ai rfl (fun _ _=>rfl)))))) (ho) ?_
  refine bN (bV c=0) (fun h1=>?_) fun h1=>?_
  ·have e:cu c=bV c:=if_pos h1
   have h2:¬cu c=0:=by rw[e];exact h1
   refine bT (by exact bn (p:=True) ⟨fun _=>trivial,fun _=>h1⟩ |>.2 trivial) ?_
   refine dR (.seq [0,1,2,3,4]) ?_
   refine bT (by exact bn (p:=True) ⟨fun _=>trivial,fun _=>h1⟩ |>.2 trivial) ?_
   have e:bR c s=bV c:=by unfold bR;rw[if_pos h2,e]
   have h2:¬bR c s=0:=by rw[e];exact h1
   have e2:sK c s=bR c s:=if_pos h2
   refine eF (dz (sK c s) (zo c s)) ?_
   rw[e2,dz,if_neg h2,e]
   exact (ai rfl rfl)
  have hc:jP c:=⟨h1,ho⟩
  obtain ⟨⟨ha1,ha6⟩,hi16,hs24,ht32⟩:=dA hc
  have hb:aJ c=2*c.act+c.ins.length:=rfl
  have hwf:IntKind.i64.wrap (IntKind.i64.wrap (2*c.act)+(c.ins.length:Int))=aJ c:=by
   rw[dF (n:=2*c.act) (by omega) (by omega),dF (by omega) (by omega)];rfl
  refine gI (wJ) (c) [7] (by exact (ai rfl rfl)) (by exact (ai rfl (ai (iE (by simp only[zz,reduceCtorEq];omega)) (ai rfl (ai rfl (ai (ai rfl (fun _ _=>rfl)) (ai (ai rfl (fun _ _=>rfl)) (ai (ai rfl (fun _ _=>rfl)) (ai rfl (ai rfl rfl)))))))))) (hc) ?_
  by_cases hB:bH (dH c)=0
  ·have e0:cu c=0:=mo.2 ⟨h1,hB⟩
   refine gI (yZ) (c) [7] (by exact (ai rfl rfl)) (by exact (ai rfl (ai rfl (ai rfl (ai rfl (ai (ai rfl (fun _ _=>rfl)) (ai (ai rfl (fun _ _=>rfl)) (ai (ai rfl (fun _ _=>rfl)) (ai (ai rfl (fun _ _=>rfl)) (ai (ai rfl (fun _ _=>rfl)) (ai rfl (fun _ _=>rfl)))))))))))) (⟨hc,decide_eq_true hB⟩) ?_
   refine dR (.seq [0,1,2,3,4,5]) ?_
   refine dR (.seq [0,1,2,3,4,5,6,7]) ?_
   refine cK (aaK) ((dH c,s)) (by exact (ai (ai rfl (ai (ai rfl (fun _ _=>rfl)) (ai (ai rfl (fun _ _=>rfl)) (ai (ai rfl (fun _ _=>rfl)) (ai rfl (fun _ _=>rfl)))))) (ai (ai rfl (fun _ _=>rfl)) (ai (ai rfl (fun _ _=>rfl)) (ai (ai rfl (fun _ _=>rfl)) (ai (ai rfl (fun _ _=>rfl)) (ai rfl (fun _ _=>rfl)))))))) (⟨vM hc,hsl⟩) ?_
   have e:bR c s=mW (dH c) s:=by unfold bR;rw[if_neg (fun h=>h e0)]
   refine aW (p:=mW (dH c) s=0) (bn (by dsimp only;omega)) (fun h3=>?_) (fun h3=>?_)
   ·have h2:¬bR c s=0:=by rw[e];exact h3
    have e2:sK c s=bR c s:=if_pos h2
    refine eF (dz (sK c s) (zo c s)) ?_
    rw[e2,dz,if_neg h2,e]
    exact (ai rfl rfl)
   have hr:uG (c,s):=⟨hc,h3,hsm⟩
   have e0:bR c s=0:=by rw[e];exact h3
   have h5:=(mq hr).2.2.2.2
   have hs0:0<c.sts.length:=(mG hc.1).2.2.1.1
   have hvl:s.vl.length≤100000:=hsm.2.2
   have hl:(gV c s).length=c.sts.length:=yX hr
   have hol:=zx hr
   refine ei _ (ai (aij) (ei ((c,s)) (ei [7] (ai (a4 (ai (fun _=>Or.inl rfl) (ai nof (Or.inl rfl)))) (ai (by exact (ai (ai rfl rfl) (ai (ai rfl (ai (ai rfl (fun _ _=>rfl)) (ai (ai rfl (fun _ _=>rfl)) (ai (ai rfl (fun _ _=>rfl)) (ai rfl (fun _ _=>rfl)))))) (ai (ai rfl (fun _ _=>rfl)) (ai (ai rfl (fun _ _=>rfl)) (ai (ai rfl (fun _ _=>rfl)) (ai (ai rfl (fun _ _=>rfl)) (ai rfl (fun _ _=>rfl))))))))) (ai (by exact (ai rfl (ai rfl (ai trivial (ai trivial (ai trivial (ai trivial (ai trivial (ai trivial (ai trivial trivial)))))))))) (ai (⟨hr,hsl⟩) ?_)))))))
   refine dR (.one 0 (.one 1 (.one 2 (.one 3 (.one 4 (.one 5 (.one 7 (.altw 6 (.one 8 (.one 9 (.one 10 (.one 11 .done)))) (.alt 8 (.wr 6 (.one 9 (.one 10 (.one 11 .done)))) .stop))))))))) ?_
   refine ai (ai (awF _) (ai (abw _) (by show ((c.sts.length:Nat):Int)≤((s.vl.length:Nat):Int);omega))) ?_
   refine ai (fun _ _=>rfl) ?_
   refine ai ?_ (ai ?_ trivial)
   all_goals
    refine mY mixed fQ Tryz.func61 rfl rfl ?_
    refine ai rfl ?_
    intro b hb
    refine iB (fun hb0=>?_) (fun hb0=>?_)
    ·have hb1:c.sts.length-0=0:=hb hb0
     exact absurd hb1 (by omega)
    refine ai (mxL (n:=0+(c.sts.length-0)) (by omega) (by decide)) (ai (fun _ _=>rfl) ?_)
    refine ei _ (ai (ajb) (ei ((c,s)) (ei [7] (ai (a4 (ai (fun _=>Or.inl rfl) (ai nof (Or.inl rfl)))) (ai (by exact (ai (ai rfl rfl) (ai (ai rfl (fun _ _=>rfl)) (ai (ai rfl (fun _ _=>rfl)) (ai (ai rfl (fun _ _=>rfl)) (ai (ai rfl (fun _ _=>rfl)) (ai rfl (fun _ _=>rfl)))))))) (ai (by exact (ai rfl (ai rfl (ai trivial (ai trivial (ai trivial (ai trivial (ai trivial (ai trivial (ai (ai rfl (fun _ _=>rfl)) trivial)))))))))) (ai (hr) ?_)))))))
    refine fR (65) (fun r=>[(48,.s (iA r)),(10,.s (qh (bJ c s r).1)),(11,.s (qh (bJ c s r).2))]) (fun r=>[]) (fun r=>∀q,q<r→ru c s q=false) ?_ ?_ ?_ ?_
    ·refine (ai (ai (ai (fun _=>rfl) (iE (by omega))) rfl) (ai (ai (ai nof (ai ?_ ?_)) rfl) (ai (ai (fun _=>rfl) (ai rfl (fun _ _=>rfl))) rfl)))
     ·show 0+(c.sts.length-0)=(gV c s).length
      omega
     ·intro k hk
      have hk:k<0+(c.sts.length-0):=hk
      refine (abX k hk).trans ?_
      show [bP (s.vl.getD (0+k) false)]=[bP ((gV c s).getD k false)]
      rw[ahv]
      unfold gV
      rw[aaG,aaG,ar8,if_pos (by omega)]
    ·exact trivial
    ·exact fun q hq=>absurd hq (aeH _)
    intro (r:Nat) ⟨hrr,hall⟩
    have hl1:=(ahe hr r).1
    have hl2:=(ahe hr r).2
    refine bL (r<65) (fun g=>?_) fun g=>?_
    ·refine dR (.seq [0,1,2,3,4,5,6,7,8,9,10,11,12,13]) ?_
     refine cK (aiV) (⟨pY c s,(bJ c s r).1,(bJ c s r).2⟩) (by exact (ai (ai rfl (fun _ _=>rfl)) (ai (ai rfl (fun _ _=>rfl)) (ai rfl (fun _ _=>rfl))))) (⟨by show 0<(pY c s).length;omega,by show (pY c s).length≤1000;omega,by show ((bJ c s r).1).length≤1000;omega,by show ((bJ c s r).2).length=((bJ c s r).1).length;omega⟩) ?_
     have hgv:=apW hr (a:=(bJ c s r).1) (d:=(bJ c s r).2) hl1
     have ev:=aj5 c s (bJ c s r).1 (bJ c s r).2 hl1
     have ef:yV c (bJ c s r).1 (vaK ⟨pY c s,(bJ c s r).1,(bJ c s r).2⟩ (bJ c s r).1.length)=.tup [iR (af6 c s (bJ c s r).1 (bJ c s r).2),fT (aat c (bJ c s r).1 (iW c s (bJ c s r).1 (bJ c s r).2)),iP 0]:=by
      rw[ev,amP];unfold aju;rw[if_pos hgv];rfl
     refine cK ((nD att (c,(bJ c s r).1,vaK ⟨pY c s,(bJ c s r).1,(bJ c s r).2⟩ (bJ c s r).1.length) ho ef)) (()) (by exact (ai (ai rfl (ai (ai rfl (fun _ _=>rfl)) (ai (ai rfl (fun _ _=>rfl)) (ai rfl (fun _ _=>rfl))))) (ai (ai rfl (fun _ _=>rfl)) (ai rfl (fun _ _=>rfl))))) (trivial) ?_
     refine mY mixed fQ Tryz.func61 rfl rfl ?_
     refine ai rfl ?_
     intro b2 hb2
     refine iB (fun hb3=>?_) (fun hb3=>?_)
     ·have hb4:((bJ c s r).2).length=0:=hb2 hb3
      exact absurd hb4 (by omega)
     refine ai (mxL (n:=0+((bJ c s r).2).length) (by omega) (by decide)) (ai (fun _ _=>rfl) ?_)
     refine fR (c.sts.length) (fun k=>[(69,.s (iA k)),(15,vP (lW c (bJ c s r).1 (bJ c s r).2 k))]) (fun k=>[]) (fun k=>True) ?_ ?_ ?_ ?_
     ·refine (ai (ai (ai (fun _=>rfl) (iE (by omega))) rfl) (ai rfl (ai rfl (ai ?_ (fun _ _=>rfl)))))
      exact ahv _
     ·exact trivial
     ·trivial
     intro (k:Nat) ⟨hk,_⟩
     have hlm:=ow c (bJ c s r).1 (bJ c s r).2 k
     refine ah (p:=k<c.sts.length) (aA (by dsimp only;omega)) (fun g2=>?_) (fun g2=>?_)
     ·refine iX (k) (c.sts.length) ?_
      refine iX (k) (((bJ c s r).2).length) ?_
      refine aC (b:=((bJ c s r).2).getD k false) rfl (fun q1=>?_) (fun q1=>?_)
      ·refine aC (b:=(c.sts.getD k st0).wt==0) rfl (fun q2=>?_) (fun q2=>?_)
       ·refine ai (ai (abw _) (by show ((k:Nat):Int)<((lW c (bJ c s r).1 (bJ c s r).2 k).length:Int);omega)) ?_
        refine ai (ai (by show ((k:Nat):Int).toNat<(lW c (bJ c s r).1 (bJ c s r).2 k).length;omega) (acM _)) ?_
        have el:rR c (bJ c s r).1 (bJ c s r).2 k=true:=by unfold rR;rw[q1,q2,ajm,aer]
        refine nX (k) (ai (ai (ai (fun _=>rfl) (aG (by omega))) rfl) (ai rfl (ai rfl (ai ?_ ?_)))) trivial trivial
        ·rw[ow,ow]
        ·intro q hq
         show ji (fun w=>[bP ((lW c (bJ c s r).1 (bJ c s r).2 k).getD w false)]) k 0 [bP (true)] q=[bP (((lW c (bJ c s r).1 (bJ c s r).2 k).set k (rR c (bJ c s r).1 (bJ c s r).2 k)).getD q false)]
         rw[el]
         exact jR (by omega) _ q
       ·refine iX (k) (((bJ c s r).1).length) ?_
        refine ai (ai (abw _) (by show ((k:Nat):Int)<((lW c (bJ c s r).1 (bJ c s r).2 k).length:Int);omega)) ?_
        refine ai (ai (by show ((k:Nat):Int).toNat<(lW c (bJ c s r).1 (bJ c s r).2 k).length;omega) (acM _)) ?_
        have el:rR c (bJ c s r).1 (bJ c s r).2 k=((bJ c s r).1).getD k false:=by unfold rR;rw[q1,q2,ar5,aer]
        refine nX (k) (ai (ai (ai (fun _=>rfl) (aG (by omega))) rfl) (ai rfl (ai rfl (ai ?_ ?_)))) trivial trivial
        ·rw[ow,ow]
        ·intro q hq
         show ji (fun w=>[bP ((lW c (bJ c s r).1 (bJ c s r).2 k).getD w false)]) k 0 [bP (((bJ c s r).1).getD k false)] q=[bP (((lW c (bJ c s r).1 (bJ c s r).2 k).set k (rR c (bJ c s r).1 (bJ c s r).2 k)).getD q false)]
         rw[el]
         exact jR (by omega) _ q
      ·refine ai (ai (abw _) (by show ((k:Nat):Int)<((lW c (bJ c s r).1 (bJ c s r).2 k).length:Int);omega)) ?_
       refine ai (ai (by show ((k:Nat):Int).toNat<(lW c (bJ c s r).1 (bJ c s r).2 k).length;omega) (acM _)) ?_
       have el:rR c (bJ c s r).1 (bJ c s r).2 k=false:=by unfold rR;rw[q1,apT]
       refine nX (k) (ai (ai (ai (fun _=>rfl) (aG (by omega))) rfl) (ai rfl (ai rfl (ai ?_ ?_)))) trivial trivial
       ·rw[ow,ow]
       ·intro q hq
        show ji (fun w=>[bP ((lW c (bJ c s r).1 (bJ c s r).2 k).getD w false)]) k 0 [bP (false)] q=[bP (((lW c (bJ c s r).1 (bJ c s r).2 k).set k (rR c (bJ c s r).1 (bJ c s r).2 k)).getD q false)]
        rw[el]
        exact jR (by omega) _ q
     have ek:k=c.sts.length:=by omega
     have eL:lW c (bJ c s r).1 (bJ c s r).2 k=adV c (bJ c s r).1 (bJ c s r).2:=by rw[ek];exact apS hl2
     have e3:(bJ c s (r+1)).2=lW c (bJ c s r).1 (bJ c s r).2 k:=eL.symm
     refine cK (ag4) ((af6 c s (bJ c s r).1 (bJ c s r).2,(bJ c s r).1)) (by exact (ai (ai rfl (fun _ _=>rfl)) (ai rfl (fun _ _=>rfl)))) ((by show (adJ c _ _).length≤1000000;rw[aml];omega)) ?_
     refine aC (b:=decide (af6 c s (bJ c s r).1 (bJ c s r).2=(bJ c s r).1)) rfl (fun q1=>?_) (fun q1=>?_)
     ·refine cK (ag4) ((lW c (bJ c s r).1 (bJ c s r).2 k,(bJ c s r).2)) (by exact (ai (ai rfl (fun _ _=>rfl)) (ai rfl (fun _ _=>rfl)))) ((by show (lW c (bJ c s r).1 (bJ c s r).2 k).length≤1000000;omega)) ?_
      refine aC (b:=decide (lW c (bJ c s r).1 (bJ c s r).2 k=(bJ c s r).2)) rfl (fun q2=>?_) (fun q2=>?_)
      ·have hq:ru c s r=true:=by unfold ru;rw[←eL,q1,q2];rfl
       have e1:=(al7 c s).trans (ahz hall hq g)
       have e2:sK c s=0:=by unfold sK;rw[if_neg (fun h=>h e0),e1];rfl
       have ea:zo c s=(bJ c s r).1:=by unfold zo;rw[e1]
       refine eF (dz (sK c s) (zo c s)) ?_
       rw[e2,dz,if_pos (show (0:Int)=0 from rfl),ea]
       exact (ai (ai rfl (fun _ _=>rfl)) rfl)
      ·have hq:ru c s r=false:=by unfold ru;rw[←eL];rw[q2,aue]
       refine nX (r) (ai (ai (ai (fun _=>rfl) (aG (by omega))) rfl) (ai (ai (ai nof (ai rfl (fun _ _=>rfl))) rfl) (ai (ai nof (ai ?_ ?_)) rfl))) trivial ?_
       ·rw[e3]
       ·rw[e3];exact fun _ _=>rfl
       intro q hq2
       by_cases e:q=r
       ·rw[e];exact hq
       ·exact hall q (by omega)
     ·have hq:ru c s r=false:=by unfold ru;rw[←eL];rw[q1,apT]
      refine nX (r) (ai (ai (ai (fun _=>rfl) (aG (by omega))) rfl) (ai (ai (ai nof (ai rfl (fun _ _=>rfl))) rfl) (ai (ai nof (ai ?_ ?_)) rfl))) trivial ?_
      ·rw[e3]
      ·rw[e3];exact fun _ _=>rfl
      intro q hq2
      by_cases e:q=r
      ·rw[e];exact hq
      ·exact hall q (by omega)
    ·have e1:=(al7 c s).trans (ac3 (c:=c) (s:=s) (m:=65) fun q hq=>hall q (by omega))
     have e2:sK c s=21:=by unfold sK;rw[if_neg (fun h=>h e0),e1];rfl
     refine eF (dz (sK c s) (zo c s)) ?_
     rw[e2,dz,if_neg (show ¬(21:Int)=0 by decide)]
     exact (ai rfl rfl)
  ·have e:cu c=12:=by unfold cu;rw[if_neg (fun h=>h h1),if_pos hB]
   have h2:¬cu c=0:=by rw[e];decide
   refine gI (wD) (c) [7] (by exact (ai rfl rfl)) (by exact (ai rfl (ai rfl (ai rfl (ai rfl (ai (ai rfl (fun _ _=>rfl)) (ai (ai rfl (fun _ _=>rfl)) (ai (ai rfl (fun _ _=>rfl)) (ai (ai rfl (fun _ _=>rfl)) (ai (ai rfl (fun _ _=>rfl)) (ai rfl (fun _ _=>rfl)))))))))))) (⟨hc,decide_eq_false hB⟩) ?_
   refine dR (.seq [0,1,2,3,4,5]) ?_
   refine dR (.seq [0,1,2,3,4]) ?_
   have e:bR c s=12:=by unfold bR;rw[if_pos h2,e]
   have h2:¬bR c s=0:=by rw[e];decide
   have e2:sK c s=bR c s:=if_pos h2
   refine eF (dz (sK c s) (zo c s)) ?_
   rw[e2,dz,if_neg h2,e]
   exact (ai rfl rfl)
 exact gW h fun a _=>adN _ _
def boV (l:List Bool):List Value:=l.map Value.bool
theorem iC (l:List Bool):(boV l).length=l.length:=by unfold boV;simp
theorem ae2 {l:List Bool} {k:Nat} (hk:k<l.length):gF (boV l) k=[bP (l.getD k false)]:=by
 unfold gF boV
 rw[aaG,alW,aaX hk,aaG,aaX hk];rfl
theorem oZ (l:List Bool):∀v∈boV l,v.oneCell'=true:=fun v hv=>by
 obtain ⟨c,_,rfl⟩:=auA.1 hv
 rfl
def awk:uE:={ A:=List Bool,args:=fun l=>[qh l],pre:=fun l=>0<l.length∧l.length≤1000000,T:=4,vals:=boV }
theorem abp:abf Tryz.prog 61 awk:=by
 refine an4 (Tb:=tab) mixed fQ Tryz.func61 rfl rfl ?_
 intro (l:List Bool) hpre
 have h0:0<l.length:=hpre.1
 have h1:l.length≤1000000:=hpre.2
 refine ai rfl ?_
 intro b hb
 refine iB (fun hb0=>?_) (fun hb0=>?_)
 ·have hb1:l.length=0:=hb hb0
  exact absurd hb1 (by omega)
 refine ai (mxL (n:=0+l.length) (by omega) (by decide)) (ai (fun _ _=>rfl) ?_)
 refine ai rfl (ai rfl (ai (by show 0+l.length=(boV l).length;rw[iC];omega) ?_))
 intro k hk
 have hk:k<0+l.length:=hk
 refine Eq.trans (abX k hk) ?_
 exact (ae2 (show k<l.length by omega)).symm
def aw7:uE:={ A:=dw,args:=fun s=>[kE s],pre:=acC,T:=4,vals:=fun s=>boV (dn s) }
theorem y9:abf Tryz.prog 78 aw7:=by
 refine an4 (Tb:=tab) mixed fQ Tryz.func78 rfl rfl ?_
 intro (s:dw) hpre
 refine ai rfl ?_
 obtain ⟨h1,h2,h3⟩:=hpre
 have h1:s.en.length≤100000:=h1
 have h2:s.inp.length≤100000:=h2
 have h3:s.vl.length≤100000:=h3
 refine fR (s.en.length) (fun k=>[(9,.s (iA k)),(3,vP (eP (s.en.take k)))]) (fun k=>[]) (fun k=>True) ?_ ?_ ?_ ?_
 ·exact (ai (ai (ai (fun _=>rfl) (iE (by omega))) rfl) rfl)
 ·exact trivial
 ·trivial
 intro (k:Nat) ⟨hk,_⟩
 have hl:(eP (s.en.take k)).length≤200000:=by rw[uM,al5];omega
 refine bL (k<s.en.length) (fun g1=>?_) fun g1=>?_
 ·refine iX (k) (s.en.length) ?_
  have e:=acd g1
  refine ai (mxL (n:=(eP (s.en.take k)).length+2) (by omega) (by decide)) (ai len2 ?_)
  refine nX (k) (ai (ai (ai (fun _=>rfl) (aG (by omega))) rfl) (ai rfl (ai rfl (ai ?_ ?_)))) trivial trivial
  ·rw[e,aaJ];rfl
  ·rw[e];exact fun q hq=>qB (a:=eP (s.en.take k)) (b:=ag6 (s.en.getD k 0)) rfl (fun _ _=>rfl) (am8 _ _) q (by rw[aaJ];exact hq)
 obtain rfl:k=s.en.length:=by omega
 have et:s.en.take s.en.length=s.en:=acS
 refine dR (.one 0 (.one 1 (.one 2 (.one 4 (.rd 5 [3] (.one 3 (.one 6 (.one 7 .done)))))))) ?_
 refine ai (mxL (n:=(eP (s.en.take s.en.length)).length+s.inp.length) (by omega) (by decide)) (ai (fun _ _=>rfl) ?_)
 refine ai (mxL (n:=(eP (s.en.take s.en.length)).length+s.inp.length+s.vl.length) (by omega) (by decide)) (ai (fun _ _=>rfl) ?_)
 have eV:dn s=(eP (s.en.take s.en.length)++s.inp)++s.vl:=by rw[et];rfl
 refine ai rfl (ai rfl (ai ?_ ?_))
 ·show (eP (s.en.take s.en.length)).length+s.inp.length+s.vl.length=(boV (dn s)).length
  rw[iC,eV,aaJ,aaJ]
 ·intro q hq
  have hq:q<(eP (s.en.take s.en.length)).length+s.inp.length+s.vl.length:=hq
  have hq2:q<(dn s).length:=by rw[eV,aaJ,aaJ];exact hq
  refine Eq.trans ?_ (ae2 hq2).symm
  rw[eV]
  exact qB (a:=eP (s.en.take s.en.length)++s.inp) (b:=s.vl) (aaJ).symm (qB (a:=eP (s.en.take s.en.length)) (b:=s.inp) rfl (fun _ _=>rfl) (fun _ _=>rfl)) (fun _ _=>rfl) q (by rw[←eV];exact hq2)
def bsW (l:List Bool):LV:=.rw 4 1 l.length (fun k=>[bP (l.getD k false)])
def aN (c:bI) (s:dw):Nat→List Bool×List Bool
 | 0=>(s.vl,dn s)
 | k+1=>if (c.sgs.getD k ak).kd=0 then ((aN c s k).1.set k (eO (c.sgs.getD k ak).on (aN c s k).2).1,(aN c s k).2.set ((bW c).toNat+k) (eO (c.sgs.getD k ak).on (aN c s k).2).1) else aN c s k
def uZ (c:bI) (s:dw):dw:={ s with vl:=(aN c s c.sgs.length).1 }
theorem uh (c:bI) (s:dw):∀k,(aN c s k).1.length=s.vl.length∧(aN c s k).2.length=(dn s).length
 | 0=>⟨rfl,rfl⟩
 | k+1=>by
  have:=uh c s k
  unfold aN
  split
  ·exact ⟨by rw[apr];exact this.1,by rw[apr];exact this.2⟩
  ·exact this
def awi (a:bI×dw):Prop:=lu a.1∧oH a.1 a.2∧0<a.1.sgs.length∧a.1.sgs.length≤1000∧a.1.ins.length≤1000∧∀x∈a.1.sgs,x.on.size≤1000000
theorem fZ (l:List Bool) {n:Nat} (hn:n=(boV l).length):∀k,k<n→gF (boV l) k=[bP (l.getD k false)]:=fun k hk=>ae2 (by rw[iC] at hn;omega)
set_option maxHeartbeats 8000000 in
theorem ahx:av Tryz.prog 69 (bC (fun a:bI×dw=>[sH a.1,kE a.2]) awi (fun a=>vX (uZ a.1 a.2))):=by
 refine vI [7000022,7000028] Tryz.func69 ?_
 rintro ⟨c,s⟩ hpre
 obtain ⟨hc,hs,h0,hn,hi,hon⟩:=hpre
 have hc:lu c:=hc
 have hs:oH c s:=hs
 have h0:0<c.sgs.length:=h0
 have hn:c.sgs.length≤1000:=hn
 have hi:c.ins.length≤1000:=hi
 have hon:∀k,k<c.sgs.length→(c.sgs.getD k ak).on.size≤1000000:=fun k hk=>by
  have:=hon (c.sgs[k]) (List.getElem_mem hk)
  rw[aaG,aaX hk];exact this
 have hvl:=ade hs
 obtain ⟨⟨ha0,ha1⟩,hc2,hc3⟩:=id hc
 obtain ⟨h1,h2,h3,h4,h5⟩:=id hs
 have hsm:acC s:=⟨by omega,by omega,by omega⟩
 have hsn:bW c=2*c.act+c.ins.length:=rfl
 have hln:dG c=2*c.act+c.ins.length+c.sgs.length:=rfl
 have hew:∀k:Nat,k<c.sgs.length→IntKind.i64.wrap (bW c+(k:Int))=(((bW c).toNat+k:Nat):Int):=fun k hk=>by
  rw[dF (by omega) (by omega)];omega
 refine dR (.one 0 (.one 1 (.one 3 (.one 4 (.one 6 (.one 7 (.one 9 (.one 10 (.one 12 (.one 13 (.alt 2 (.alt 5 (.alt 8 (.alt 11 (.alt 14 (.one 15 (.one 16 (.one 17 .done))) (.alt 16 (.one 14 (.one 15 (.one 17 .done))) .stop)) (.alt 16 (.one 11 (.one 14 (.one 15 (.one 17 .done)))) .stop)) (.alt 16 (.one 8 (.one 11 (.one 14 (.one 15 (.one 17 .done))))) .stop)) (.alt 16 (.one 5 (.one 8 (.one 11 (.one 14 (.one 15 (.one 17 .done)))))) .stop)) (.alt 16 (.one 2 (.one 5 (.one 8 (.one 11 (.one 14 (.one 15 (.one 17 .done))))))) .stop)))))))))))) ?_
 refine ai ?_ ?_
 ·refine cK (uz) (s.en) (by exact (ai rfl (fun _ _=>rfl))) ((by show s.en.length≤1000000;omega)) ?_
  refine ai ?_ ?_
  ·refine cK (rQ) (s.va) (by exact (ai rfl (fun _ _=>rfl))) ((by show s.va.length≤1000000;omega)) ?_
   refine ai ?_ ?_
   ·refine cK (rQ) (s.inp) (by exact (ai rfl (fun _ _=>rfl))) ((by show s.inp.length≤1000000;omega)) ?_
    refine ai ?_ ?_
    ·refine ei _ (ai (abp) (ei (s.vl) (ai (by exact (ai rfl (fun _ _=>rfl))) (ai (⟨by show 0<s.vl.length;omega,by show s.vl.length≤1000000;omega⟩) (ai (oZ _) ?_)))))
     refine ai ?_ ?_
     ·refine cK (uz) (s.ti) (by exact (ai rfl (fun _ _=>rfl))) ((by show s.ti.length≤1000000;omega)) ?_
      refine ei _ (ai (y9) (ei (s) (ai ?_ (ai (hsm) (ai (oZ _) ?_)))))
      ·refine (ai (ai rfl (fun _ _=>rfl)) (ai (ai rfl (fun _ _=>rfl)) (ai (ai rfl (fun _ _=>rfl)) (ai (ai ?_ ?_) (ai rfl (fun _ _=>rfl))))))
       ·exact iC s.vl
       ·exact fZ s.vl rfl
      refine fR (c.sgs.length) (fun k=>[(32,.s (iA k)),(6,vP (aN c s k).2)]) (fun k=>[⟨4,57,[.s (.p true (fT s.en)),.s (.p true (iR s.va)),.s (.p true (iR s.inp)),bsW (aN c s k).1,.s (.p true (fT s.ti))]⟩]) (fun k=>True) ?_ ?_ ?_ ?_
      ·refine (ai (ai (ai (fun _=>rfl) (iE (by omega))) rfl) (ai rfl (ai rfl (ai ?_ ?_))))
       ·exact iC (dn s)
       ·exact fZ (dn s) rfl
      ·refine (ai (ai (ai (ai (fun _=>rfl) (ai rfl (fun _ _=>rfl))) rfl) (ai (ai (ai (fun _=>rfl) (ai rfl (fun _ _=>rfl))) rfl) (ai (ai (ai (fun _=>rfl) (ai rfl (fun _ _=>rfl))) rfl) (ai (ai rfl (ai rfl (ai ?_ ?_))) (ai (ai (fun _=>rfl) (ai rfl (fun _ _=>rfl))) rfl))))) trivial)
       ·exact iC s.vl
       ·exact fZ s.vl rfl
      ·trivial
      intro (k:Nat) ⟨hk,_⟩
      have hg:=uh c s k
      refine ah (p:=k<c.sgs.length) (aA (by dsimp only;omega)) (fun g=>?_) (fun g=>?_)
      ·refine iX (k) (c.sgs.length) ?_
       refine ah (p:=(c.sgs.getD k ak).kd=0) (by simp only[zz,reduceCtorEq]) (fun g2=>?_) (fun g2=>?_)
       ·refine cK (wH) (((c.sgs.getD k ak).on,(aN c s k).2)) (by exact (ai (ai (iE (by simp only[zz,reduceCtorEq])) (ai (iE (by simp only[zz,reduceCtorEq])) (ai rfl (fun _ _=>rfl)))) (ai rfl (fun _ _=>rfl)))) (hon k g) ?_
        refine dR (.seq [0,1,2,3,4,6,8,9,5,7,10,11,12,13]) ?_
        refine cK (nJ) (c) (by exact (ai rfl (ai (ai rfl (fun _ _=>rfl)) (ai (ai rfl (fun _ _=>rfl)) (ai (ai rfl (fun _ _=>rfl)) (ai rfl (fun _ _=>rfl))))))) (hc) ?_
        refine ai (ai (abw _) (by show ((k:Nat):Int)<((aN c s k).1.length:Int);omega)) ?_
        refine ai (ai (by show ((k:Nat):Int).toNat<(aN c s k).1.length;omega) (acM _)) ?_
        refine ai (ai (by show 0≤IntKind.i64.wrap (bW c+(k:Int));rw[hew k g];omega) (by show IntKind.i64.wrap (bW c+(k:Int))<((aN c s k).2.length:Int);rw[hew k g];omega)) ?_
        refine ai (ai (by show (IntKind.i64.wrap (bW c+(k:Int))).toNat<(aN c s k).2.length;rw[hew k g];omega) (acM _)) ?_
        have e1:(aN c s (k+1)).1=(aN c s k).1.set k (eO (c.sgs.getD k ak).on (aN c s k).2).1:=by rw[aN,if_pos g2]
        have e2:(aN c s (k+1)).2=(aN c s k).2.set ((bW c).toNat+k) (eO (c.sgs.getD k ak).on (aN c s k).2).1:=by rw[aN,if_pos g2]
        refine nX (k) (ai (ai (ai (fun _=>rfl) (aG (by omega))) rfl) (ai rfl (ai rfl (ai ?_ ?_)))) (ai (ai (ai (ai (fun _=>rfl) (ai rfl (fun _ _=>rfl))) rfl) (ai (ai (ai (fun _=>rfl) (ai rfl (fun _ _=>rfl))) rfl) (ai (ai (ai (fun _=>rfl) (ai rfl (fun _ _=>rfl))) rfl) (ai (ai rfl (ai rfl (ai ?_ ?_))) (ai (ai (fun _=>rfl) (ai rfl (fun _ _=>rfl))) rfl))))) trivial) trivial
        ·rw[e2,apr]
        ·intro q hq
         show ji (fun w=>[bP ((aN c s k).2.getD w false)]) (IntKind.i64.wrap (bW c+(k:Int))).toNat 0 [bP (eO (c.sgs.getD k ak).on (aN c s k).2).1] q=[bP ((aN c s (k+1)).2.getD q false)]
         rw[hew k g,e2]
         exact jR (by omega) _ q
        ·rw[e1,apr]
        ·intro q hq
         show ji (fun w=>[bP ((aN c s k).1.getD w false)]) k 0 [bP (eO (c.sgs.getD k ak).on (aN c s k).2).1] q=[bP ((aN c s (k+1)).1.getD q false)]
         rw[e1]
         exact jR (by omega) _ q
       ·have e1:aN c s (k+1)=aN c s k:=by rw[aN,if_neg g2]
        refine nX (k) (ai (ai (ai (fun _=>rfl) (aG (by omega))) rfl) (ai rfl (ai rfl (ai ?_ ?_)))) (ai (ai (ai (ai (fun _=>rfl) (ai rfl (fun _ _=>rfl))) rfl) (ai (ai (ai (fun _=>rfl) (ai rfl (fun _ _=>rfl))) rfl) (ai (ai (ai (fun _=>rfl) (ai rfl (fun _ _=>rfl))) rfl) (ai (ai rfl (ai rfl (ai ?_ ?_))) (ai (ai (fun _=>rfl) (ai rfl (fun _ _=>rfl))) rfl))))) trivial) trivial
        ·rw[e1]
        ·rw[e1];exact fun _ _=>rfl
        ·rw[e1]
        ·rw[e1];exact fun _ _=>rfl
      obtain rfl:k=c.sgs.length:=by omega
      refine ai (ai (fun _=>?_) ?_) trivial
      ·exact ai trivial (ai trivial (ai trivial (ai (fun _ _=>rfl) trivial)))
      show lH _ (vX (uZ c s))
      rw[uZ]
      exact (ai (ai rfl (fun _ _=>rfl)) (ai (ai rfl (fun _ _=>rfl)) (ai (ai rfl (fun _ _=>rfl)) (ai (ai rfl (fun _ _=>rfl)) (ai rfl (fun _ _=>rfl))))))
     refine ai ?_ ?_
     ·refine cK (uz) (s.ti) (by exact (ai rfl (fun _ _=>rfl))) ((by show s.ti.length≤1000000;omega)) ?_
      refine ei _ (ai (y9) (ei (s) (ai ?_ (ai (hsm) (ai (oZ _) ?_)))))
      ·refine (ai (ai rfl (fun _ _=>rfl)) (ai (ai rfl (fun _ _=>rfl)) (ai (ai rfl (fun _ _=>rfl)) (ai (ai ?_ ?_) (ai rfl (fun _ _=>rfl))))))
       ·exact iC s.vl
       ·exact fZ s.vl rfl
      refine fR (c.sgs.length) (fun k=>[(32,.s (iA k)),(6,vP (aN c s k).2)]) (fun k=>[⟨4,57,[.s (.p true (fT s.en)),.s (.p true (iR s.va)),.s (.p true (iR s.inp)),bsW (aN c s k).1,.s (.p true (fT s.ti))]⟩]) (fun k=>True) ?_ ?_ ?_ ?_
      ·refine (ai (ai (ai (fun _=>rfl) (iE (by omega))) rfl) (ai rfl (ai rfl (ai ?_ ?_))))
       ·exact iC (dn s)
       ·exact fZ (dn s) rfl
      ·refine (ai (ai (ai (ai (fun _=>rfl) (ai rfl (fun _ _=>rfl))) rfl) (ai (ai (ai (fun _=>rfl) (ai rfl (fun _ _=>rfl))) rfl) (ai (ai (ai (fun _=>rfl) (ai rfl (fun _ _=>rfl))) rfl) (ai (ai rfl (ai rfl (ai ?_ ?_))) (ai (ai (fun _=>rfl) (ai rfl (fun _ _=>rfl))) rfl))))) trivial)
       ·exact iC s.vl
       ·exact fZ s.vl rfl
      ·trivial
      intro (k:Nat) ⟨hk,_⟩
      have hg:=uh c s k
      refine ah (p:=k<c.sgs.length) (aA (by dsimp only;omega)) (fun g=>?_) (fun g=>?_)
      ·refine iX (k) (c.sgs.length) ?_
       refine ah (p:=(c.sgs.getD k ak).kd=0) (by simp only[zz,reduceCtorEq]) (fun g2=>?_) (fun g2=>?_)
       ·refine cK (wH) (((c.sgs.getD k ak).on,(aN c s k).2)) (by exact (ai (ai (iE (by simp only[zz,reduceCtorEq])) (ai (iE (by simp only[zz,reduceCtorEq])) (ai rfl (fun _ _=>rfl)))) (ai rfl (fun _ _=>rfl)))) (hon k g) ?_
        refine dR (.seq [0,1,2,3,4,6,8,9,5,7,10,11,12,13]) ?_
        refine cK (nJ) (c) (by exact (ai rfl (ai (ai rfl (fun _ _=>rfl)) (ai (ai rfl (fun _ _=>rfl)) (ai (ai rfl (fun _ _=>rfl)) (ai rfl (fun _ _=>rfl))))))) (hc) ?_
        refine ai (ai (abw _) (by show ((k:Nat):Int)<((aN c s k).1.length:Int);omega)) ?_
        refine ai (ai (by show ((k:Nat):Int).toNat<(aN c s k).1.length;omega) (acM _)) ?_
        refine ai (ai (by show 0≤IntKind.i64.wrap (bW c+(k:Int));rw[hew k g];omega) (by show IntKind.i64.wrap (bW c+(k:Int))<((aN c s k).2.length:Int);rw[hew k g];omega)) ?_
        refine ai (ai (by show (IntKind.i64.wrap (bW c+(k:Int))).toNat<(aN c s k).2.length;rw[hew k g];omega) (acM _)) ?_
        have e1:(aN c s (k+1)).1=(aN c s k).1.set k (eO (c.sgs.getD k ak).on (aN c s k).2).1:=by rw[aN,if_pos g2]
        have e2:(aN c s (k+1)).2=(aN c s k).2.set ((bW c).toNat+k) (eO (c.sgs.getD k ak).on (aN c s k).2).1:=by rw[aN,if_pos g2]
        refine nX (k) (ai (ai (ai (fun _=>rfl) (aG (by omega))) rfl) (ai rfl (ai rfl (ai ?_ ?_)))) (ai (ai (ai (ai (fun _=>rfl) (ai rfl (fun _ _=>rfl))) rfl) (ai (ai (ai (fun _=>rfl) (ai rfl (fun _ _=>rfl))) rfl) (ai (ai (ai (fun _=>rfl) (ai rfl (fun _ _=>rfl))) rfl) (ai (ai rfl (ai rfl (ai ?_ ?_))) (ai (ai (fun _=>rfl) (ai rfl (fun _ _=>rfl))) rfl))))) trivial) trivial
        ·rw[e2,apr]
        ·intro q hq
         show ji (fun w=>[bP ((aN c s k).2.getD w false)]) (IntKind.i64.wrap (bW c+(k:Int))).toNat 0 [bP (eO (c.sgs.getD k ak).on (aN c s k).2).1] q=[bP ((aN c s (k+1)).2.getD q false)]
         rw[hew k g,e2]
         exact jR (by omega) _ q
        ·rw[e1,apr]
        ·intro q hq
         show ji (fun w=>[bP ((aN c s k).1.getD w false)]) k 0 [bP (eO (c.sgs.getD k ak).on (aN c s k).2).1] q=[bP ((aN c s (k+1)).1.getD q false)]
         rw[e1]
         exact jR (by omega) _ q
       ·have e1:aN c s (k+1)=aN c s k:=by rw[aN,if_neg g2]
        refine nX (k) (ai (ai (ai (fun _=>rfl) (aG (by omega))) rfl) (ai rfl (ai rfl (ai ?_ ?_)))) (ai (ai (ai (ai (fun _=>rfl) (ai rfl (fun _ _=>rfl))) rfl) (ai (ai (ai (fun _=>rfl) (ai rfl (fun _ _=>rfl))) rfl) (ai (ai (ai (fun _=>rfl) (ai rfl (fun _ _=>rfl))) rfl) (ai (ai rfl (ai rfl (ai ?_ ?_))) (ai (ai (fun _=>rfl) (ai rfl (fun _ _=>rfl))) rfl))))) trivial) trivial
        ·rw[e1]
        ·rw[e1];exact fun _ _=>rfl
        ·rw[e1]
        ·rw[e1];exact fun _ _=>rfl
      obtain rfl:k=c.sgs.length:=by omega
      refine ai (ai (fun _=>?_) ?_) trivial
      ·exact ai trivial (ai trivial (ai trivial (ai (fun _ _=>rfl) trivial)))
      show lH _ (vX (uZ c s))
      rw[uZ]
      exact (ai (ai rfl (fun _ _=>rfl)) (ai (ai rfl (fun _ _=>rfl)) (ai (ai rfl (fun _ _=>rfl)) (ai (ai rfl (fun _ _=>rfl)) (ai rfl (fun _ _=>rfl))))))
     exact trivial
    refine ai ?_ ?_
    ·refine ei _ (ai (abp) (ei (s.vl) (ai (by exact (ai rfl (fun _ _=>rfl))) (ai (⟨by show 0<s.vl.length;omega,by show s.vl.length≤1000000;omega⟩) (ai (oZ _) ?_)))))
     refine cK (uz) (s.ti) (by exact (ai rfl (fun _ _=>rfl))) ((by show s.ti.length≤1000000;omega)) ?_
     refine ei _ (ai (y9) (ei (s) (ai ?_ (ai (hsm) (ai (oZ _) ?_)))))
     ·refine (ai (ai rfl (fun _ _=>rfl)) (ai (ai rfl (fun _ _=>rfl)) (ai (ai rfl (fun _ _=>rfl)) (ai (ai ?_ ?_) (ai rfl (fun _ _=>rfl))))))
      ·exact iC s.vl
      ·exact fZ s.vl rfl
     refine fR (c.sgs.length) (fun k=>[(32,.s (iA k)),(6,vP (aN c s k).2)]) (fun k=>[⟨3,57,[.s (.p true (fT s.en)),.s (.p true (iR s.va)),.s (.p true (iR s.inp)),bsW (aN c s k).1,.s (.p true (fT s.ti))]⟩]) (fun k=>True) ?_ ?_ ?_ ?_
     ·refine (ai (ai (ai (fun _=>rfl) (iE (by omega))) rfl) (ai rfl (ai rfl (ai ?_ ?_))))
      ·exact iC (dn s)
      ·exact fZ (dn s) rfl
     ·refine (ai (ai (ai (ai (fun _=>rfl) (ai rfl (fun _ _=>rfl))) rfl) (ai (ai (ai (fun _=>rfl) (ai rfl (fun _ _=>rfl))) rfl) (ai (ai (ai (fun _=>rfl) (ai rfl (fun _ _=>rfl))) rfl) (ai (ai rfl (ai rfl (ai ?_ ?_))) (ai (ai (fun _=>rfl) (ai rfl (fun _ _=>rfl))) rfl))))) trivial)
      ·exact iC s.vl
      ·exact fZ s.vl rfl
     ·trivial
     intro (k:Nat) ⟨hk,_⟩
     have hg:=uh c s k
     refine ah (p:=k<c.sgs.length) (aA (by dsimp only;omega)) (fun g=>?_) (fun g=>?_)
     ·refine iX (k) (c.sgs.length) ?_
      refine ah (p:=(c.sgs.getD k ak).kd=0) (by simp only[zz,reduceCtorEq]) (fun g2=>?_) (fun g2=>?_)
      ·refine cK (wH) (((c.sgs.getD k ak).on,(aN c s k).2)) (by exact (ai (ai (iE (by simp only[zz,reduceCtorEq])) (ai (iE (by simp only[zz,reduceCtorEq])) (ai rfl (fun _ _=>rfl)))) (ai rfl (fun _ _=>rfl)))) (hon k g) ?_
       refine dR (.seq [0,1,2,3,4,6,8,9,5,7,10,11,12,13]) ?_
       refine cK (nJ) (c) (by exact (ai rfl (ai (ai rfl (fun _ _=>rfl)) (ai (ai rfl (fun _ _=>rfl)) (ai (ai rfl (fun _ _=>rfl)) (ai rfl (fun _ _=>rfl))))))) (hc) ?_
       refine ai (ai (abw _) (by show ((k:Nat):Int)<((aN c s k).1.length:Int);omega)) ?_
       refine ai (ai (by show ((k:Nat):Int).toNat<(aN c s k).1.length;omega) (acM _)) ?_
       refine ai (ai (by show 0≤IntKind.i64.wrap (bW c+(k:Int));rw[hew k g];omega) (by show IntKind.i64.wrap (bW c+(k:Int))<((aN c s k).2.length:Int);rw[hew k g];omega)) ?_
       refine ai (ai (by show (IntKind.i64.wrap (bW c+(k:Int))).toNat<(aN c s k).2.length;rw[hew k g];omega) (acM _)) ?_
       have e1:(aN c s (k+1)).1=(aN c s k).1.set k (eO (c.sgs.getD k ak).on (aN c s k).2).1:=by rw[aN,if_pos g2]
       have e2:(aN c s (k+1)).2=(aN c s k).2.set ((bW c).toNat+k) (eO (c.sgs.getD k ak).on (aN c s k).2).1:=by rw[aN,if_pos g2]
       refine nX (k) (ai (ai (ai (fun _=>rfl) (aG (by omega))) rfl) (ai rfl (ai rfl (ai ?_ ?_)))) (ai (ai (ai (ai (fun _=>rfl) (ai rfl (fun _ _=>rfl))) rfl) (ai (ai (ai (fun _=>rfl) (ai rfl (fun _ _=>rfl))) rfl) (ai (ai (ai (fun _=>rfl) (ai rfl (fun _ _=>rfl))) rfl) (ai (ai rfl (ai rfl (ai ?_ ?_))) (ai (ai (fun _=>rfl) (ai rfl (fun _ _=>rfl))) rfl))))) trivial) trivial
       ·rw[e2,apr]
       ·intro q hq
        show ji (fun w=>[bP ((aN c s k).2.getD w false)]) (IntKind.i64.wrap (bW c+(k:Int))).toNat 0 [bP (eO (c.sgs.getD k ak).on (aN c s k).2).1] q=[bP ((aN c s (k+1)).2.getD q false)]
        rw[hew k g,e2]
        exact jR (by omega) _ q
       ·rw[e1,apr]
       ·intro q hq
        show ji (fun w=>[bP ((aN c s k).1.getD w false)]) k 0 [bP (eO (c.sgs.getD k ak).on (aN c s k).2).1] q=[bP ((aN c s (k+1)).1.getD q false)]
        rw[e1]
        exact jR (by omega) _ q
      ·have e1:aN c s (k+1)=aN c s k:=by rw[aN,if_neg g2]
       refine nX (k) (ai (ai (ai (fun _=>rfl) (aG (by omega))) rfl) (ai rfl (ai rfl (ai ?_ ?_)))) (ai (ai (ai (ai (fun _=>rfl) (ai rfl (fun _ _=>rfl))) rfl) (ai (ai (ai (fun _=>rfl) (ai rfl (fun _ _=>rfl))) rfl) (ai (ai (ai (fun _=>rfl) (ai rfl (fun _ _=>rfl))) rfl) (ai (ai rfl (ai rfl (ai ?_ ?_))) (ai (ai (fun _=>rfl) (ai rfl (fun _ _=>rfl))) rfl))))) trivial) trivial
       ·rw[e1]
       ·rw[e1];exact fun _ _=>rfl
       ·rw[e1]
       ·rw[e1];exact fun _ _=>rfl
     obtain rfl:k=c.sgs.length:=by omega
     refine ai (ai (fun _=>?_) ?_) trivial
     ·exact ai trivial (ai trivial (ai trivial (ai (fun _ _=>rfl) trivial)))
     show lH _ (vX (uZ c s))
     rw[uZ]
     exact (ai (ai rfl (fun _ _=>rfl)) (ai (ai rfl (fun _ _=>rfl)) (ai (ai rfl (fun _ _=>rfl)) (ai (ai rfl (fun _ _=>rfl)) (ai rfl (fun _ _=>rfl))))))
    exact trivial
   refine ai ?_ ?_
   ·refine cK (rQ) (s.inp) (by exact (ai rfl (fun _ _=>rfl))) ((by show s.inp.length≤1000000;omega)) ?_
    refine ei _ (ai (abp) (ei (s.vl) (ai (by exact (ai rfl (fun _ _=>rfl))) (ai (⟨by show 0<s.vl.length;omega,by show s.vl.length≤1000000;omega⟩) (ai (oZ _) ?_)))))
    refine cK (uz) (s.ti) (by exact (ai rfl (fun _ _=>rfl))) ((by show s.ti.length≤1000000;omega)) ?_
    refine ei _ (ai (y9) (ei (s) (ai ?_ (ai (hsm) (ai (oZ _) ?_)))))
    ·refine (ai (ai rfl (fun _ _=>rfl)) (ai (ai rfl (fun _ _=>rfl)) (ai (ai rfl (fun _ _=>rfl)) (ai (ai ?_ ?_) (ai rfl (fun _ _=>rfl))))))
     ·exact iC s.vl
     ·exact fZ s.vl rfl
    refine fR (c.sgs.length) (fun k=>[(32,.s (iA k)),(6,vP (aN c s k).2)]) (fun k=>[⟨3,57,[.s (.p true (fT s.en)),.s (.p true (iR s.va)),.s (.p true (iR s.inp)),bsW (aN c s k).1,.s (.p true (fT s.ti))]⟩]) (fun k=>True) ?_ ?_ ?_ ?_
    ·refine (ai (ai (ai (fun _=>rfl) (iE (by omega))) rfl) (ai rfl (ai rfl (ai ?_ ?_))))
     ·exact iC (dn s)
     ·exact fZ (dn s) rfl
    ·refine (ai (ai (ai (ai (fun _=>rfl) (ai rfl (fun _ _=>rfl))) rfl) (ai (ai (ai (fun _=>rfl) (ai rfl (fun _ _=>rfl))) rfl) (ai (ai (ai (fun _=>rfl) (ai rfl (fun _ _=>rfl))) rfl) (ai (ai rfl (ai rfl (ai ?_ ?_))) (ai (ai (fun _=>rfl) (ai rfl (fun _ _=>rfl))) rfl))))) trivial)
     ·exact iC s.vl
     ·exact fZ s.vl rfl
    ·trivial
    intro (k:Nat) ⟨hk,_⟩
    have hg:=uh c s k
    refine ah (p:=k<c.sgs.length) (aA (by dsimp only;omega)) (fun g=>?_) (fun g=>?_)
    ·refine iX (k) (c.sgs.length) ?_
     refine ah (p:=(c.sgs.getD k ak).kd=0) (by simp only[zz,reduceCtorEq]) (fun g2=>?_) (fun g2=>?_)
     ·refine cK (wH) (((c.sgs.getD k ak).on,(aN c s k).2)) (by exact (ai (ai (iE (by simp only[zz,reduceCtorEq])) (ai (iE (by simp only[zz,reduceCtorEq])) (ai rfl (fun _ _=>rfl)))) (ai rfl (fun _ _=>rfl)))) (hon k g) ?_
      refine dR (.seq [0,1,2,3,4,6,8,9,5,7,10,11,12,13]) ?_
      refine cK (nJ) (c) (by exact (ai rfl (ai (ai rfl (fun _ _=>rfl)) (ai (ai rfl (fun _ _=>rfl)) (ai (ai rfl (fun _ _=>rfl)) (ai rfl (fun _ _=>rfl))))))) (hc) ?_
      refine ai (ai (abw _) (by show ((k:Nat):Int)<((aN c s k).1.length:Int);omega)) ?_
      refine ai (ai (by show ((k:Nat):Int).toNat<(aN c s k).1.length;omega) (acM _)) ?_
      refine ai (ai (by show 0≤IntKind.i64.wrap (bW c+(k:Int));rw[hew k g];omega) (by show IntKind.i64.wrap (bW c+(k:Int))<((aN c s k).2.length:Int);rw[hew k g];omega)) ?_
      refine ai (ai (by show (IntKind.i64.wrap (bW c+(k:Int))).toNat<(aN c s k).2.length;rw[hew k g];omega) (acM _)) ?_
      have e1:(aN c s (k+1)).1=(aN c s k).1.set k (eO (c.sgs.getD k ak).on (aN c s k).2).1:=by rw[aN,if_pos g2]
      have e2:(aN c s (k+1)).2=(aN c s k).2.set ((bW c).toNat+k) (eO (c.sgs.getD k ak).on (aN c s k).2).1:=by rw[aN,if_pos g2]
      refine nX (k) (ai (ai (ai (fun _=>rfl) (aG (by omega))) rfl) (ai rfl (ai rfl (ai ?_ ?_)))) (ai (ai (ai (ai (fun _=>rfl) (ai rfl (fun _ _=>rfl))) rfl) (ai (ai (ai (fun _=>rfl) (ai rfl (fun _ _=>rfl))) rfl) (ai (ai (ai (fun _=>rfl) (ai rfl (fun _ _=>rfl))) rfl) (ai (ai rfl (ai rfl (ai ?_ ?_))) (ai (ai (fun _=>rfl) (ai rfl (fun _ _=>rfl))) rfl))))) trivial) trivial
      ·rw[e2,apr]
      ·intro q hq
       show ji (fun w=>[bP ((aN c s k).2.getD w false)]) (IntKind.i64.wrap (bW c+(k:Int))).toNat 0 [bP (eO (c.sgs.getD k ak).on (aN c s k).2).1] q=[bP ((aN c s (k+1)).2.getD q false)]
       rw[hew k g,e2]
       exact jR (by omega) _ q
      ·rw[e1,apr]
      ·intro q hq
       show ji (fun w=>[bP ((aN c s k).1.getD w false)]) k 0 [bP (eO (c.sgs.getD k ak).on (aN c s k).2).1] q=[bP ((aN c s (k+1)).1.getD q false)]
       rw[e1]
       exact jR (by omega) _ q
     ·have e1:aN c s (k+1)=aN c s k:=by rw[aN,if_neg g2]
      refine nX (k) (ai (ai (ai (fun _=>rfl) (aG (by omega))) rfl) (ai rfl (ai rfl (ai ?_ ?_)))) (ai (ai (ai (ai (fun _=>rfl) (ai rfl (fun _ _=>rfl))) rfl) (ai (ai (ai (fun _=>rfl) (ai rfl (fun _ _=>rfl))) rfl) (ai (ai (ai (fun _=>rfl) (ai rfl (fun _ _=>rfl))) rfl) (ai (ai rfl (ai rfl (ai ?_ ?_))) (ai (ai (fun _=>rfl) (ai rfl (fun _ _=>rfl))) rfl))))) trivial) trivial
      ·rw[e1]
      ·rw[e1];exact fun _ _=>rfl
      ·rw[e1]
      ·rw[e1];exact fun _ _=>rfl
    obtain rfl:k=c.sgs.length:=by omega
    refine ai (ai (fun _=>?_) ?_) trivial
    ·exact ai trivial (ai trivial (ai trivial (ai (fun _ _=>rfl) trivial)))
    show lH _ (vX (uZ c s))
    rw[uZ]
    exact (ai (ai rfl (fun _ _=>rfl)) (ai (ai rfl (fun _ _=>rfl)) (ai (ai rfl (fun _ _=>rfl)) (ai (ai rfl (fun _ _=>rfl)) (ai rfl (fun _ _=>rfl))))))
   exact trivial
  refine ai ?_ ?_
  ·refine cK (rQ) (s.va) (by exact (ai rfl (fun _ _=>rfl))) ((by show s.va.length≤1000000;omega)) ?_
   refine cK (rQ) (s.inp) (by exact (ai rfl (fun _ _=>rfl))) ((by show s.inp.length≤1000000;omega)) ?_
   refine ei _ (ai (abp) (ei (s.vl) (ai (by exact (ai rfl (fun _ _=>rfl))) (ai (⟨by show 0<s.vl.length;omega,by show s.vl.length≤1000000;omega⟩) (ai (oZ _) ?_)))))
   refine cK (uz) (s.ti) (by exact (ai rfl (fun _ _=>rfl))) ((by show s.ti.length≤1000000;omega)) ?_
   refine ei _ (ai (y9) (ei (s) (ai ?_ (ai (hsm) (ai (oZ _) ?_)))))
   ·refine (ai (ai rfl (fun _ _=>rfl)) (ai (ai rfl (fun _ _=>rfl)) (ai (ai rfl (fun _ _=>rfl)) (ai (ai ?_ ?_) (ai rfl (fun _ _=>rfl))))))
    ·exact iC s.vl
    ·exact fZ s.vl rfl
   refine fR (c.sgs.length) (fun k=>[(32,.s (iA k)),(6,vP (aN c s k).2)]) (fun k=>[⟨3,57,[.s (.p true (fT s.en)),.s (.p true (iR s.va)),.s (.p true (iR s.inp)),bsW (aN c s k).1,.s (.p true (fT s.ti))]⟩]) (fun k=>True) ?_ ?_ ?_ ?_
   ·refine (ai (ai (ai (fun _=>rfl) (iE (by omega))) rfl) (ai rfl (ai rfl (ai ?_ ?_))))
    ·exact iC (dn s)
    ·exact fZ (dn s) rfl
   ·refine (ai (ai (ai (ai (fun _=>rfl) (ai rfl (fun _ _=>rfl))) rfl) (ai (ai (ai (fun _=>rfl) (ai rfl (fun _ _=>rfl))) rfl) (ai (ai (ai (fun _=>rfl) (ai rfl (fun _ _=>rfl))) rfl) (ai (ai rfl (ai rfl (ai ?_ ?_))) (ai (ai (fun _=>rfl) (ai rfl (fun _ _=>rfl))) rfl))))) trivial)
    ·exact iC s.vl
    ·exact fZ s.vl rfl
   ·trivial
   intro (k:Nat) ⟨hk,_⟩
   have hg:=uh c s k
   refine ah (p:=k<c.sgs.length) (aA (by dsimp only;omega)) (fun g=>?_) (fun g=>?_)
   ·refine iX (k) (c.sgs.length) ?_
    refine ah (p:=(c.sgs.getD k ak).kd=0) (by simp only[zz,reduceCtorEq]) (fun g2=>?_) (fun g2=>?_)
    ·refine cK (wH) (((c.sgs.getD k ak).on,(aN c s k).2)) (by exact (ai (ai (iE (by simp only[zz,reduceCtorEq])) (ai (iE (by simp only[zz,reduceCtorEq])) (ai rfl (fun _ _=>rfl)))) (ai rfl (fun _ _=>rfl)))) (hon k g) ?_
     refine dR (.seq [0,1,2,3,4,6,8,9,5,7,10,11,12,13]) ?_
     refine cK (nJ) (c) (by exact (ai rfl (ai (ai rfl (fun _ _=>rfl)) (ai (ai rfl (fun _ _=>rfl)) (ai (ai rfl (fun _ _=>rfl)) (ai rfl (fun _ _=>rfl))))))) (hc) ?_
     refine ai (ai (abw _) (by show ((k:Nat):Int)<((aN c s k).1.length:Int);omega)) ?_
     refine ai (ai (by show ((k:Nat):Int).toNat<(aN c s k).1.length;omega) (acM _)) ?_
     refine ai (ai (by show 0≤IntKind.i64.wrap (bW c+(k:Int));rw[hew k g];omega) (by show IntKind.i64.wrap (bW c+(k:Int))<((aN c s k).2.length:Int);rw[hew k g];omega)) ?_
     refine ai (ai (by show (IntKind.i64.wrap (bW c+(k:Int))).toNat<(aN c s k).2.length;rw[hew k g];omega) (acM _)) ?_
     have e1:(aN c s (k+1)).1=(aN c s k).1.set k (eO (c.sgs.getD k ak).on (aN c s k).2).1:=by rw[aN,if_pos g2]
     have e2:(aN c s (k+1)).2=(aN c s k).2.set ((bW c).toNat+k) (eO (c.sgs.getD k ak).on (aN c s k).2).1:=by rw[aN,if_pos g2]
     refine nX (k) (ai (ai (ai (fun _=>rfl) (aG (by omega))) rfl) (ai rfl (ai rfl (ai ?_ ?_)))) (ai (ai (ai (ai (fun _=>rfl) (ai rfl (fun _ _=>rfl))) rfl) (ai (ai (ai (fun _=>rfl) (ai rfl (fun _ _=>rfl))) rfl) (ai (ai (ai (fun _=>rfl) (ai rfl (fun _ _=>rfl))) rfl) (ai (ai rfl (ai rfl (ai ?_ ?_))) (ai (ai (fun _=>rfl) (ai rfl (fun _ _=>rfl))) rfl))))) trivial) trivial
     ·rw[e2,apr]
     ·intro q hq
      show ji (fun w=>[bP ((aN c s k).2.getD w false)]) (IntKind.i64.wrap (bW c+(k:Int))).toNat 0 [bP (eO (c.sgs.getD k ak).on (aN c s k).2).1] q=[bP ((aN c s (k+1)).2.getD q false)]
      rw[hew k g,e2]
      exact jR (by omega) _ q
     ·rw[e1,apr]
     ·intro q hq
      show ji (fun w=>[bP ((aN c s k).1.getD w false)]) k 0 [bP (eO (c.sgs.getD k ak).on (aN c s k).2).1] q=[bP ((aN c s (k+1)).1.getD q false)]
      rw[e1]
      exact jR (by omega) _ q
    ·have e1:aN c s (k+1)=aN c s k:=by rw[aN,if_neg g2]
     refine nX (k) (ai (ai (ai (fun _=>rfl) (aG (by omega))) rfl) (ai rfl (ai rfl (ai ?_ ?_)))) (ai (ai (ai (ai (fun _=>rfl) (ai rfl (fun _ _=>rfl))) rfl) (ai (ai (ai (fun _=>rfl) (ai rfl (fun _ _=>rfl))) rfl) (ai (ai (ai (fun _=>rfl) (ai rfl (fun _ _=>rfl))) rfl) (ai (ai rfl (ai rfl (ai ?_ ?_))) (ai (ai (fun _=>rfl) (ai rfl (fun _ _=>rfl))) rfl))))) trivial) trivial
     ·rw[e1]
     ·rw[e1];exact fun _ _=>rfl
     ·rw[e1]
     ·rw[e1];exact fun _ _=>rfl
   obtain rfl:k=c.sgs.length:=by omega
   refine ai (ai (fun _=>?_) ?_) trivial
   ·exact ai trivial (ai trivial (ai trivial (ai (fun _ _=>rfl) trivial)))
   show lH _ (vX (uZ c s))
   rw[uZ]
   exact (ai (ai rfl (fun _ _=>rfl)) (ai (ai rfl (fun _ _=>rfl)) (ai (ai rfl (fun _ _=>rfl)) (ai (ai rfl (fun _ _=>rfl)) (ai rfl (fun _ _=>rfl))))))
  exact trivial
 refine ai ?_ ?_
 ·refine cK (uz) (s.en) (by exact (ai rfl (fun _ _=>rfl))) ((by show s.en.length≤1000000;omega)) ?_
  refine cK (rQ) (s.va) (by exact (ai rfl (fun _ _=>rfl))) ((by show s.va.length≤1000000;omega)) ?_
  refine cK (rQ) (s.inp) (by exact (ai rfl (fun _ _=>rfl))) ((by show s.inp.length≤1000000;omega)) ?_
  refine ei _ (ai (abp) (ei (s.vl) (ai (by exact (ai rfl (fun _ _=>rfl))) (ai (⟨by show 0<s.vl.length;omega,by show s.vl.length≤1000000;omega⟩) (ai (oZ _) ?_)))))
  refine cK (uz) (s.ti) (by exact (ai rfl (fun _ _=>rfl))) ((by show s.ti.length≤1000000;omega)) ?_
  refine ei _ (ai (y9) (ei (s) (ai ?_ (ai (hsm) (ai (oZ _) ?_)))))
  ·refine (ai (ai rfl (fun _ _=>rfl)) (ai (ai rfl (fun _ _=>rfl)) (ai (ai rfl (fun _ _=>rfl)) (ai (ai ?_ ?_) (ai rfl (fun _ _=>rfl))))))
   ·exact iC s.vl
   ·exact fZ s.vl rfl
  refine fR (c.sgs.length) (fun k=>[(32,.s (iA k)),(6,vP (aN c s k).2)]) (fun k=>[⟨3,57,[.s (.p true (fT s.en)),.s (.p true (iR s.va)),.s (.p true (iR s.inp)),bsW (aN c s k).1,.s (.p true (fT s.ti))]⟩]) (fun k=>True) ?_ ?_ ?_ ?_
  ·refine (ai (ai (ai (fun _=>rfl) (iE (by omega))) rfl) (ai rfl (ai rfl (ai ?_ ?_))))
   ·exact iC (dn s)
   ·exact fZ (dn s) rfl
  ·refine (ai (ai (ai (ai (fun _=>rfl) (ai rfl (fun _ _=>rfl))) rfl) (ai (ai (ai (fun _=>rfl) (ai rfl (fun _ _=>rfl))) rfl) (ai (ai (ai (fun _=>rfl) (ai rfl (fun _ _=>rfl))) rfl) (ai (ai rfl (ai rfl (ai ?_ ?_))) (ai (ai (fun _=>rfl) (ai rfl (fun _ _=>rfl))) rfl))))) trivial)
   ·exact iC s.vl
   ·exact fZ s.vl rfl
  ·trivial
  intro (k:Nat) ⟨hk,_⟩
  have hg:=uh c s k
  refine ah (p:=k<c.sgs.length) (aA (by dsimp only;omega)) (fun g=>?_) (fun g=>?_)
  ·refine iX (k) (c.sgs.length) ?_
   refine ah (p:=(c.sgs.getD k ak).kd=0) (by simp only[zz,reduceCtorEq]) (fun g2=>?_) (fun g2=>?_)
   ·refine cK (wH) (((c.sgs.getD k ak).on,(aN c s k).2)) (by exact (ai (ai (iE (by simp only[zz,reduceCtorEq])) (ai (iE (by simp only[zz,reduceCtorEq])) (ai rfl (fun _ _=>rfl)))) (ai rfl (fun _ _=>rfl)))) (hon k g) ?_
    refine dR (.seq [0,1,2,3,4,6,8,9,5,7,10,11,12,13]) ?_
    refine cK (nJ) (c) (by exact (ai rfl (ai (ai rfl (fun _ _=>rfl)) (ai (ai rfl (fun _ _=>rfl)) (ai (ai rfl (fun _ _=>rfl)) (ai rfl (fun _ _=>rfl))))))) (hc) ?_
    refine ai (ai (abw _) (by show ((k:Nat):Int)<((aN c s k).1.length:Int);omega)) ?_
    refine ai (ai (by show ((k:Nat):Int).toNat<(aN c s k).1.length;omega) (acM _)) ?_
    refine ai (ai (by show 0≤IntKind.i64.wrap (bW c+(k:Int));rw[hew k g];omega) (by show IntKind.i64.wrap (bW c+(k:Int))<((aN c s k).2.length:Int);rw[hew k g];omega)) ?_
    refine ai (ai (by show (IntKind.i64.wrap (bW c+(k:Int))).toNat<(aN c s k).2.length;rw[hew k g];omega) (acM _)) ?_
    have e1:(aN c s (k+1)).1=(aN c s k).1.set k (eO (c.sgs.getD k ak).on (aN c s k).2).1:=by rw[aN,if_pos g2]
    have e2:(aN c s (k+1)).2=(aN c s k).2.set ((bW c).toNat+k) (eO (c.sgs.getD k ak).on (aN c s k).2).1:=by rw[aN,if_pos g2]
    refine nX (k) (ai (ai (ai (fun _=>rfl) (aG (by omega))) rfl) (ai rfl (ai rfl (ai ?_ ?_)))) (ai (ai (ai (ai (fun _=>rfl) (ai rfl (fun _ _=>rfl))) rfl) (ai (ai (ai (fun _=>rfl) (ai rfl (fun _ _=>rfl))) rfl) (ai (ai (ai (fun _=>rfl) (ai rfl (fun _ _=>rfl))) rfl) (ai (ai rfl (ai rfl (ai ?_ ?_))) (ai (ai (fun _=>rfl) (ai rfl (fun _ _=>rfl))) rfl))))) trivial) trivial
    ·rw[e2,apr]
    ·intro q hq
     show ji (fun w=>[bP ((aN c s k).2.getD w false)]) (IntKind.i64.wrap (bW c+(k:Int))).toNat 0 [bP (eO (c.sgs.getD k ak).on (aN c s k).2).1] q=[bP ((aN c s (k+1)).2.getD q false)]
     rw[hew k g,e2]
     exact jR (by omega) _ q
    ·rw[e1,apr]
    ·intro q hq
     show ji (fun w=>[bP ((aN c s k).1.getD w false)]) k 0 [bP (eO (c.sgs.getD k ak).on (aN c s k).2).1] q=[bP ((aN c s (k+1)).1.getD q false)]
     rw[e1]
     exact jR (by omega) _ q
   ·have e1:aN c s (k+1)=aN c s k:=by rw[aN,if_neg g2]
    refine nX (k) (ai (ai (ai (fun _=>rfl) (aG (by omega))) rfl) (ai rfl (ai rfl (ai ?_ ?_)))) (ai (ai (ai (ai (fun _=>rfl) (ai rfl (fun _ _=>rfl))) rfl) (ai (ai (ai (fun _=>rfl) (ai rfl (fun _ _=>rfl))) rfl) (ai (ai (ai (fun _=>rfl) (ai rfl (fun _ _=>rfl))) rfl) (ai (ai rfl (ai rfl (ai ?_ ?_))) (ai (ai (fun _=>rfl) (ai rfl (fun _ _=>rfl))) rfl))))) trivial) trivial
    ·rw[e1]
    ·rw[e1];exact fun _ _=>rfl
    ·rw[e1]
    ·rw[e1];exact fun _ _=>rfl
  obtain rfl:k=c.sgs.length:=by omega
  refine ai (ai (fun _=>?_) ?_) trivial
  ·exact ai trivial (ai trivial (ai trivial (ai (fun _ _=>rfl) trivial)))
  show lH _ (vX (uZ c s))
  rw[uZ]
  exact (ai (ai rfl (fun _ _=>rfl)) (ai (ai rfl (fun _ _=>rfl)) (ai (ai rfl (fun _ _=>rfl)) (ai (ai rfl (fun _ _=>rfl)) (ai rfl (fun _ _=>rfl))))))
 exact trivial
def au2:List (Nat×(List Nat→SV))→Nat→List Nat→SV
 | [],_,_=>.any
 | (k,v) :: l,i,ns=>match k.beq i with
  | true=>v ns
  | false=>au2 l i ns
def aua:List (Nat×List Nat)→Nat→List Nat
 | [],_=>[]
 | (k,v) :: l,i=>match k.beq i with
  | true=>v
  | false=>aua l i
def au8:List (Nat×(List Nat→Ob))→Nat→List Nat→Ob
 | [],_,_=>.cells 0 []
 | (k,v) :: l,i,ns=>match k.beq i with
  | true=>v ns
  | false=>au8 l i ns
def arB:List Nat→Nat
 | []=>0
 | n :: _=>n
def oG (c:bI) (k:Nat):List Bool:=(List.range c.sgs.length).map fun q=>if q<k then (c.sgs.getD q ak).ini else false
theorem uw (c:bI) (k:Nat):(oG c k).length=c.sgs.length:=by unfold oG;simp
theorem acD {c:bI} {k q:Nat} (h:q<c.sgs.length):(oG c k).getD q false=if q<k then (c.sgs.getD q ak).ini else false:=by
 unfold oG
 rw[aaG,alW,axy h];rfl
theorem ai7 {c:bI} {k:Nat} (h:k<c.sgs.length):(oG c k).set k (c.sgs.getD k ak).ini=oG c (k+1):=by
 have h1:=uw c k
 have h2:=uw c (k+1)
 refine List.ext_getElem (by rw[apr];omega) fun q g1 g2=>?_
 have e1:=acD (c:=c) (k:=k) (q:=q) (by omega)
 have e2:=acD (c:=c) (k:=k+1) (q:=q) (by omega)
 rw[aaG,aaX (by omega)] at e1
 rw[aaG,aaX g2] at e2
 rw[List.getElem_set]
 have e1:(oG c k)[q]'(by omega)=if q<k then (c.sgs.getD q ak).ini else false:=e1
 have e2:(oG c (k+1))[q]=if q<k+1 then (c.sgs.getD q ak).ini else false:=e2
 by_cases hq:k=q
 ·subst hq
  rw[if_pos rfl,e2,if_pos (by omega)]
 ·rw[if_neg hq,e1,e2]
  by_cases g:q<k
  ·rw[if_pos g,if_pos (by omega)]
  ·rw[if_neg g,if_neg (by omega)]
def ajM (c:bI):dw:=⟨List.replicate c.act.toNat 0,List.replicate c.act.toNat false,List.replicate c.ins.length false,oG c c.sgs.length,List.replicate c.sgs.length 0⟩
def adB (c:bI):dw:=uZ c (ajM c)
theorem alX {c:bI} (h:0≤c.act):oH c (ajM c):=by
 unfold oH ajM
 refine ⟨?_,?_,?_,?_,?_⟩
 ·show ((List.replicate c.act.toNat (0:Int)).length:Int)=c.act
  rw[apo];omega
 ·show ((List.replicate c.act.toNat false).length:Int)=c.act
  rw[apo];omega
 ·exact apo
 ·exact uw c _
 ·exact apo
theorem aeh {n q:Nat} (h:q<n):[iP ((List.replicate n (0:Int)).getD q 0)]=[.val (.int .i64 0)]:=by
 rw[aaG,axl,if_pos h];rfl
theorem acp {n q:Nat} (h:q<n):[bP ((List.replicate n false).getD q false)]=[.val (.bool false)]:=by
 rw[aaG,axl,if_pos h];rfl
def zI (n:Nat):SV:=.p false (.seq n fun _=>[.val (.int .i64 0)])
def zB (n:Nat):SV:=.p false (.seq n fun _=>[.val (.bool false)])
def fsS (c:bI):qE where
 l:=[2,5,9,11,13,14,15]
 own:=[11,15]
 u:=aua [(11,[11]),(14,[11]),(15,[15])]
 f:=au2 [(2,fun _=>zI c.act.toNat),(5,fun _=>zB c.act.toNat),(9,fun _=>zB c.ins.length),(11,fun ns=>.row (arB ns)),(13,fun _=>zI c.sgs.length),(14,fun ns=>.agg [zI c.act.toNat,zB c.act.toNat,zB c.ins.length,.row (arB ns),zI c.sgs.length]),(15,fun ns=>.own (arB ns) 0)]
 ob:=au8 [(11,fun _=>.row 4 1 c.sgs.length (fun _=>[.val (.bool false)])),(15,fun _=>.cells 57 [.p true (.val (.slice none 0 0)),.p true (.val (.slice none 0 0)),.p true (.val (.slice none 0 0)),.p true (.val (.slice none 0 0)),.p true (.val (.slice none 0 0))])]
def arU (c:bI):Prop:=ae5 c∧bH c=0∧0<c.sgs.length∧∀x∈c.sgs,x.on.size≤1000000
set_option maxHeartbeats 4000000 in
theorem atN:av Tryz.prog 30 (bO (fun c:bI=>[sH c]) arU (fun c=>.tup [vX (adB c),iP 0])):=by
 refine vI [4000020,4000023,4000027,4000031] Tryz.func30 ?_
 rintro (c:bI) hpre
 obtain ⟨hb,hc,h0,hon⟩:=hpre
 have hc:bH c=0:=hc
 have h0:0<c.sgs.length:=h0
 have hsm:=aip hc
 refine cK (adW) (c) (by exact (ai rfl (ai (ai rfl (fun _ _=>rfl)) (ai (ai rfl (fun _ _=>rfl)) (ai (ai rfl (fun _ _=>rfl)) (ai rfl (fun _ _=>rfl))))))) (hb) ?_
 refine bN (bH c=0) (fun h1=>?_) fun h1=>?_
 ·exact absurd hc h1
 refine ei (.one 0 (.one 1 (.one 3 (.one 4 (.one 6 (.one 7 (.one 8 (.one 10 (.one 12 (.set (fsS c) (.one 16 .done))))))))))) (ai (by kernel_rfl) (ai ?_ ?_))
 ·repeat' (first | exact trivial | exact ar4.mk rfl rfl rfl rfl | refine ai ?_ ?_ | intro q)
  all_goals omega
 refine ai trivial (ai (ai trivial (ai ?_ trivial)) (ai (ai trivial (ai ?_ trivial)) trivial))
 ·refine fR (c.sgs.length) (fun k=>[(36,.s (iA k))]) (fun k=>[⟨3,57,[.s (zI c.act.toNat),.s (zB c.act.toNat),.s (zB c.ins.length),bsW (oG c k),.s (zI c.sgs.length)]⟩]) (fun k=>True) ?_ ?_ ?_ ?_
  ·exact (ai (ai (fun _=>rfl) (iE (by omega))) rfl)
  ·refine (ai (ai (ai (ai nof (ai rfl (fun _ _=>rfl))) rfl) (ai (ai (ai nof (ai rfl (fun _ _=>rfl))) rfl) (ai (ai (ai nof (ai rfl (fun _ _=>rfl))) rfl) (ai (ai rfl (ai rfl (ai ?_ ?_))) (ai (ai nof (ai rfl (fun _ _=>rfl))) rfl))))) trivial)
   ·exact (uw c 0).symm
   ·intro q hq
    have hq:q<c.sgs.length:=hq
    show [bP false]=[bP ((oG c 0).getD q false)]
    rw[acD hq,if_neg (aeH q)]
  ·trivial
  intro (k:Nat) ⟨hk,_⟩
  have hl:=uw c k
  refine bL (k<c.sgs.length) (fun g=>?_) fun g=>?_
  ·refine iX (k) (c.sgs.length) ?_
   refine ai (ai (abw _) (by show ((k:Nat):Int)<((oG c k).length:Int);omega)) ?_
   refine ai (ai (by show ((k:Nat):Int).toNat<(oG c k).length;omega) (acM _)) ?_
   have e1:=ai7 g
   refine nX (k) (ai (ai (fun _=>rfl) (aG (by omega))) rfl) (ai (ai (ai (ai nof (ai rfl (fun _ _=>rfl))) rfl) (ai (ai (ai nof (ai rfl (fun _ _=>rfl))) rfl) (ai (ai (ai nof (ai rfl (fun _ _=>rfl))) rfl) (ai (ai rfl (ai rfl (ai ?_ ?_))) (ai (ai nof (ai rfl (fun _ _=>rfl))) rfl))))) trivial) trivial
   ·rw[←e1,apr]
   ·intro q hq
    show ji (fun w=>[bP ((oG c k).getD w false)]) k 0 [bP (c.sgs.getD k ak).ini] q=[bP ((oG c (k+1)).getD q false)]
    rw[←e1]
    exact jR (by omega) _ q
  obtain rfl:k=c.sgs.length:=by omega
  refine ei _ (ai (ahx) (ei ((c,ajM c)) (ei [] (ai (ai rfl (ai rfl (ai rfl (ai rfl (ai (fun _=>Or.inl rfl) (ai (fun _=>ai rfl rfl) (Or.inl rfl))))))) (ai ?_ (ai (by exact trivial) (ai (⟨ajJ hc,alX (c:=c) (by omega),h0,by show c.sgs.length≤1000;omega,by show c.ins.length≤1000;omega,hon⟩) ?_)))))))
  ·refine (ai (ai rfl (ai (ai rfl (fun _ _=>rfl)) (ai (ai rfl (fun _ _=>rfl)) (ai (ai rfl (fun _ _=>rfl)) (ai rfl (fun _ _=>rfl)))))) (ai (ai ?_ ?_) (ai (ai ?_ ?_) (ai (ai ?_ ?_) (ai (ai rfl (fun _ _=>rfl)) (ai ?_ ?_))))))
   ·exact apo.symm
   ·exact fun q hq=>(aeh hq).symm
   ·exact apo.symm
   ·exact fun q hq=>(acp hq).symm
   ·exact apo.symm
   ·exact fun q hq=>(acp hq).symm
   ·exact apo.symm
   ·exact fun q hq=>(aeh hq).symm
  refine eF (.tup [vX (adB c),iP 0]) ?_
  rw[adB]
  exact (ai (ai (ai rfl (fun _ _=>rfl)) (ai (ai rfl (fun _ _=>rfl)) (ai (ai rfl (fun _ _=>rfl)) (ai (ai rfl (fun _ _=>rfl)) (ai rfl (fun _ _=>rfl)))))) rfl)
 ·refine fR (c.sgs.length) (fun k=>[(36,.s (iA k))]) (fun k=>[⟨2,57,[.s (zI c.act.toNat),.s (zB c.act.toNat),.s (zB c.ins.length),bsW (oG c k),.s (zI c.sgs.length)]⟩]) (fun k=>True) ?_ ?_ ?_ ?_
  ·exact (ai (ai (fun _=>rfl) (iE (by omega))) rfl)
  ·refine (ai (ai (ai (ai nof (ai rfl (fun _ _=>rfl))) rfl) (ai (ai (ai nof (ai rfl (fun _ _=>rfl))) rfl) (ai (ai (ai nof (ai rfl (fun _ _=>rfl))) rfl) (ai (ai rfl (ai rfl (ai ?_ ?_))) (ai (ai nof (ai rfl (fun _ _=>rfl))) rfl))))) trivial)
   ·exact (uw c 0).symm
   ·intro q hq
    have hq:q<c.sgs.length:=hq
    show [bP false]=[bP ((oG c 0).getD q false)]
    rw[acD hq,if_neg (aeH q)]
  ·trivial
  intro (k:Nat) ⟨hk,_⟩
  have hl:=uw c k
  refine bL (k<c.sgs.length) (fun g=>?_) fun g=>?_
  ·refine iX (k) (c.sgs.length) ?_
   refine ai (ai (abw _) (by show ((k:Nat):Int)<((oG c k).length:Int);omega)) ?_
   refine ai (ai (by show ((k:Nat):Int).toNat<(oG c k).length;omega) (acM _)) ?_
   have e1:=ai7 g
   refine nX (k) (ai (ai (fun _=>rfl) (aG (by omega))) rfl) (ai (ai (ai (ai nof (ai rfl (fun _ _=>rfl))) rfl) (ai (ai (ai nof (ai rfl (fun _ _=>rfl))) rfl) (ai (ai (ai nof (ai rfl (fun _ _=>rfl))) rfl) (ai (ai rfl (ai rfl (ai ?_ ?_))) (ai (ai nof (ai rfl (fun _ _=>rfl))) rfl))))) trivial) trivial
   ·rw[←e1,apr]
   ·intro q hq
    show ji (fun w=>[bP ((oG c k).getD w false)]) k 0 [bP (c.sgs.getD k ak).ini] q=[bP ((oG c (k+1)).getD q false)]
    rw[←e1]
    exact jR (by omega) _ q
  obtain rfl:k=c.sgs.length:=by omega
  refine ei _ (ai (ahx) (ei ((c,ajM c)) (ei [] (ai (ai rfl (ai rfl (ai rfl (ai rfl (ai (fun _=>Or.inl rfl) (ai (fun _=>ai rfl rfl) (Or.inl rfl))))))) (ai ?_ (ai (by exact trivial) (ai (⟨ajJ hc,alX (c:=c) (by omega),h0,by show c.sgs.length≤1000;omega,by show c.ins.length≤1000;omega,hon⟩) ?_)))))))
  ·refine (ai (ai rfl (ai (ai rfl (fun _ _=>rfl)) (ai (ai rfl (fun _ _=>rfl)) (ai (ai rfl (fun _ _=>rfl)) (ai rfl (fun _ _=>rfl)))))) (ai (ai ?_ ?_) (ai (ai ?_ ?_) (ai (ai ?_ ?_) (ai (ai rfl (fun _ _=>rfl)) (ai ?_ ?_))))))
   ·exact apo.symm
   ·exact fun q hq=>(aeh hq).symm
   ·exact apo.symm
   ·exact fun q hq=>(acp hq).symm
   ·exact apo.symm
   ·exact fun q hq=>(acp hq).symm
   ·exact apo.symm
   ·exact fun q hq=>(aeh hq).symm
  refine eF (.tup [vX (adB c),iP 0]) ?_
  rw[adB]
  exact (ai (ai (ai rfl (fun _ _=>rfl)) (ai (ai rfl (fun _ _=>rfl)) (ai (ai rfl (fun _ _=>rfl)) (ai (ai rfl (fun _ _=>rfl)) (ai rfl (fun _ _=>rfl)))))) rfl)
def wN (t:sF):Bool:=decide (t.fr.length≤40)&&(decide (t.to.length≤40)&&oP t.wh)
def kX (c:aB):Bool:=(decide (c.ins.length≤40)&&(decide (c.sts.length≤60)&&decide (c.trs.length≤60)))&&((c.ins.all fun t=>decide (t.length≤100))&&((c.sts.all fun x=>decide (x.st.length≤40))&&((c.trs.all wN)&&((decide (c.sts.length≤7)&&decide (c.trs.length≤9))||decide (¬bV c=0)))))
theorem acv {c:aB} (h:¬(c.ins.length≤40∧c.sts.length≤60∧c.trs.length≤60)):kX c=false:=by
 unfold kX
 rw[←axY,←axY,decide_eq_false h,apT]
theorem aqc {c:aB} (h:∃x∈c.ins,¬x.length≤100):kX c=false:=by
 obtain ⟨x,hx,h⟩:=h
 unfold kX
 rw[show (c.ins.all fun t=>decide (t.length≤100))=false from auy.2 ⟨x,hx,by simpa using h⟩,apT,aue]
theorem ai5 {c:aB} (h:∃x∈c.sts,¬x.st.length≤40):kX c=false:=by
 obtain ⟨x,hx,h⟩:=h
 unfold kX
 rw[show (c.sts.all fun x=>decide (x.st.length≤40))=false from auy.2 ⟨x,hx,by simpa using h⟩,apT,aue,aue]
theorem abH {c:aB} (h:∃x∈c.trs,wN x=false):kX c=false:=by
 obtain ⟨x,hx,h⟩:=h
 unfold kX
 rw[show c.trs.all wN=false from auy.2 ⟨x,hx,by rw[h];decide⟩,apT,aue,aue,aue]
theorem aqA {c:aB} (h1:c.ins.length≤40∧c.sts.length≤60∧c.trs.length≤60) (h2:∀x∈c.ins,x.length≤100) (h3:∀x∈c.sts,x.st.length≤40) (h4:∀x∈c.trs,wN x=true):kX c=((decide (c.sts.length≤7)&&decide (c.trs.length≤9))||decide (¬bV c=0)):=by
 unfold kX
 rw[←axY,←axY,decide_eq_true h1,aer,show (c.ins.all fun t=>decide (t.length≤100))=true from aoP.2 fun x hx=>decide_eq_true (h2 x hx),aer,show (c.sts.all fun x=>decide (x.st.length≤40))=true from aoP.2 fun x hx=>decide_eq_true (h3 x hx),aer,aoP.2 h4,aer]
theorem aqt {t:sF} (h:wN t=true):t.fr.length≤40∧t.to.length≤40∧oP t.wh=true:=by
 unfold wN at h
 rw[abx,abx] at h
 exact ⟨of_decide_eq_true h.1,of_decide_eq_true h.2.1,h.2.2⟩
theorem ajx {c:aB} (h1:c.ins.length≤40∧c.sts.length≤60∧c.trs.length≤60) (h3:∀x∈c.sts,x.st.length≤40) (h4:∀x∈c.trs,wN x=true):jr c:=by
 refine ⟨fun s hs=>?_,fun t ht=>?_⟩
 ·have:=h3 s hs;omega
 ·obtain ⟨h5,h6,h7⟩:=aqt (h4 t ht)
  have:=an2 h7
  exact ⟨by omega,by omega,by omega⟩
theorem avK (x:Int):decide (¬x=0)=(x != 0):=by
 by_cases h:x=0
 ·subst h;rfl
 ·rw[decide_eq_true h];exact (bne_iff_ne.2 h).symm
theorem aqg:av Tryz.prog 47 (bC (fun c:aB=>[iG c]) (fun _=>True) (fun c=>bP (kX c))):=by
 refine vF Tryz.func47 ?_
 rintro (c:aB) hpre
 refine bL (40<c.ins.length) (fun h1=>?_) fun h1=>?_
 ·refine eN (bP (kX c)) ?_
  rw[acv (fun h=>absurd h.1 (by omega))]
  exact rfl
 refine bL (60<c.sts.length) (fun h2=>?_) fun h2=>?_
 ·refine eN (bP (kX c)) ?_
  rw[acv (fun h=>absurd h.2.1 (by omega))]
  exact rfl
 refine bL (60<c.trs.length) (fun h3=>?_) fun h3=>?_
 ·refine eN (bP (kX c)) ?_
  rw[acv (fun h=>absurd h.2.2 (by omega))]
  exact rfl
 have hs1:c.ins.length≤40∧c.sts.length≤60∧c.trs.length≤60:=⟨by omega,by omega,by omega⟩
 refine fR (c.ins.length) (fun k=>[(3,.s (iA k))]) (fun k=>[]) (fun k=>∀y∈c.ins.take k,y.length≤100) (by exact (ai (ai (fun _=>rfl) (iE (by omega))) rfl)) (by exact trivial) ?_ ?_
 ·exact fun y hy=>absurd hy (by simp)
 intro (k:Nat) ⟨hk,hall⟩
 refine bL (k<c.ins.length) (fun h4=>?_) fun h4=>?_
 ·refine iX (k) (c.ins.length) ?_
  have hz:=cO (c.ins.getD k [])
  refine ah (p:=100<(c.ins.getD k []).length) (by exact aA (by show (100:Int)<((strOf (c.ins.getD k [])).size:Int)↔_;rw[hz];omega)) (fun h5=>?_) (fun h5=>?_)
  ·refine eN (bP (kX c)) ?_
   rw[aqc ⟨_,abu (bD [] h4),by omega⟩]
   exact rfl
  refine nX (k) (ai (ai (fun _=>rfl) (aG (by omega))) rfl) trivial ?_
  intro y hy
  rw[aR [] h4] at hy
  rcases acT.1 hy with hy | hy
  ·exact hall y hy
  ·simp only[aes] at hy;subst hy;omega
 obtain rfl:k=c.ins.length:=by omega
 rw[acS] at hall
 have hins:=hall
 clear hall
 refine fR (c.sts.length) (fun k=>[(4,.s (iA k))]) (fun k=>[]) (fun k=>∀y∈c.sts.take k,y.st.length≤40) (by exact (ai (ai (fun _=>rfl) (iE (by omega))) rfl)) (by exact trivial) ?_ ?_
 ·exact fun y hy=>absurd hy (by simp)
 intro (k:Nat) ⟨hk,hall⟩
 refine bL (k<c.sts.length) (fun h4=>?_) fun h4=>?_
 ·refine iX (k) (c.sts.length) ?_
  refine ah (p:=40<(c.sts.getD k st0).st.length) (by simp only[zz,reduceCtorEq];omega) (fun h5=>?_) (fun h5=>?_)
  ·refine eN (bP (kX c)) ?_
   rw[ai5 ⟨_,abu (bD st0 h4),by omega⟩]
   exact rfl
  refine nX (k) (ai (ai (fun _=>rfl) (aG (by omega))) rfl) trivial ?_
  intro y hy
  rw[aR st0 h4] at hy
  rcases acT.1 hy with hy | hy
  ·exact hall y hy
  ·simp only[aes] at hy;subst hy;omega
 obtain rfl:k=c.sts.length:=by omega
 rw[acS] at hall
 have hsts:=hall
 clear hall
 refine fR (c.trs.length) (fun k=>[(5,.s (iA k))]) (fun k=>[]) (fun k=>∀y∈c.trs.take k,wN y=true) (by exact (ai (ai (fun _=>rfl) (iE (by omega))) rfl)) (by exact trivial) ?_ ?_
 ·exact fun y hy=>absurd hy (by simp)
 intro (k:Nat) ⟨hk,hall⟩
 refine bL (k<c.trs.length) (fun h4=>?_) fun h4=>?_
 ·refine iX (k) (c.trs.length) ?_
  refine ah (p:=40<(c.trs.getD k bf).fr.length) (by simp only[zz,reduceCtorEq];omega) (fun h5=>?_) (fun h5=>?_)
  ·refine eN (bP (kX c)) ?_
   rw[abH ⟨_,abu (bD bf h4),by unfold wN;rw[decide_eq_false (by omega),apT]⟩]
   exact rfl
  refine ah (p:=40<(c.trs.getD k bf).to.length) (by simp only[zz,reduceCtorEq];omega) (fun h6=>?_) (fun h6=>?_)
  ·refine eN (bP (kX c)) ?_
   rw[abH ⟨_,abu (bD bf h4),by unfold wN;rw[decide_eq_false (p:=(c.trs.getD k bf).to.length≤40) (by omega),apT,aue]⟩]
   exact rfl
  refine cK (avk) ((c.trs.getD k bf).wh) (by exact (ai (iE (by simp only[zz,reduceCtorEq])) (ai (iE (by simp only[zz,reduceCtorEq])) (ai rfl (fun _ _=>rfl))))) (trivial) ?_
  refine aC (b:=!oP (c.trs.getD k bf).wh) rfl (fun h7=>?_) (fun h7=>?_)
  ·have h7:oP (c.trs.getD k bf).wh=false:=by simpa using h7
   refine eN (bP (kX c)) ?_
   rw[abH ⟨_,abu (bD bf h4),by unfold wN;rw[h7,aue,aue]⟩]
   exact rfl
  have h7:oP (c.trs.getD k bf).wh=true:=by simpa using h7
  refine nX (k) (ai (ai (fun _=>rfl) (aG (by omega))) rfl) trivial ?_
  intro y hy
  rw[aR bf h4] at hy
  rcases acT.1 hy with hy | hy
  ·exact hall y hy
  ·simp only[aes] at hy;subst hy;unfold wN;rw[decide_eq_true (by omega),decide_eq_true (by omega),h7];rfl
 obtain rfl:k=c.trs.length:=by omega
 rw[acS] at hall
 have hy:=aqA hs1 hins hsts hall
 have ho:=ajx hs1 hsts hall
 refine bG (c.sts.length≤7) (fun h4=>?_) fun h4=>?_
 ·refine bG (c.trs.length≤9) (fun h5=>?_) fun h5=>?_
  ·refine eN (bP (kX c)) ?_
   rw[hy,decide_eq_true h4,decide_eq_true h5,aer,ajm]
   exact rfl
  ·refine cK (agV) (c) (by exact (ai rfl (ai (ai rfl (fun _ _=>rfl)) (ai (ai rfl (fun _ _=>rfl)) (ai rfl (fun _ _=>rfl)))))) (ho) ?_
   refine eN (bP (kX c)) ?_
   rw[hy,decide_eq_false h5,aue,ar5,avK (bV c)]
   exact rfl
 ·refine cK (agV) (c) (by exact (ai rfl (ai (ai rfl (fun _ _=>rfl)) (ai (ai rfl (fun _ _=>rfl)) (ai rfl (fun _ _=>rfl)))))) (ho) ?_
  refine eN (bP (kX c)) ?_
  rw[hy,decide_eq_false h4,apT,ar5,avK (bV c)]
  exact rfl
theorem ame {c:aB} (h:kX c=true):jr c∧aqH c∧c.ins.length≤1000000:=by
 by_cases h1:c.ins.length≤40∧c.sts.length≤60∧c.trs.length≤60
 ·by_cases h3:∀x∈c.sts,x.st.length≤40
  ·by_cases h4:∀x∈c.trs,wN x=true
   ·exact ⟨ajx h1 h3 h4,⟨by omega,by omega⟩,by omega⟩
   ·simp only[Classical.not_forall] at h4
    obtain ⟨x,hx,h4⟩:=h4
    rw[abH ⟨x,hx,by simpa using h4⟩] at h;cases h
  ·simp only[Classical.not_forall] at h3
   obtain ⟨x,hx,h3⟩:=h3
   rw[ai5 ⟨x,hx,h3⟩] at h;cases h
 ·rw[acv h1] at h;cases h
def three:lG:=⟨2,[⟨[(0,true)],0⟩,⟨[(1,true)],150⟩,⟨[(0,false),(1,false)],0⟩]⟩
def aup (n:Int) (b:Bool):PV:=.seq 1 (aT 2 [iP n,bP b])
def aam:PV:=.agg [iP 2,.seq 3 (aT 2 [aup 0 true,iP 0,aup 1 true,iP 150,.seq 2 (aT 2 [iP 0,bP false,iP 1,bP false]),iP 0])]
theorem aoF:av Tryz.prog 48 (bO (fun _:Unit=>[]) (fun _=>True) (fun _=>aam)):=by
 refine vI [4000002,4000005,4000009,4000011] Tryz.func48 ?_
 rintro (u:Unit) hpre
 refine eF (aam) ?_
 rw[show aam=aam from rfl]
 exact (ai rfl (ai rfl (fun _ _=>rfl)))
theorem aqE:gB aam (.agg (sqK three)):=by
 refine mI (aH (.refl _) (aH (iT fun k hk=>?_) sD))
 match k,hk with
 | 0,_=>exact aqD (iT fun k hk=>by match k,hk with | 0,_=>exact bS.rfl' _) (.refl _)
 | 1,_=>exact aqD (iT fun k hk=>by match k,hk with | 0,_=>exact bS.rfl' _) (.refl _)
 | 2,_=>exact aqD (iT fun k hk=>by match k,hk with | 0,_=>exact bS.rfl' _ | 1,_=>exact bS.rfl' _) (.refl _)
theorem aj4:av Tryz.prog 48 (bO (fun _:Unit=>[]) (fun _=>True) (fun _=>.agg (sqK three))):=gW aoF fun _ _=>aqE
theorem ah2:∀l:List Sk,sizes (l.map fun y=>fV (mR y))=l.length
 | []=>by simp[sizes]
 | y :: l=>by
  rw[axk,sizes,ah2 l,arJ]
  show (Ex.node 1 (mR y) []).size+l.length=_
  rw[Ex.size,sizes];omega
theorem ahF:∀l:List Sk,iy (l.map fun y=>fV (mR y))≤1
 | []=>by simp[iy]
 | y :: l=>by
  rw[axk,iy]
  have:=ahF l
  have h:(fV (mR y)).deep=1:=by show (Ex.node 1 (mR y) []).deep=1;rw[Ex.deep,iy]
  omega
theorem ab0 (n:Int):jl (fV n)=true:=nN.2 ⟨by show (Ex.node 1 n []).size≤256;rw[Ex.size,sizes];omega,by show (Ex.node 1 n []).deep≤16;rw[Ex.deep,iy];omega⟩
theorem agi {l:List Sk} (h:l.length≤6):jl (.node 3 0 (l.map fun y=>fV (mR y)))=true:=by
 have h1:=ah2 l
 have h2:=ahF l
 exact nN.2 ⟨by rw[Ex.size];omega,by rw[Ex.deep];omega⟩
theorem agq {l:List Sk} (h:l.length≤6):jl (agX l)=true:=by
 match l,h with
 | [y],_=>exact ab0 _
 | [],h=>exact agi h
 | a :: b :: l,h=>exact agi h
def okQ (q:SX):Prop:=q.1.st.length≤6∧jl q.2=true
theorem avn {s:lG} (h:∀x∈s.sts,x.st.length≤6):∀q∈aax s,okQ q:=by
 have key:∀(l:List Stp) (p:List SX),(∀x∈l,x.st.length≤6)→(∀q∈p,okQ q)→∀q∈l.foldl (afk s.act) p,okQ q:=by
  intro l
  induction l with
  | nil=>intro p _ h;exact h
  | cons x l ih=>
   intro p hx h
   rw[awz]
   refine ih _ (fun y hy=>hx y (by simp[hy])) fun q hq=>?_
   have hx0:=hx x (by simp)
   unfold afk at hq
   split at hq
   ·rcases acT.1 hq with hq | hq
    ·rcases acT.1 hq with hq | hq
     ·exact h q hq
     ·simp only[aes] at hq;subst hq;exact ⟨hx0,agq hx0⟩
    ·simp only[aes] at hq;subst hq;exact ⟨alr _,ab0 _⟩
   ·rcases acT.1 hq with hq | hq
    ·exact h q hq
    ·simp only[aes] at hq;subst hq;exact ⟨hx0,agq hx0⟩
 exact key s.sts _ h fun q hq=>by simp only[aes] at hq;subst hq;exact ⟨alr _,ab0 _⟩
theorem asY {s:lG} (h:tO s=0):ng s=0∧(aax s).length≤24:=by
 unfold tO at h
 split at h
 ·rename_i h1;exact absurd h h1
 ·rename_i h1
  split at h
  ·cases h
  ·rename_i h2
   rw[akJ,ai1] at h2
   exact ⟨alF.1 h1,by omega⟩
theorem apy (s:lG):apP (ofC s):=by
 unfold ofC
 split
 ·rename_i h
  obtain ⟨h1,h2⟩:=asY h
  obtain ⟨_,_,hck⟩:=seq_ok h1
  have hq:=avn (s:=s) fun x hx=>(aav (hck x hx)).1.2
  refine ⟨⟨?_,?_⟩,?_,fun x hx=>?_,fun t ht=>?_⟩
  ·show ((aax s).map (·.1)).length≤_;rw[ai1];omega
  ·show ((List.range (aax s).length).map (aeP (aax s))).length≤_;rw[ai1,auf];omega
  ·show 1≤1000000;omega
  ·have hx:x∈(aax s).map (·.1):=hx
   obtain ⟨q,hq1,rfl⟩:=auA.1 hx
   have:=(hq q hq1).1;omega
  ·have ht:t∈(List.range (aax s).length).map (aeP (aax s)):=ht
   obtain ⟨k,hk,rfl⟩:=auA.1 ht
   have hk:=auJ.1 hk
   exact ⟨by show 1≤1000000;omega,by show 1≤1000000;omega,(hq _ (abu (bD sx0 hk))).2⟩
 ·exact ⟨⟨alr _,alr _⟩,alr _,(fun x hx=>nomatch (show x∈([]:List Stp) from hx)),(fun t ht=>nomatch (show t∈([]:List sF) from ht))⟩
theorem akl {c:aB} (h:apP c):jr c:=⟨h.2.2.1,fun t ht=>⟨(h.2.2.2 t ht).1,(h.2.2.2 t ht).2.1,by have:=(nN.1 (h.2.2.2 t ht).2.2).1;omega⟩⟩
def ocN (s:lG):Int:=if tO s=0 then cu (ofC s) else tO s
def ocC (s:lG):bI:=if tO s=0 then ajf (ofC s) else zC
def ocP (s:lG):PV:=.tup [ctP (ocC s),iP (ocN s)]
def abK (s:lG):PV:=if tO s=0 then .tup [ctP (ajf (ofC s)),iP (cu (ofC s))] else .tup [zCP,iP (tO s)]
theorem awp (s:lG):gB (abK s) (ocP s):=by
 unfold abK ocP ocC ocN
 split
 ·exact .refl _
 ·exact wC (aH asa (oC (.refl _)))
theorem asi:av Tryz.prog 23 (bO (fun s:lG=>[sqA s]) (fun _=>True) ocP):=by
 have h:av Tryz.prog 23 (bO (fun s:lG=>[sqA s]) (fun _=>True) abK):=by
  refine vF Tryz.func23 ?_
  rintro (s:lG) hpre
  refine cK (acW) (s) (by exact (ai rfl (ai rfl (fun _ _=>rfl)))) (trivial) ?_
  refine bN (tO s=0) (fun h1=>?_) fun h1=>?_
  ·refine eF (abK s) ?_
   rw[abK,if_neg h1]
   exact (ai (ai rfl (ai rfl (ai rfl (ai rfl rfl)))) rfl)
  refine cK (alh) (ofC s) (by exact (ai rfl (ai (ai rfl (fun _ _=>rfl)) (ai (ai rfl (fun _ _=>rfl)) (ai rfl (fun _ _=>rfl)))))) (akl (apy s)) ?_
  refine eF (abK s) ?_
  rw[abK,if_pos h1]
  exact (ai (ai rfl (ai (ai rfl (fun _ _=>rfl)) (ai (ai rfl (fun _ _=>rfl)) (ai (ai rfl (fun _ _=>rfl)) (ai rfl (fun _ _=>rfl)))))) rfl)
 exact gW h fun s _=>awp s
def vrY (n:Int):Ex:=.node 1 n []
def kg:aB:=⟨2,[[115,116,97,114,116]],[⟨[],0⟩,⟨[(0,true)],0⟩,⟨[(1,true)],0⟩,⟨[],150⟩,⟨[(0,false),(1,false)],0⟩],
 [⟨[0],[1],vrY 4⟩,⟨[1],[2],vrY 1⟩,⟨[2],[3],vrY 3⟩,⟨[3],[4],vrY 8⟩,⟨[4],[0],.node 3 0 [vrY 0,vrY 2]⟩]⟩
theorem agP:ofC three=kg:=by kernel_rfl
theorem ajE:tO three=0:=by decide +kernel
theorem abm:cu kg=0:=by decide +kernel
def uj:bI:=dH kg
theorem asI:ajf kg=uj:=if_pos abm
theorem an3:uj.sgs.length=15:=by decide +kernel
theorem auS:(uj.sgs.getD 6 ak).nm=[122,48]:=by decide +kernel
theorem axh:fD kg kg.sts.length=[5,6,7,8,9]:=by decide +kernel
theorem awJ:bZ kg kg.sts.length=[-1099511627776,-1099511627776,-1099511627776,10,-1099511627776]:=by decide +kernel
def afi:dw:={ adB uj with inp:=[true] }
theorem avm:sK kg afi=0:=by decide +kernel
theorem avJ:zo kg afi=[false,true,false,false,false]:=by decide +kernel
theorem aw6:ocC three=uj:=by unfold ocC;rw[if_pos ajE,agP,asI]
theorem aw1:ocN three=0:=by unfold ocN;rw[if_pos ajE,agP,abm]
theorem aix:jr kg:=by
 refine ⟨fun s hs=>?_,fun t ht=>?_⟩
 ·have:∀s∈kg.sts,s.st.length≤2:=by decide
  have:=this s hs;omega
 ·have:∀t∈kg.trs,t.fr.length≤2∧t.to.length≤2∧t.wh.size≤10:=by decide +kernel
  have:=this t ht
  exact ⟨by omega,by omega,by omega⟩
theorem awV:jP kg:=⟨(mo.1 abm).1,aix⟩
theorem bd3:ae5 uj:=vM awV
theorem fs3:arU uj:=by
 refine ⟨bd3,(mo.1 abm).2,by rw[an3];decide,fun x hx=>?_⟩
 have:∀x∈uj.sgs,x.on.size≤100:=by decide +kernel
 have:=this x hx
 omega
theorem cs3:og (kg,afi):=by
 refine ⟨aix,?_,?_⟩
 ·exact ⟨by decide +kernel,by decide +kernel⟩
 ·exact ⟨by decide +kernel,by decide +kernel,by decide +kernel⟩
section
variable {z : Int} (hz : z = 0)
include hz
theorem ata:av Tryz.prog 23 (bO (fun _:Unit=>[sqA three]) (fun _=>True) (fun _=>.tup [ctP uj,iP z])):=
 nD asi three trivial (by show PV.tup [ctP (ocC three),iP (ocN three)]=_;rw[hz,aw6,aw1])
theorem as7:av Tryz.prog 49 (bO (fun _:Unit=>[sqA three]) (fun _=>True) (fun _=>.tup [chP kg,iP z])):=
 nD acW three trivial (by show PV.tup [chP (ofC three),iP (tO three)]=_;rw[hz,agP,ajE])
theorem atJ:av Tryz.prog 16 (bO (fun _:Unit=>[iG kg]) (fun _=>True) (fun _=>.tup [fT [5,6,7,8,9],iP z])):=
 nD apz kg aix (by show ahb (cu kg) (fD kg kg.sts.length)=_;rw[abm,axh,hz];rfl)
theorem atD:av Tryz.prog 18 (bO (fun _:Unit=>[iG kg]) (fun _=>True) (fun _=>.tup [fT [-1099511627776,-1099511627776,-1099511627776,10,-1099511627776],iP z])):=
 nD anf kg aix (by show ahb (cu kg) (bZ kg kg.sts.length)=_;rw[abm,awJ,hz];rfl)
theorem as3:av Tryz.prog 30 (bO (fun _:Unit=>[sH uj]) (fun _=>True) (fun _=>.tup [vX (adB uj),iP z])):=
 nD atN uj fs3 (by show PV.tup [vX (adB uj),iP 0]=_;rw[hz])
theorem asV:av Tryz.prog 26 (bO (fun _:Unit=>[iG kg,kE afi]) (fun _=>True) (fun _=>.tup [iR [false,true,false,false,false],iP z])):=
 nD ars (kg,afi) cs3 (by show adj (sK kg afi) (zo kg afi)=_;rw[avm,avJ,hz];rfl)
end
theorem aiD (l:List Int) (h:l.length≤1000000):av Tryz.prog 50 (bC (fun _:Unit=>[isA l,isA l]) (fun _=>True) (fun _=>bP true)):=
 vk asE (l,l) h (by show bP (decide (l=l))=_;rw[decide_eq_true rfl])
theorem avQ (l:List Bool) (h:l.length≤1000000):av Tryz.prog 33 (bC (fun _:Unit=>[qh l,qh l]) (fun _=>True) (fun _=>bP true)):=
 vk ag4 (l,l) h (by show bP (decide (l=l))=_;rw[decide_eq_true rfl])
theorem abT:av Tryz.prog 12 (bC (fun _:Unit=>[]) (fun _=>True) (fun _=>bP true)):=by
 refine vI [4000059,4000071,4000076,4000082,4000088,4000101] Tryz.func12 ?_
 rintro ⟨⟩ hpre
 obtain ⟨z,hz⟩:∃z:Int,z=0:=⟨0,rfl⟩
 refine cK (aj4) (()) (by exact trivial) (trivial) ?_
 refine cK ((ata hz)) (()) (by exact (ai rfl (ai rfl (fun _ _=>rfl)))) (trivial) ?_
 refine cK (aj4) (()) (by exact trivial) (trivial) ?_
 refine cK ((as7 hz)) (()) (by exact (ai rfl (ai rfl (fun _ _=>rfl)))) (trivial) ?_
 refine cK ((atJ hz)) (()) (by exact (ai rfl (ai (ai rfl (fun _ _=>rfl)) (ai (ai rfl (fun _ _=>rfl)) (ai rfl (fun _ _=>rfl)))))) (trivial) ?_
 refine cK ((atD hz)) (()) (by exact (ai rfl (ai (ai rfl (fun _ _=>rfl)) (ai (ai rfl (fun _ _=>rfl)) (ai rfl (fun _ _=>rfl)))))) (trivial) ?_
 refine cK ((as3 hz)) (()) (by exact (ai rfl (ai (ai rfl (fun _ _=>rfl)) (ai (ai rfl (fun _ _=>rfl)) (ai (ai rfl (fun _ _=>rfl)) (ai rfl (fun _ _=>rfl))))))) (trivial) ?_
 refine bF (by simp only[hz,Int.add_zero,an7];rfl) ?_
 refine ei _ (ai ((asV hz)) (ei (()) (ei [] (ai (a4 (ai (fun _=>Or.inl rfl) (ai nof (Or.inl rfl)))) (ai ?_ (ai trivial (ai ?_ ?_)))))))
 ·refine (ai (ai rfl (ai (ai rfl (fun _ _=>rfl)) (ai (ai rfl (fun _ _=>rfl)) (ai rfl (fun _ _=>rfl))))) (ai (ai rfl (fun _ _=>rfl)) (ai (ai rfl (fun _ _=>rfl)) (ai (ai rfl ?_) (ai (ai rfl (fun _ _=>rfl)) (ai rfl (fun _ _=>rfl)))))))
  (intro k hk;have hk:k<1:=hk;match k,hk with | 0,_=>rfl)
 ·trivial
 refine bT (by simp only[hz,Int.add_zero,an7];rfl) ?_
 refine ei _ (ai ((aiD [5,6,7,8,9] (by decide))) (ei (()) (ei [] (ai (a4 (ai (fun _=>Or.inl rfl) (ai nof (Or.inl rfl)))) (ai ?_ (ai trivial (ai ?_ ?_)))))))
 ·refine (ai (ai rfl (fun _ _=>rfl)) (ai rfl ?_))
  (intro k hk;have hk:k<5:=hk;match k,hk with | 0,_=>rfl | 1,_=>rfl | 2,_=>rfl | 3,_=>rfl | 4,_=>rfl)
 ·trivial
 refine ei _ (ai ((aiD [-1099511627776,-1099511627776,-1099511627776,10,-1099511627776] (by decide))) (ei (()) (ei [] (ai (a4 (ai (fun _=>Or.inl rfl) (ai nof (Or.inl rfl)))) (ai ?_ (ai trivial (ai ?_ ?_)))))))
 ·refine (ai (ai rfl (fun _ _=>rfl)) (ai rfl ?_))
  (intro k hk;have hk:k<5:=hk;match k,hk with | 0,_=>rfl | 1,_=>rfl | 2,_=>rfl | 3,_=>rfl | 4,_=>rfl)
 ·trivial
 refine ei _ (ai ((aiD [16,18] (by decide))) (ei (()) (ei [] (ai (a4 (ai (fun _=>Or.inl rfl) (ai nof (Or.inl rfl)))) (ai ?_ (ai trivial (ai ?_ ?_)))))))
 ·refine (ai (ai rfl (fun _ _=>rfl)) (ai rfl ?_))
  (intro k hk;have hk:k<2:=hk;match k,hk with | 0,_=>rfl | 1,_=>rfl)
 ·trivial
 refine ei _ (ai ((aiD [17,19] (by decide))) (ei (()) (ei [] (ai (a4 (ai (fun _=>Or.inl rfl) (ai nof (Or.inl rfl)))) (ai ?_ (ai trivial (ai ?_ ?_)))))))
 ·refine (ai (ai rfl (fun _ _=>rfl)) (ai rfl ?_))
  (intro k hk;have hk:k<2:=hk;match k,hk with | 0,_=>rfl | 1,_=>rfl)
 ·trivial
 refine ai (ai (by decide) (by show (6:Int)<(uj.sgs.length:Int);rw[an3];decide)) (ai rfl ?_)
 refine bT (by show ((strOf (uj.sgs.getD 6 ak).nm).data.toList==(⟨#[122,48]⟩:ByteArray).data.toList)=true;rw[auS];decide +kernel) ?_
 refine ei _ (ai ((avQ [false,true,false,false,false] (by decide))) (ei (()) (ei [] (ai (a4 (ai (fun _=>Or.inl rfl) (ai nof (Or.inl rfl)))) (ai ?_ (ai trivial (ai ?_ ?_)))))))
 ·refine (ai (ai rfl (fun _ _=>rfl)) (ai rfl ?_))
  (intro k hk;have hk:k<5:=hk;match k,hk with | 0,_=>rfl | 1,_=>rfl | 2,_=>rfl | 3,_=>rfl | 4,_=>rfl)
 ·trivial
 refine eN _ ?_
 exact rfl
theorem arD:av Tryz.prog 11 (bC (fun c:aB=>[iG c]) (fun _=>True) (fun c=>bP (kX c))):=by
 refine vF Tryz.func11 ?_
 rintro (c:aB) hpre
 refine cK (aqg) (c) (by exact (ai rfl (ai (ai rfl (fun _ _=>rfl)) (ai (ai rfl (fun _ _=>rfl)) (ai rfl (fun _ _=>rfl)))))) (trivial) ?_
 refine eN _ ?_
 exact rfl
theorem aqG {c:aB} {s:dw} (h:og (c,s)) (h0:bR c s=0):(gV c s).length≤1000000:=by
 have hr:=aaD h h0
 have:=yX hr
 have:c.sts.length≤24:=(dA hr.1).2.2.1
 omega
theorem amF {c:aB} {s:dw} (h:og (c,s)) (h0:bR c s=0) (a d:List Bool):(iW c s a d).length≤1000000:=by
 have hr:=aaD h h0
 have h1:=zx hr
 have hc:jP c:=hr.1
 obtain ⟨⟨ha1,ha6⟩,hi16,hs24,ht32⟩:=dA hc
 have hb:aJ c=2*c.act+c.ins.length:=rfl
 unfold iW fG
 rw[aaJ,ai1,auf]
 omega
theorem avg {c:aB} {s:dw} (h:kX c=true) (h2:oV s=true):og (c,s):=by
 unfold oV at h2
 simp only[abx,decide_eq_true_eq] at h2
 obtain ⟨g1,g2,g3,g4,g5⟩:=h2
 exact ⟨(ame h).1,⟨by show s.en.length≤_;omega,by show s.ti.length≤_;omega⟩,⟨by show s.en.length≤_;omega,by show s.inp.length≤_;omega,by show s.vl.length≤_;omega⟩⟩
theorem alz (e:Int) (l:List Bool) (h:e=0→l.length≤1000000):(if e=0 then l else []).length≤1000000:=by
 split
 ·rename_i h0;exact h h0
 ·exact alr _
theorem aoI (l:List Bool):PV.val (.bool (decide (l=l)))=bP true:=by rw[decide_eq_true rfl];rfl
theorem apJ:av Tryz.prog 7 (bC (fun a:aB×dw=>[iG a.1,kE a.2]) (fun _=>True) (fun _=>bP true)):=by
 refine vF Tryz.func7 ?_
 rintro ⟨c,s⟩ hpre
 refine cK (arD) (c) (by exact (ai rfl (ai (ai rfl (fun _ _=>rfl)) (ai (ai rfl (fun _ _=>rfl)) (ai rfl (fun _ _=>rfl)))))) (trivial) ?_
 refine aC (b:=!kX c) rfl (fun h1=>?_) (fun h1=>?_)
 ·refine cK (abT) (()) (by exact trivial) (trivial) ?_
  refine eN _ ?_
  exact rfl
 have h1:kX c=true:=by simpa using h1
 refine cK (atz) (s) (by exact (ai (ai rfl (fun _ _=>rfl)) (ai (ai rfl (fun _ _=>rfl)) (ai (ai rfl (fun _ _=>rfl)) (ai (ai rfl (fun _ _=>rfl)) (ai rfl (fun _ _=>rfl))))))) (trivial) ?_
 refine aC (b:=!oV s) rfl (fun h2=>?_) (fun h2=>?_)
 ·refine cK (abT) (()) (by exact trivial) (trivial) ?_
  refine eN _ ?_
  exact rfl
 have h2:oV s=true:=by simpa using h2
 have hcs:=avg h1 h2
 have hse:=(ame h1).2.1
 refine dR (.seq [0,2,1,3,4,5,6,7,8]) ?_
 refine cK (ami) (c) (by exact (ai rfl (ai (ai rfl (fun _ _=>rfl)) (ai (ai rfl (fun _ _=>rfl)) (ai rfl (fun _ _=>rfl)))))) (hse) ?_
 refine cK (am9) ((c,s)) (by exact (ai (ai rfl (ai (ai rfl (fun _ _=>rfl)) (ai (ai rfl (fun _ _=>rfl)) (ai rfl (fun _ _=>rfl))))) (ai (ai rfl (fun _ _=>rfl)) (ai (ai rfl (fun _ _=>rfl)) (ai (ai rfl (fun _ _=>rfl)) (ai (ai rfl (fun _ _=>rfl)) (ai rfl (fun _ _=>rfl)))))))) (hcs) ?_
 refine cK (amS) ((c,s)) (by exact (ai (ai rfl (ai (ai rfl (fun _ _=>rfl)) (ai (ai rfl (fun _ _=>rfl)) (ai rfl (fun _ _=>rfl))))) (ai (ai rfl (fun _ _=>rfl)) (ai (ai rfl (fun _ _=>rfl)) (ai (ai rfl (fun _ _=>rfl)) (ai (ai rfl (fun _ _=>rfl)) (ai rfl (fun _ _=>rfl)))))))) (hcs) ?_
 refine dR (.seq [0,2,1,3,4,5,6,7,8]) ?_
 refine cK (ami) (c) (by exact (ai rfl (ai (ai rfl (fun _ _=>rfl)) (ai (ai rfl (fun _ _=>rfl)) (ai rfl (fun _ _=>rfl)))))) (hse) ?_
 refine cK (akV) ((c,s)) (by exact (ai (ai rfl (ai (ai rfl (fun _ _=>rfl)) (ai (ai rfl (fun _ _=>rfl)) (ai rfl (fun _ _=>rfl))))) (ai (ai rfl (fun _ _=>rfl)) (ai (ai rfl (fun _ _=>rfl)) (ai (ai rfl (fun _ _=>rfl)) (ai (ai rfl (fun _ _=>rfl)) (ai rfl (fun _ _=>rfl)))))))) (hcs) ?_
 refine cK (alc) ((c,s)) (by exact (ai (ai rfl (ai (ai rfl (fun _ _=>rfl)) (ai (ai rfl (fun _ _=>rfl)) (ai rfl (fun _ _=>rfl))))) (ai (ai rfl (fun _ _=>rfl)) (ai (ai rfl (fun _ _=>rfl)) (ai (ai rfl (fun _ _=>rfl)) (ai (ai rfl (fun _ _=>rfl)) (ai rfl (fun _ _=>rfl)))))))) (hcs) ?_
 refine cK (abT) (()) (by exact trivial) (trivial) ?_
 refine cK ((vk aj0 (if bR c s=0 then gV c s else [],if bR c s=0 then gV c s else []) (alz _ _ (aqG hcs)) (aoI _))) (()) (by exact (ai (ai rfl (fun _ _=>rfl)) (ai rfl (fun _ _=>rfl)))) (trivial) ?_
 refine bT (by exact beq_self_eq_true (bR c s)) ?_
 refine cK ((vk aj0 (if bR c s=0 then iW c s (gV c s) (jX c s) else [],if bR c s=0 then iW c s (gV c s) (jX c s) else []) (alz _ _ fun h=>amF hcs h _ _) (aoI _))) (()) (by exact (ai (ai rfl (fun _ _=>rfl)) (ai rfl (fun _ _=>rfl)))) (trivial) ?_
 refine eN (bP true) ?_
 rw[(beq_self_eq_true (bR c s)).symm]
 exact rfl
end Go.Sx.Pe
namespace Go.Sx.Pe
open Go Go.Proofs Go.Sx.Pn Go.ChangeShapes Go.WideShapes Go.ChangeAt Go.RowKit Go.Deep Go.Lib
theorem an9 {H:Type} {enc:TypeId×Value→H} {P:Program} {f:Func} {s:ChangeSpec} {S:List TypeId} (hS:Closed P S) {tb:TypeId} (hb:P.underlying tb=some .bool) (hres:f.resultTypes=#[tb])
  {W W':World} {args:Array Value} {ds:List (DataW H)} {before:List MemPlace} (hW:DataW.Whole enc P f.params.toList s.vars false W args.toList ds [] before) (hv:s.vars=[])
  (hA:DataW.TrodAll enc P W 0 (fun _=>true) true f.params.toList args.toList ds before) (hts:∀t∈f.params.toList,t∈S) (hfn:s.fn H (ds++[])={ results:=[.lit (.bool true)],args:=ds,vars:=[] }) (hg:Below W.heap.size W W') :
  s.post enc P f false true false false W args (.bool true) W':=by
 have hlt:=hW.lt
 have hold:∀p∈before,(fun b=>decide (b<W.heap.size)) p.block=true:=fun p hp=>by simpa using hlt p hp
 have hargs:∀sp:Nat→Bool,(∀p∈before,sp p.block=true)→DataW.TrodAll enc P W' 0 sp true f.params.toList args.toList ds before:=fun sp hsp=>adw hS hg.block hts hA hsp
 have hrt:(Value.bool true).resultList f.resultTypes.size=[.bool true]:=by rw[hres];rfl
 have hr:∀(b:Nat) (sp:Nat→Bool) (hd:Bool),DataW.TrodAll enc P W' b sp hd f.resultTypes.toList ((Value.bool true).resultList f.resultTypes.size) [.lit (.bool true)] []:=fun b sp hd=>by
  rw[hrt,hres];exact trodAll_cons_mk (shut_bool hb true) trodAll_mk0
 refine ⟨ds,[],before,[],before,[],hW,by rw[hfn];exact hr _ _ _,by rw[hfn];exact hargs _ hold,by rw[hfn,hv];rfl,World.keptBut_mono (fun p hp=>⟨hp,.inr (.inl hp)⟩) (hg.frame (·∈before)),fun h=>by cases h⟩
theorem axe {a b:Bool} (h:a=true) (k:b=true):(a&&b)=true:=by rw[h,k];rfl
theorem asU:ownKnob Tryz.prog.godebug=none:=by kernel_rfl
def ajT (vs:List Value):Obj→Obj
 | .cells _ t frozen=>.cells vs.toArray t frozen
 | o=>o
def u8s (l:List Nat):List Value:=l.map fun n:Nat=>Value.int .u8 (n:Int)
noncomputable def adx (os:Os):World:=
 { World.holding Tryz.prog os ⟨#[],#[],[]⟩ with heap:=((((((World.holding Tryz.prog os ⟨#[],#[],[]⟩).heap.modify 2 (ajT (u8s Lib.deBruijn32tab))).modify 3 (ajT (u8s Lib.deBruijn64tab))).modify 0 (ajT (Lib.pow10Tab.map fun z=>Value.int .u64 z))).modify 5 (ajT (u8s ([128,191,160,191,128,159,144,191,128,143]++List.replicate 22 0)))).modify 4 (ajT (u8s Go.Pinned.utf8FirstZ))) }
theorem alZ {E:Env} {v:Value} {d d':PV} (h:aL E v (.p false d)) (e:gB d d'):aL E v (.p false d'):=by
 cases h with | p _ _ _ hp=>exact .p _ _ _ (wZ e hp)
theorem nA {P:Program} {t:TypeId} {fs:Array Field} {n:Nat} {l:List PV} {ts:List TypeId} (hu:P.underlying t=some (.struct fs)) (hts:fs.toList.map (·.type)=ts) (h:Shape P n t l) :
  ∃(n':Nat) (ls:List (List PV)),n=n'+1∧l=ls.flatten∧ajH P n' ts ls:=by
 cases n with
 | zero=>exact h.elim
 | succ n=>
  unfold Shape at h;rw[hu] at h
  obtain ⟨ls,rfl,h1,h2⟩:=h
  refine ⟨n,ls,rfl,rfl,ahu ts ls (by rw[h1,←hts];simp) fun i t x ht hx=>?_⟩
  subst hts
  simp only[alW,afo,axJ] at ht
  obtain ⟨f,hf,rfl⟩:=ht
  exact h2 i f x hf hx
theorem adR {P:Program} {t e:TypeId} {n:Nat} {l:List PV} (hu:P.underlying t=some (.slice e)) (h:Shape P n t l):∃(n' m:Nat) (f:Nat→List PV),n=n'+1∧l=[.seq m f]∧∀j,j<m→Shape P n' e (f j):=by
 cases n with
 | zero=>exact h.elim
 | succ n=>unfold Shape at h;rw[hu] at h;obtain ⟨m,f,h1,h2,h3⟩:=h;exact ⟨n,m,f,rfl,h2,h3⟩
theorem aho {α:Type} (d:α) {g:α→List PV} {m:Nat} {f:Nat→List PV} (h:∀j,j<m→∃x,bS (f j) (g x)):∃L:List α,L.length=m∧∀j,j<m→bS (f j) (g (L.getD j d)):=by
 have h1:∀j,∃x:α,j<m→bS (f j) (g x):=fun j=>by
  by_cases hj:j<m
  ·obtain ⟨x,hx⟩:=h j hj;exact ⟨x,fun _=>hx⟩
  ·exact ⟨d,fun h=>absurd h hj⟩
 obtain ⟨c,hc⟩:=Classical.axiomOfChoice h1
 refine ⟨(List.range m).map c,by simp,fun j hj=>?_⟩
 have:((List.range m).map c).getD j d=c j:=by simp[aaG,hj]
 rw[this];exact hc j hj
theorem rV {α:Type} (d:α) {g:α→List PV} {P:Program} {t e:TypeId} {n:Nat} {l:List PV} (hu:P.underlying t=some (.slice e)) (he:∀k x,k<n→Shape P k e x→∃y,bS x (g y)) (h:Shape P n t l):∃L:List α,bS l [.seq L.length (fun j=>g (L.getD j d))]:=by
 obtain ⟨n',m,f,rfl,rfl,hf⟩:=adR hu h
 obtain ⟨L,rfl,hL⟩:=aho d fun j hj=>he n' (f j) (Nat.lt_succ_self _) (hf j hj)
 exact ⟨L,aqP (iT hL)⟩
theorem pz:∀{a b c d:List PV},bS a b→bS c d→bS (a++c) (b++d)
 | [],[],_,_,_,h=>h
 | x :: a,y :: b,c,d,h,k=>aH (h.2 0 x y rfl rfl) (pz ⟨by simpa using h.1,fun j s s' hs hs'=>h.2 (j+1) s s' hs hs'⟩ k)
 | [],_ :: _,_,_,h,_=>by have:=h.1;simp at this
 | _ :: _,[],_,_,h,_=>by have:=h.1;simp at this
theorem aht {a b c a' b' c':List PV} (h1:bS a a') (h2:bS b b') (h3:bS c c'):bS [a,b,c].flatten (a'++(b'++c')):=by
 have:[a,b,c].flatten=a++(b++c):=by simp
 rw[this];exact pz h1 (pz h2 h3)
theorem ahQ {a b a' b':List PV} (h1:bS a a') (h2:bS b b'):bS [a,b].flatten (a'++b'):=by
 have:[a,b].flatten=a++b:=by simp
 rw[this];exact pz h1 h2
theorem aoc {a b c d a' b' c' d':List PV} (h1:bS a a') (h2:bS b b') (h3:bS c c') (h4:bS d d'):bS [a,b,c,d].flatten (a'++(b'++(c'++d'))):=by
 have:[a,b,c,d].flatten=a++(b++(c++d)):=by simp
 rw[this];exact pz h1 (pz h2 (pz h3 h4))
theorem anP {a b c d e a' b' c' d' e':List PV} (h1:bS a a') (h2:bS b b') (h3:bS c c') (h4:bS d d') (h5:bS e e'):bS [a,b,c,d,e].flatten (a'++(b'++(c'++(d'++e')))):=by
 have:[a,b,c,d,e].flatten=a++(b++(c++(d++e))):=by simp
 rw[this];exact pz h1 (pz h2 (pz h3 (pz h4 h5)))
theorem abA {n:Nat} {l:List PV} (h:Shape Tryz.prog n 3 l):∃m:Int,bS l [iP m]:=by
 obtain ⟨m,_,rfl⟩:=aoB Tryz.underlying3 h
 exact ⟨m,bS.rfl' _⟩
theorem ama {n:Nat} {l:List PV} (h:Shape Tryz.prog n 4 l):∃b:Bool,bS l [bP b]:=by
 obtain ⟨m,rfl⟩:=anO Tryz.underlying4 h
 exact ⟨m,bS.rfl' _⟩
theorem auw {n:Nat} {l:List PV} (h:Shape Tryz.prog n 9 l):∃s:List UInt8,bS l [sP s]:=by
 obtain ⟨s,_,rfl⟩:=ajg Tryz.underlying9 h
 refine ⟨s.data.toList,bS.of ?_⟩
 have:strOf s.data.toList=s:=by cases s;simp[strOf]
 show _=[PV.val (.string (strOf s.data.toList))]
 rw[this]
theorem adY {n:Nat} {l:List PV} (h:Shape Tryz.prog n 30 l):∃L:List Int,bS l [fT L]:=rV 0 (g:=fun x=>[iP x]) Tryz.underlying30 (fun _ _ _ h=>abA h) h
theorem ae9 {n:Nat} {l:List PV} (h:Shape Tryz.prog n 55 l):∃L:List Bool,bS l [iR L]:=rV false (g:=fun x=>[bP x]) Tryz.underlying55 (fun _ _ _ h=>ama h) h
theorem asv {n:Nat} {l:List PV} (h:Shape Tryz.prog n 22 l):∃L:List (List UInt8),bS l [xV L]:=rV [] (g:=fun x=>[sP x]) Tryz.underlying22 (fun _ _ _ h=>auw h) h
theorem awv {n:Nat} {l:List PV} (h:Shape Tryz.prog n 77 l):∃x:Sk,bS l (skK x):=by
 obtain ⟨n',ls,rfl,rfl,h2⟩:=nA (ts:=[3,4]) Tryz.underlying77 (by decide) h
 match ls,h2 with
 | [a,b],⟨ha,hb,_⟩=>
  obtain ⟨x,hx⟩:=abA ha
  obtain ⟨y,hy⟩:=ama hb
  exact ⟨(x,y),ahQ hx hy⟩
theorem avI {n:Nat} {l:List PV} (h:Shape Tryz.prog n 70 l):∃L:List Sk,bS l [adq L]:=rV bY (g:=skK) Tryz.underlying70 (fun _ _ _ h=>awv h) h
theorem auG {n:Nat} {l:List PV} (h:Shape Tryz.prog n 97 l):∃x:Stp,bS l (stK x):=by
 obtain ⟨n',ls,rfl,rfl,h2⟩:=nA (ts:=[70,3]) Tryz.underlying97 (by decide) h
 match ls,h2 with
 | [a,b],⟨ha,hb,_⟩=>
  obtain ⟨x,hx⟩:=avI ha
  obtain ⟨y,hy⟩:=abA hb
  exact ⟨⟨x,y⟩,ahQ hx hy⟩
theorem atj {n:Nat} {l:List PV} (h:Shape Tryz.prog n 23 l):∃L:List Stp,bS l [abb L]:=rV st0 (g:=stK) Tryz.underlying23 (fun _ _ _ h=>auG h) h
theorem aiw {d:PV} {n:Nat} {f g:Nat→List PV} (h:gB d (.seq n f)) (e:∀k,k<n→f k=g k):gB d (.seq n g):=by
 cases h with
 | refl=>exact iT fun k hk=>bS.of (e k hk)
 | nil=>exact .nil _
 | seq _ f0 _ hl he=>exact .seq n f0 g (fun j hj=>by rw[←e j hj];exact hl j hj) fun j k s s' hj hs hs'=>he j k s s' hj hs (by rw[e j hj];exact hs')
theorem aqh {L:List Ex} {j:Nat} {x:List PV} (h:bS x (kN (L.getD j bK))):bS x (jI L j):=by
 match x,h with
 | [p,q,r],⟨hl,h⟩=>
  refine aH (h 0 _ _ rfl rfl) (aH (h 1 _ _ rfl rfl) (aqP ?_))
  exact aiw (h 2 _ _ rfl rfl) fun k hk=>auF _ k hk
 | [],⟨hl,_⟩=>simp[kN] at hl
 | [_],⟨hl,_⟩=>simp[kN] at hl
 | [_,_],⟨hl,_⟩=>simp[kN] at hl
 | _ :: _ :: _ :: _ :: _,⟨hl,_⟩=>simp[kN] at hl
theorem avR:∀(n:Nat) (l:List PV),Shape Tryz.prog n 90 l→∃x:Ex,bS l (kN x):=by
 intro n
 induction n using Nat.strongRecOn with
 | _ n ih=>
  intro l h
  obtain ⟨n',ls,rfl,rfl,h2⟩:=nA (ts:=[3,3,88]) Tryz.underlying90 (by decide) h
  match ls,h2 with
  | [a,b,c],⟨ha,hb,hc,_⟩=>
   obtain ⟨x,hx⟩:=abA ha
   obtain ⟨y,hy⟩:=abA hb
   obtain ⟨n2,m,f,rfl,rfl,hf⟩:=adR Tryz.underlying88 hc
   obtain ⟨L,rfl,hL⟩:=aho bK fun j hj=>ih n2 (by omega) (f j) (hf j hj)
   refine ⟨.node x y L,aht hx hy (aqP (iT fun j hj=>?_))⟩
   exact aqh (hL j hj)
theorem avi {n:Nat} {l:List PV} (h:Shape Tryz.prog n 100 l):∃x:sF,bS l (trK x):=by
 obtain ⟨n',ls,rfl,rfl,h2⟩:=nA (ts:=[30,30,90]) Tryz.underlying100 (by decide) h
 match ls,h2 with
 | [a,b,c],⟨ha,hb,hc,_⟩=>
  obtain ⟨x,hx⟩:=adY ha
  obtain ⟨y,hy⟩:=adY hb
  obtain ⟨z,hz⟩:=avR _ _ hc
  exact ⟨⟨x,y,z⟩,aht hx hy hz⟩
theorem asz {n:Nat} {l:List PV} (h:Shape Tryz.prog n 24 l):∃L:List sF,bS l [adz L]:=rV bf (g:=trK) Tryz.underlying24 (fun _ _ _ h=>avi h) h
def afC:List TypeId:=[57,3,4,9,30,55,22,77,70,111,49,51,97,23,90,88,100,24,26]
theorem xJ:Closed Tryz.prog afC:=by
 intro t ht
 simp only[afC,ajI,List.mem_nil_iff,or_false] at ht
 rcases ht with rfl | rfl | rfl | rfl | rfl | rfl | rfl | rfl | rfl | rfl | rfl | rfl | rfl | rfl | rfl | rfl | rfl | rfl | rfl<;>kernel_rfl
section
variable {w : World} {r : Reach} {b : Nat} {v : Value} {n : Nat} {l : List PV}
theorem apE (hv:Value.okWide Tryz.prog w r b 26 v) (hs:Shape Tryz.prog n 26 l) (hr:Rel (iY w) v.cells.toList l):∃c:aB,aL (E0 w) v (iG c):=by
 obtain ⟨cs,hc⟩:=ahI Tryz.underlying26 hv
 have hS:=anZ hc hr
 obtain ⟨n',ls,rfl,rfl,h2⟩:=nA (ts:=[3,22,23,24]) Tryz.underlying26 (by decide) hs
 match ls,h2 with
 | [a,b,c,d],⟨ha,hb,hc,hd,_⟩=>
  obtain ⟨x,hx⟩:=abA ha
  obtain ⟨y,hy⟩:=asv hb
  obtain ⟨z,hz⟩:=atj hc
  obtain ⟨u,hu⟩:=asz hd
  exact ⟨⟨x,y,z,u⟩,alZ hS (mI (aoc hx hy hz hu))⟩
theorem atu (hv:Value.okWide Tryz.prog w r b 57 v) (hs:Shape Tryz.prog n 57 l) (hr:Rel (iY w) v.cells.toList l):∃s:dw,aL (E0 w) v (kE s):=by
 obtain ⟨cs,hc⟩:=ahI Tryz.underlying57 hv
 have hS:=anZ hc hr
 obtain ⟨n',ls,rfl,rfl,h2⟩:=nA (ts:=[30,55,55,55,30]) Tryz.underlying57 (by decide) hs
 match ls,h2 with
 | [a,b,c,d,e],⟨ha,hb,hc,hd,he,_⟩=>
  obtain ⟨x,hx⟩:=adY ha
  obtain ⟨y,hy⟩:=ae9 hb
  obtain ⟨z,hz⟩:=ae9 hc
  obtain ⟨u,hu⟩:=ae9 hd
  obtain ⟨t,ht⟩:=adY he
  exact ⟨⟨x,y,z,u,t⟩,alZ hS (mI (anP hx hy hz hu ht))⟩
end
end Go.Sx.Pe
namespace Go.Proofs.YtagbjlbohahcaaaGreatDoor.compileReads
open Go.ChangeShapes Go.WideShapes Go.ChangeAt Go.RowKit Go.Joins Go.Deep Go.Sx Go.Sx.Pn Go.Sx.Pe
set_option maxRecDepth 100000 in
theorem contract (H:Type) (enc:TypeId×Value→H) (W:World) (base:Nat) (args:Array Value) (ds gs:List (DataW H)) (before:List MemPlace)
  (hval:∀(j:Nat) t v,Tryz.f7.params[j]?=some t→args[j]?=some v→Value.okWide Tryz.prog W .any base t v)
  (hW:DataW.Whole enc Tryz.prog Tryz.f7.params.toList Rows.compileReadsSpec.vars false W args.toList ds gs before) (hL:laidMetH Tryz.prog Rows.compileReadsRow.laid W) :
  Calls Tryz.prog 7 args W fun e W'=>∃v,e=.returned v∧Rows.compileReadsSpec.post enc Tryz.prog Tryz.f7 false true false false W args v W':=by
 have hW':=hW
 obtain ⟨p,q,hA0,hV,rfl,hfz,hnd⟩:=hW
 obtain ⟨rfl,rfl⟩:=trodVars_none hV
 have hA:DataW.TrodAll enc Tryz.prog W 0 (fun _=>true) true Tryz.f7.params.toList args.toList ds p:=hA0
 have hA1:=hA
 rw[Tryz.params7] at hA hval
 clear hA0
 obtain ⟨v0,vs0,d0,ds0,p0,q0,hargs0,rfl,rfl,⟨fu0,h0⟩,r0⟩:=trodAll_cons hA
 obtain ⟨v1,vs1,d1,ds1,p1,q1,hargs1,rfl,rfl,⟨fu1,h1⟩,r1⟩:=trodAll_cons r0
 obtain ⟨rfl,rfl,rfl⟩:=trodAll_nil r1
 obtain rfl:args=#[v0,v1]:=by cases args;simp_all
 obtain ⟨l0,s0,e0⟩:=aeX xJ fu0 26 _ _ (by decide) h0
 obtain ⟨a0,S0⟩:=apE (hval 0 _ v0 rfl rfl) s0 e0
 obtain ⟨l1,s1,e1⟩:=aeX xJ fu1 57 _ _ (by decide) h1
 obtain ⟨a1,S1⟩:=atu (hval 1 _ v1 rfl rfl) s1 e1
 simp only[arR] at hW' hA1
 refine (apu apJ (a0,a1) trivial W _ (am3 (vs:=[v0,v1]) (ai S0 (ai S1 trivial)))).mono fun e W' ⟨he,hg⟩=>?_
 subst he
 exact ⟨_,rfl,an9 xJ Tryz.underlying4 (by kernel_rfl) hW' rfl hA1 (by rw[Tryz.params7];decide) rfl hg⟩
theorem laid_met (os:Os):laidMet Tryz.prog Rows.compileReadsRow.laid ((adx os).forCall (fun _ _=>0) ⟨#[],#[.agg #[.int .i64 0,.slice none 0 0,.slice none 0 0,.slice none 0 0],.agg #[.slice none 0 0,.slice none 0 0,.slice none 0 0,.slice none 0 0,.slice none 0 0]],[]⟩).memory:=
 laidMet_of_run' 8 (by kernel_rfl) (by kernel_rfl)
theorem reads (os:Os) {H:Type} (enc:TypeId×Value→H):∃places,DataW.whole enc Tryz.prog ((adx os).forCall (fun _ _=>0) ⟨#[],#[.agg #[.int .i64 0,.slice none 0 0,.slice none 0 0,.slice none 0 0],.agg #[.slice none 0 0,.slice none 0 0,.slice none 0 0,.slice none 0 0,.slice none 0 0]],[]⟩).memory Tryz.f7.params.toList Rows.compileReadsSpec.vars false (Array.toList (α:=Value) #[.agg #[.int .i64 0,.slice none 0 0,.slice none 0 0,.slice none 0 0],.agg #[.slice none 0 0,.slice none 0 0,.slice none 0 0,.slice none 0 0,.slice none 0 0]]) 8=some ([.agg [.lit (.int .i64 0),.nil,.nil,.nil],.agg [.nil,.nil,.nil,.nil,.nil]],[],places):=
 ⟨[],by kernel_rfl⟩
set_option maxRecDepth 100000 in
theorem lifted (os:Os) (started:os.Started) (H:Type) (enc:TypeId×Value→H) (F:Stop.Interp) :
  ReturnsInHanded {} Tryz.checked os 7 .any ((OpenSpec.ofChange Rows.compileReadsSpec).preRow enc Tryz.prog Tryz.f7 Rows.compileReadsRow.domain false Rows.compileReadsRow.laid) (((OpenSpec.ofChange Rows.compileReadsSpec).at F).post enc Tryz.prog Tryz.f7 false true false false):=by
 obtain ⟨places,hx⟩:=reads os enc
 refine returnsInHanded_of_row (C:=Tryz.checked) (s:=OpenSpec.ofChange Rows.compileReadsSpec) asU started (by kernel_rfl) Tryz.func7
  (witness_row_at (enc:=enc) (C:=Tryz.checked) false (adx os) #[.agg #[.int .i64 0,.slice none 0 0,.slice none 0 0,.slice none 0 0],.agg #[.slice none 0 0,.slice none 0 0,.slice none 0 0,.slice none 0 0,.slice none 0 0]] rfl (by kernel_rfl) (by kernel_rfl) (by kernel_rfl)
   (OpenSpec.preRow_of_cond 8 hx (by kernel_rfl) (fun k hk=>by cases hk) (by kernel_rfl) (laid_met os))) ?_
 intro W base args ds gs before hval hW _ _ _ hL _ _
 exact contract H enc W base args ds gs before hval hW hL
set_option maxHeartbeats 20000000 in
theorem facts:joinedFacts Tryz.pinned.checked.prog 7 Tryz.f7 (OpenSpec.ofChange Rows.compileReadsSpec).bare Rows.compileReadsRow=true:=by
 iterate 23 refine axe ?_ ?_
 all_goals as_aux_lemma=>kernel_rfl
theorem named:Tryz.pinned.checked.prog.funcNamed Rows.compileReadsRow.func=some 7:=by kernel_rfl
theorem inst:Tryz.f7.isInstance Tryz.pinned.checked.prog Rows.compileReadsRow.origin Rows.compileReadsRow.targs:=of_decide_eq_true (by kernel_rfl)
theorem wrap:Tryz.f7.isWrapper Tryz.pinned.checked.prog Rows.compileReadsRow.wrapper Rows.compileReadsRow.mainSum:=by unfold Func.isWrapper;first | (rw[if_pos (by decide +kernel)];kernel_rfl) | (rw[if_neg (by decide +kernel)];exact ⟨rfl,rfl⟩)
theorem said:Rows.CompileReadsSaid:=
 OpenClaim.holds_of_cond 7 Tryz.f7 rfl rfl rfl rfl rfl rfl rfl ⟨rfl,rfl,rfl,rfl,rfl⟩ rfl rfl rfl rfl rfl named Tryz.func7 facts inst wrap
  (fun os started H enc _ F=>by rw[OpenClaim.pre_eq_preRow];exact lifted os started H enc F)
theorem plain (f:FuncId) (fn:Func) (hf:Tryz.pinned.checked.prog.funcNamed "pneumatic/pneumaticlaw36.CompileReads"=some f) (hfn:Tryz.pinned.checked.prog.funcs[f]?=some fn) :
  false=Tryz.pinned.checked.prog.looks []∧∀(j:Nat) t,fn.params[j]?=some t→Tryz.pinned.checked.prog.wantsStandIn t=false:=by
 obtain rfl:f=7:=Option.some.inj ((show Tryz.prog.funcNamed "pneumatic/pneumaticlaw36.CompileReads"=some 7 by kernel_rfl).symm.trans hf) |>.symm
 obtain rfl:fn=Tryz.f7:=(Option.some.inj (Tryz.func7.symm.trans hfn)).symm
 refine ⟨by kernel_rfl,fun j t ht=>?_⟩
 rw[Tryz.params7] at ht
 have hm:∀t∈#[26,57],Tryz.prog.wantsStandIn t=false:=by decide +kernel
 exact hm t (Array.mem_of_getElem? ht)
theorem card:Rows.CompileReadsCardSaid:=
 Claim7.holds_tied_plain_at .later [] _ _ _ _ said (fun _ h=>by cases h) (by kernel_rfl) (fun _ h=>by cases h) compileReads_row_tie rfl ⟨rfl,rfl⟩ (by kernel_rfl) rfl plain (by kernel_rfl)
end Go.Proofs.YtagbjlbohahcaaaGreatDoor.compileReads
