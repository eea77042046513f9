/- The card of ChartLeads: for every input the law answers true, and its arguments read as they did. -/
import Derived.Test.YteenedbiifampaaGreatDoorL5
set_option maxHeartbeats 1000000
set_option maxRecDepth 4000
set_option linter.unusedSimpArgs false
set_option linter.unusedVariables false
set_option linter.unusedSectionVars false
namespace Go.Sx.Pe
open Go Go.Proofs Go.Sx.Pn
theorem aiI:aK Tryz.prog 13 (jq (fun c:aQ=>[kP c]) jr tJ):=by
 refine iY [63] ?_
 refine aX (Tb:=tab) mixed aB Tryz.func13 rfl rfl ?_
 rintro (c:aQ) hpre
 refine ai (ai rfl (ai rfl rfl)) ?_
 have ho:jr c:=hpre
 refine ei _ (ai (uQ) (ei (c) (ei [] (ai (a4 (ai (fun _=>Or.inl rfl) (ai nof (Or.inl rfl)))) (ai (by exact (ai rfl (ai (ai rfl (fun _ _=>rfl)) (ai (ai rfl (fun _ _=>rfl)) (ai rfl (fun _ _=>rfl)))))) (ai trivial (ai (ho) ?_)))))))
 refine bD (p:=kS c=0) (bU (by omega)) (fun h1=>?_) (fun h1=>?_)
 ·refine ai (ai (fun h=>absurd (show false=true from h) (by decide)) ?_) trivial
  show ak _ (tJ c)
  rw[tJ,if_neg h1]
  exact (ai rfl (ai rfl rfl))
 have hA:tJ c=.tup [bP (!(jL c).2),l6 (jL c).1,iP 0]:=by unfold tJ;rw[if_pos h1]
 obtain ⟨hc,hx⟩:=qI h1
 obtain ⟨hg,hl,hw⟩:=qd h1
 have h32:=(iG hc).2.2.2.1
 have hS:jL c=oN c (iT c) ([],false):=rfl
 generalize iT c=L at *
 refine ei (bF.inv { X:=Nat×sK,up:=fun x=>[(27,.s (iA x.1)),(8,isR x.2.1),(9,.s (.p false (bP x.2.2)))],uo:=fun _=>[],inv:=fun x=>x.1≤L.length∧jL c=oN c (L.drop x.1) x.2,meas:=fun x=>L.length-x.1,x0:=(0,([],false)) }) ?_
 refine ai (ai (ai (by exact (a4 (ai rfl rfl))) (ai ?_ ?_)) ?_) (ai ?_ ?_)
 ·exact (ai (ai (ai (fun _=>rfl) (iE (by simp only[zz,reduceCtorEq];rfl))) rfl) (ai rfl (ai (ai (fun _=>rfl) rfl) rfl)))
 ·exact trivial
 ·rfl
 ·exact ⟨aeu _,hS⟩
 rintro ⟨a,s⟩ ⟨hal,hs⟩
 have hal:a≤L.length:=hal
 have hs:jL c=oN c (L.drop a) s:=hs
 refine ah (p:=a<L.length) (au (by omega)) (fun h2=>?_) (fun h2=>?_)
 ·refine ai (ai (aa1 _) (iN (n:=L.length) (by omega))) (ai rfl ?_)
  refine ei (fQ (L.getD a ay).1) (ai (acG _) ?_)
  have hy:=acI (bI ay h2)
  have hd:L.drop a=L.getD a ay :: L.drop (a+1):=by
   rw[aps h2,aaI,aaQ h2];rfl
  have hga:=hg _ hy
  have hwa:=hw _ hy
  rw[hd] at hs
  refine aZ (b:=s.2) rfl (fun h3=>?_) (fun h3=>?_)
  ·refine ai (ai (aa1 _) (iN (n:=L.length) (by omega))) (ai rfl ?_)
   refine ah (p:=s.1.length<(L.getD a ay).2.length+1) (by exact au (show (s.1.length:Int)<IntKind.i64.wrap (((L.getD a ay).2.length:Int)+1)↔_ by rw[show IntKind.i64.wrap (((L.getD a ay).2.length:Int)+1)=((L.getD a ay).2.length:Int)+1 from aO (by omega)];omega)) (fun h4=>?_) (fun h4=>?_)
   ·have e:jL c=s:=by rw[hs,oN,if_pos (by rw[h3,decide_eq_true h4];rfl)]
    refine ai (ai (fun h=>absurd (show false=true from h) (by decide)) ?_) trivial
    show ak _ (tJ c)
    rw[hA,e]
    exact (ai rfl (ai (ai rfl (fun _ _=>rfl)) rfl))
   ·have hs2:jL c=oN c (L.drop (a+1)) (cO c (L.getD a ay) s c.trs.length):=by rw[hs,oN,if_neg (by rw[decide_eq_false h4];simp)]
    refine ei (bF.inv { X:=Nat,up:=fun k=>[(47,.s (iA k)),(8,isR (cO c (L.getD a ay) s k).1),(9,.s (.p false (bP (cO c (L.getD a ay) s k).2)))],uo:=fun k=>[],inv:=fun k=>k≤c.trs.length∧(True),meas:=fun k=>c.trs.length-k,x0:=0 }) ?_
    refine ai (ai (ai (by exact (a4 (ai rfl rfl))) (ai ?_ ?_)) rfl) (ai (ai (aeu _) ?_) ?_)
    ·exact (ai (ai (ai (fun _=>rfl) (iE (by simp only[zz,reduceCtorEq];rfl))) rfl) (ai (ai rfl (ai rfl (ai rfl (fun _ _=>rfl)))) (ai (ai nof rfl) rfl)))
    ·exact trivial
    ·trivial
    intro (k:Nat) ⟨hk,_⟩
    have hst:cO c (L.getD a ay) s (k+1)=ig c (L.getD a ay) (cO c (L.getD a ay) s k) k:=rfl
    refine ah (p:=k<c.trs.length) (au (by omega)) (fun h5=>?_) (fun h5=>?_)
    ·refine ei _ (ai ((jo vD (c,(L.getD a ay).1,k) ⟨hc,ho,hga.1,h5⟩ (r:=.tup [tZ (bf c (L.getD a ay).1 k).1,bP (bW c k (L.getD a ay).1)]) (by show uX c (L.getD a ay).1 k=_;unfold uX;rw[al3]))) (ei (()) (ei [] (ai (a4 (ai (fun _=>Or.inl rfl) (ai nof (Or.inl rfl)))) (ai (by exact (ai (ai rfl (ai (ai rfl (fun _ _=>rfl)) (ai (ai rfl (fun _ _=>rfl)) (ai rfl (fun _ _=>rfl))))) (ai (ai rfl (fun _ _=>rfl)) rfl))) (ai trivial (ai (trivial) ?_)))))))
     refine aZ (b:=!bW c k (L.getD a ay).1) rfl (fun h6=>?_) (fun h6=>?_)
     ·have h6:allM (L.getD a ay).1 (gP c k).fr=false:=by simpa [bW] using h6
      have e:cO c (L.getD a ay) s (k+1)=cO c (L.getD a ay) s k:=by rw[hst];unfold ig;rw[if_neg (by unfold pq;rw[h6];simp)]
      refine ei (k+1) (ai (ai rfl rfl) (ai (ai (ai rfl (ai (ai rfl rfl) (ai (ai rfl rfl) (ai (ai (ai (ai (fun _=>rfl) (aO (by omega))) rfl) (ai (ai rfl (ai rfl (ai ?_ ?_))) (ai (ai nof ?_) rfl))) trivial)))) rfl) (ai (ai (iL (by omega)) trivial) (iM (by omega)))))
      all_goals rw[e]
      ·exact fun _ _=>rfl
      ·exact rfl
     have h6:allM (L.getD a ay).1 (gP c k).fr=true:=by simpa [bW] using h6
     refine ei _ (ai (ad5) (ei ((c,(L.getD a ay).1,k)) (ei [] (ai (a4 (ai (fun _=>Or.inl rfl) (ai nof (Or.inl rfl)))) (ai (by exact (ai (ai rfl (ai (ai rfl (fun _ _=>rfl)) (ai (ai rfl (fun _ _=>rfl)) (ai rfl (fun _ _=>rfl))))) (ai (ai rfl (fun _ _=>rfl)) rfl))) (ai trivial (ai (⟨hc,ho,h5⟩) ?_)))))))
     refine aZ (b:=!xX c (L.getD a ay).1 k) rfl (fun h7=>?_) (fun h7=>?_)
     ·have h7:xX c (L.getD a ay).1 k=false:=by simpa using h7
      have e:cO c (L.getD a ay) s (k+1)=cO c (L.getD a ay) s k:=by rw[hst];unfold ig;rw[if_neg (by unfold pq;rw[h7];simp)]
      refine ei (k+1) (ai (ai rfl rfl) (ai (ai (ai rfl (ai (ai rfl rfl) (ai (ai rfl rfl) (ai (ai (ai (ai (fun _=>rfl) (aO (by omega))) rfl) (ai (ai rfl (ai rfl (ai ?_ ?_))) (ai (ai nof ?_) rfl))) trivial)))) rfl) (ai (ai (iL (by omega)) trivial) (iM (by omega)))))
      all_goals rw[e]
      ·exact fun _ _=>rfl
      ·exact rfl
     have h7:xX c (L.getD a ay).1 k=true:=by simpa using h7
     have hbad:pq c (L.getD a ay) k=true:=by unfold pq;rw[h6,h7];rfl
     refine ai (ai (aa1 _) (iN (n:=L.length) (by omega))) (ai rfl ?_)
     have hcl:((L.getD a ay).2++[(k:Int)]).length≤1000000:=by rw[aaG];show (L.getD a ay).2.length+1≤_;omega
     refine eY mixed aB Tryz.func63 rfl rfl ?_
     refine ai rfl ?_
     intro b hb
     refine aY (fun hb0=>?_) (fun hb0=>?_)
     ·have hb1:(L.getD a ay).2.length=0:=hb hb0
      have hb2:=apC.1 hb1
      refine ai (ai (by decide) (by decide)) (ai (aI 1 rfl) ?_)
      refine aZ (b:=!(cO c (L.getD a ay) s k).2) rfl (fun h8=>?_) (fun h8=>?_)
      ·have e:cO c (L.getD a ay) s (k+1)=((L.getD a ay).2++[(k:Int)],true):=by rw[hst];unfold ig;rw[if_pos hbad,if_pos (by rw[h8];rfl)]
       refine ei (k+1) (ai (ai rfl rfl) (ai (ai (ai rfl (ai (ai rfl rfl) (ai (ai rfl rfl) (ai (ai (ai (ai (fun _=>rfl) (aO (by omega))) rfl) (ai (ai rfl (ai rfl (ai ?_ ?_))) (ai (ai (fun _=>rfl) ?_) rfl))) trivial)))) rfl) (ai (ai (iL (by omega)) trivial) (iM (by omega)))))
       all_goals rw[e]
       ·(rw[hb2];first | done | rfl)
       ·(rw[hb2];intro j hj;have hj:j<1:=hj;obtain rfl:j=0:=(by omega);rfl)
       ·exact rfl
      refine ei _ (ai (aak) (ei (((L.getD a ay).2++[(k:Int)],(cO c (L.getD a ay) s k).1)) (ei [] (ai (ai rfl (ai rfl (ai rfl (ai rfl (ai (fun _=>Or.inl rfl) (ai (fun _=>ai rfl rfl) (Or.inl rfl))))))) (ai ?_ (ai (by exact trivial) (ai (hcl) ?_)))))))
      ·refine (ai (ai ?_ ?_) (ai rfl (fun _ _=>rfl)))
       ·(rw[hb2];first | done | rfl)
       ·(rw[hb2];intro j hj;have hj:j<1:=hj;obtain rfl:j=0:=(by omega);rfl)
      refine ah (p:=cmpL ((L.getD a ay).2++[(k:Int)]) (cO c (L.getD a ay) s k).1<0) (au Iff.rfl) (fun h9=>?_) (fun h9=>?_)
      ·have e:cO c (L.getD a ay) s (k+1)=((L.getD a ay).2++[(k:Int)],true):=by rw[hst];unfold ig;rw[if_pos hbad,if_pos (by rw[decide_eq_true h9];simp)]
       refine ei (k+1) (ai (ai rfl rfl) (ai (ai (ai rfl (ai (ai rfl rfl) (ai (ai rfl rfl) (ai (ai (ai (ai (fun _=>rfl) (aO (by omega))) rfl) (ai (ai rfl (ai rfl (ai ?_ ?_))) (ai (ai (fun _=>rfl) ?_) rfl))) trivial)))) rfl) (ai (ai (iL (by omega)) trivial) (iM (by omega)))))
       all_goals rw[e]
       ·(rw[hb2];first | done | rfl)
       ·(rw[hb2];intro j hj;have hj:j<1:=hj;obtain rfl:j=0:=(by omega);rfl)
       ·exact rfl
      ·have e:cO c (L.getD a ay) s (k+1)=cO c (L.getD a ay) s k:=by rw[hst];unfold ig;rw[if_pos hbad,if_neg (by rw[h8,decide_eq_false h9];simp)]
       refine ei (k+1) (ai (ai rfl rfl) (ai (ai (ai rfl (ai (ai rfl rfl) (ai (ai rfl rfl) (ai (ai (ai (ai (fun _=>rfl) (aO (by omega))) rfl) (ai (ai rfl (ai rfl (ai ?_ ?_))) (ai (ai nof ?_) rfl))) trivial)))) rfl) (ai (ai (iL (by omega)) trivial) (iM (by omega)))))
       all_goals rw[e]
       ·exact fun _ _=>rfl
       ·exact rfl
     ·refine ai (mxL (n:=0+(L.getD a ay).2.length) (by omega) (by decide)) (ai (fun _ _=>rfl) ?_)
      refine ai (mxL (n:=0+(L.getD a ay).2.length+1) (by omega) (by decide)) (ai (aI 1 rfl) ?_)
      refine aZ (b:=!(cO c (L.getD a ay) s k).2) rfl (fun h8=>?_) (fun h8=>?_)
      ·have e:cO c (L.getD a ay) s (k+1)=((L.getD a ay).2++[(k:Int)],true):=by rw[hst];unfold ig;rw[if_pos hbad,if_pos (by rw[h8];rfl)]
       refine ei (k+1) (ai (ai rfl rfl) (ai (ai (ai rfl (ai (ai rfl rfl) (ai (ai rfl rfl) (ai (ai (ai (ai (fun _=>rfl) (aO (by omega))) rfl) (ai (ai rfl (ai rfl (ai ?_ ?_))) (ai (ai (fun _=>rfl) ?_) rfl))) trivial)))) rfl) (ai (ai (iL (by omega)) trivial) (iM (by omega)))))
       all_goals rw[e]
       ·(rw[aaG];exact congrArg (·+1) (aip _))
       ·exact aaf _ _
       ·exact rfl
      refine ei _ (ai (aak) (ei (((L.getD a ay).2++[(k:Int)],(cO c (L.getD a ay) s k).1)) (ei [] (ai (ai rfl (ai rfl (ai rfl (ai rfl (ai (fun _=>Or.inl rfl) (ai (fun _=>ai rfl rfl) (Or.inl rfl))))))) (ai ?_ (ai (by exact trivial) (ai (hcl) ?_)))))))
      ·refine (ai (ai ?_ ?_) (ai rfl (fun _ _=>rfl)))
       ·(rw[aaG];exact congrArg (·+1) (aip _))
       ·exact aaf _ _
      refine ah (p:=cmpL ((L.getD a ay).2++[(k:Int)]) (cO c (L.getD a ay) s k).1<0) (au Iff.rfl) (fun h9=>?_) (fun h9=>?_)
      ·have e:cO c (L.getD a ay) s (k+1)=((L.getD a ay).2++[(k:Int)],true):=by rw[hst];unfold ig;rw[if_pos hbad,if_pos (by rw[decide_eq_true h9];simp)]
       refine ei (k+1) (ai (ai rfl rfl) (ai (ai (ai rfl (ai (ai rfl rfl) (ai (ai rfl rfl) (ai (ai (ai (ai (fun _=>rfl) (aO (by omega))) rfl) (ai (ai rfl (ai rfl (ai ?_ ?_))) (ai (ai (fun _=>rfl) ?_) rfl))) trivial)))) rfl) (ai (ai (iL (by omega)) trivial) (iM (by omega)))))
       all_goals rw[e]
       ·(rw[aaG];exact congrArg (·+1) (aip _))
       ·exact aaf _ _
       ·exact rfl
      ·have e:cO c (L.getD a ay) s (k+1)=cO c (L.getD a ay) s k:=by rw[hst];unfold ig;rw[if_pos hbad,if_neg (by rw[h8,decide_eq_false h9];simp)]
       refine ei (k+1) (ai (ai rfl rfl) (ai (ai (ai rfl (ai (ai rfl rfl) (ai (ai rfl rfl) (ai (ai (ai (ai (fun _=>rfl) (aO (by omega))) rfl) (ai (ai rfl (ai rfl (ai ?_ ?_))) (ai (ai nof ?_) rfl))) trivial)))) rfl) (ai (ai (iL (by omega)) trivial) (iM (by omega)))))
       all_goals rw[e]
       ·exact fun _ _=>rfl
       ·exact rfl
    ·obtain rfl:k=c.trs.length:=by omega
     refine ei ((a+1,cO c (L.getD a ay) s c.trs.length)) (ai (ai rfl rfl) (ai (ai ?_ rfl) (ai ?_ ?_)))
     ·exact (ai rfl (ai (ai rfl rfl) (ai (ai rfl rfl) (ai (ai (ai (ai (fun _=>rfl) (aO (by omega))) rfl) (ai (ai rfl (ai rfl (ai rfl (fun _ _=>rfl)))) (ai (ai nof rfl) rfl))) trivial))))
     ·exact ⟨h2,hs2⟩
     ·show L.length-(a+1)<L.length-a;omega
  ·have hs2:jL c=oN c (L.drop (a+1)) (cO c (L.getD a ay) s c.trs.length):=by rw[hs,oN,if_neg (by rw[h3];simp)]
   refine ei (bF.inv { X:=Nat,up:=fun k=>[(47,.s (iA k)),(8,isR (cO c (L.getD a ay) s k).1),(9,.s (.p false (bP (cO c (L.getD a ay) s k).2)))],uo:=fun k=>[],inv:=fun k=>k≤c.trs.length∧(True),meas:=fun k=>c.trs.length-k,x0:=0 }) ?_
   refine ai (ai (ai (by exact (a4 (ai rfl rfl))) (ai ?_ ?_)) rfl) (ai (ai (aeu _) ?_) ?_)
   ·exact (ai (ai (ai (fun _=>rfl) (iE (by simp only[zz,reduceCtorEq];rfl))) rfl) (ai (ai rfl (ai rfl (ai rfl (fun _ _=>rfl)))) (ai (ai nof rfl) rfl)))
   ·exact trivial
   ·trivial
   intro (k:Nat) ⟨hk,_⟩
   have hst:cO c (L.getD a ay) s (k+1)=ig c (L.getD a ay) (cO c (L.getD a ay) s k) k:=rfl
   refine ah (p:=k<c.trs.length) (au (by omega)) (fun h5=>?_) (fun h5=>?_)
   ·refine ei _ (ai ((jo vD (c,(L.getD a ay).1,k) ⟨hc,ho,hga.1,h5⟩ (r:=.tup [tZ (bf c (L.getD a ay).1 k).1,bP (bW c k (L.getD a ay).1)]) (by show uX c (L.getD a ay).1 k=_;unfold uX;rw[al3]))) (ei (()) (ei [] (ai (a4 (ai (fun _=>Or.inl rfl) (ai nof (Or.inl rfl)))) (ai (by exact (ai (ai rfl (ai (ai rfl (fun _ _=>rfl)) (ai (ai rfl (fun _ _=>rfl)) (ai rfl (fun _ _=>rfl))))) (ai (ai rfl (fun _ _=>rfl)) rfl))) (ai trivial (ai (trivial) ?_)))))))
    refine aZ (b:=!bW c k (L.getD a ay).1) rfl (fun h6=>?_) (fun h6=>?_)
    ·have h6:allM (L.getD a ay).1 (gP c k).fr=false:=by simpa [bW] using h6
     have e:cO c (L.getD a ay) s (k+1)=cO c (L.getD a ay) s k:=by rw[hst];unfold ig;rw[if_neg (by unfold pq;rw[h6];simp)]
     refine ei (k+1) (ai (ai rfl rfl) (ai (ai (ai rfl (ai (ai rfl rfl) (ai (ai rfl rfl) (ai (ai (ai (ai (fun _=>rfl) (aO (by omega))) rfl) (ai (ai rfl (ai rfl (ai ?_ ?_))) (ai (ai nof ?_) rfl))) trivial)))) rfl) (ai (ai (iL (by omega)) trivial) (iM (by omega)))))
     all_goals rw[e]
     ·exact fun _ _=>rfl
     ·exact rfl
    have h6:allM (L.getD a ay).1 (gP c k).fr=true:=by simpa [bW] using h6
    refine ei _ (ai (ad5) (ei ((c,(L.getD a ay).1,k)) (ei [] (ai (a4 (ai (fun _=>Or.inl rfl) (ai nof (Or.inl rfl)))) (ai (by exact (ai (ai rfl (ai (ai rfl (fun _ _=>rfl)) (ai (ai rfl (fun _ _=>rfl)) (ai rfl (fun _ _=>rfl))))) (ai (ai rfl (fun _ _=>rfl)) rfl))) (ai trivial (ai (⟨hc,ho,h5⟩) ?_)))))))
    refine aZ (b:=!xX c (L.getD a ay).1 k) rfl (fun h7=>?_) (fun h7=>?_)
    ·have h7:xX c (L.getD a ay).1 k=false:=by simpa using h7
     have e:cO c (L.getD a ay) s (k+1)=cO c (L.getD a ay) s k:=by rw[hst];unfold ig;rw[if_neg (by unfold pq;rw[h7];simp)]
     refine ei (k+1) (ai (ai rfl rfl) (ai (ai (ai rfl (ai (ai rfl rfl) (ai (ai rfl rfl) (ai (ai (ai (ai (fun _=>rfl) (aO (by omega))) rfl) (ai (ai rfl (ai rfl (ai ?_ ?_))) (ai (ai nof ?_) rfl))) trivial)))) rfl) (ai (ai (iL (by omega)) trivial) (iM (by omega)))))
     all_goals rw[e]
     ·exact fun _ _=>rfl
     ·exact rfl
    have h7:xX c (L.getD a ay).1 k=true:=by simpa using h7
    have hbad:pq c (L.getD a ay) k=true:=by unfold pq;rw[h6,h7];rfl
    refine ai (ai (aa1 _) (iN (n:=L.length) (by omega))) (ai rfl ?_)
    have hcl:((L.getD a ay).2++[(k:Int)]).length≤1000000:=by rw[aaG];show (L.getD a ay).2.length+1≤_;omega
    refine eY mixed aB Tryz.func63 rfl rfl ?_
    refine ai rfl ?_
    intro b hb
    refine aY (fun hb0=>?_) (fun hb0=>?_)
    ·have hb1:(L.getD a ay).2.length=0:=hb hb0
     have hb2:=apC.1 hb1
     refine ai (ai (by decide) (by decide)) (ai (aI 1 rfl) ?_)
     refine aZ (b:=!(cO c (L.getD a ay) s k).2) rfl (fun h8=>?_) (fun h8=>?_)
     ·have e:cO c (L.getD a ay) s (k+1)=((L.getD a ay).2++[(k:Int)],true):=by rw[hst];unfold ig;rw[if_pos hbad,if_pos (by rw[h8];rfl)]
      refine ei (k+1) (ai (ai rfl rfl) (ai (ai (ai rfl (ai (ai rfl rfl) (ai (ai rfl rfl) (ai (ai (ai (ai (fun _=>rfl) (aO (by omega))) rfl) (ai (ai rfl (ai rfl (ai ?_ ?_))) (ai (ai (fun _=>rfl) ?_) rfl))) trivial)))) rfl) (ai (ai (iL (by omega)) trivial) (iM (by omega)))))
      all_goals rw[e]
      ·(rw[hb2];first | done | rfl)
      ·(rw[hb2];intro j hj;have hj:j<1:=hj;obtain rfl:j=0:=(by omega);rfl)
      ·exact rfl
     refine ei _ (ai (aak) (ei (((L.getD a ay).2++[(k:Int)],(cO c (L.getD a ay) s k).1)) (ei [] (ai (ai rfl (ai rfl (ai rfl (ai rfl (ai (fun _=>Or.inl rfl) (ai (fun _=>ai rfl rfl) (Or.inl rfl))))))) (ai ?_ (ai (by exact trivial) (ai (hcl) ?_)))))))
     ·refine (ai (ai ?_ ?_) (ai rfl (fun _ _=>rfl)))
      ·(rw[hb2];first | done | rfl)
      ·(rw[hb2];intro j hj;have hj:j<1:=hj;obtain rfl:j=0:=(by omega);rfl)
     refine ah (p:=cmpL ((L.getD a ay).2++[(k:Int)]) (cO c (L.getD a ay) s k).1<0) (au Iff.rfl) (fun h9=>?_) (fun h9=>?_)
     ·have e:cO c (L.getD a ay) s (k+1)=((L.getD a ay).2++[(k:Int)],true):=by rw[hst];unfold ig;rw[if_pos hbad,if_pos (by rw[decide_eq_true h9];simp)]
      refine ei (k+1) (ai (ai rfl rfl) (ai (ai (ai rfl (ai (ai rfl rfl) (ai (ai rfl rfl) (ai (ai (ai (ai (fun _=>rfl) (aO (by omega))) rfl) (ai (ai rfl (ai rfl (ai ?_ ?_))) (ai (ai (fun _=>rfl) ?_) rfl))) trivial)))) rfl) (ai (ai (iL (by omega)) trivial) (iM (by omega)))))
      all_goals rw[e]
      ·(rw[hb2];first | done | rfl)
      ·(rw[hb2];intro j hj;have hj:j<1:=hj;obtain rfl:j=0:=(by omega);rfl)
      ·exact rfl
     ·have e:cO c (L.getD a ay) s (k+1)=cO c (L.getD a ay) s k:=by rw[hst];unfold ig;rw[if_pos hbad,if_neg (by rw[h8,decide_eq_false h9];simp)]
      refine ei (k+1) (ai (ai rfl rfl) (ai (ai (ai rfl (ai (ai rfl rfl) (ai (ai rfl rfl) (ai (ai (ai (ai (fun _=>rfl) (aO (by omega))) rfl) (ai (ai rfl (ai rfl (ai ?_ ?_))) (ai (ai nof ?_) rfl))) trivial)))) rfl) (ai (ai (iL (by omega)) trivial) (iM (by omega)))))
      all_goals rw[e]
      ·exact fun _ _=>rfl
      ·exact rfl
    ·refine ai (mxL (n:=0+(L.getD a ay).2.length) (by omega) (by decide)) (ai (fun _ _=>rfl) ?_)
     refine ai (mxL (n:=0+(L.getD a ay).2.length+1) (by omega) (by decide)) (ai (aI 1 rfl) ?_)
     refine aZ (b:=!(cO c (L.getD a ay) s k).2) rfl (fun h8=>?_) (fun h8=>?_)
     ·have e:cO c (L.getD a ay) s (k+1)=((L.getD a ay).2++[(k:Int)],true):=by rw[hst];unfold ig;rw[if_pos hbad,if_pos (by rw[h8];rfl)]
      refine ei (k+1) (ai (ai rfl rfl) (ai (ai (ai rfl (ai (ai rfl rfl) (ai (ai rfl rfl) (ai (ai (ai (ai (fun _=>rfl) (aO (by omega))) rfl) (ai (ai rfl (ai rfl (ai ?_ ?_))) (ai (ai (fun _=>rfl) ?_) rfl))) trivial)))) rfl) (ai (ai (iL (by omega)) trivial) (iM (by omega)))))
      all_goals rw[e]
      ·(rw[aaG];exact congrArg (·+1) (aip _))
      ·exact aaf _ _
      ·exact rfl
     refine ei _ (ai (aak) (ei (((L.getD a ay).2++[(k:Int)],(cO c (L.getD a ay) s k).1)) (ei [] (ai (ai rfl (ai rfl (ai rfl (ai rfl (ai (fun _=>Or.inl rfl) (ai (fun _=>ai rfl rfl) (Or.inl rfl))))))) (ai ?_ (ai (by exact trivial) (ai (hcl) ?_)))))))
     ·refine (ai (ai ?_ ?_) (ai rfl (fun _ _=>rfl)))
      ·(rw[aaG];exact congrArg (·+1) (aip _))
      ·exact aaf _ _
     refine ah (p:=cmpL ((L.getD a ay).2++[(k:Int)]) (cO c (L.getD a ay) s k).1<0) (au Iff.rfl) (fun h9=>?_) (fun h9=>?_)
     ·have e:cO c (L.getD a ay) s (k+1)=((L.getD a ay).2++[(k:Int)],true):=by rw[hst];unfold ig;rw[if_pos hbad,if_pos (by rw[decide_eq_true h9];simp)]
      refine ei (k+1) (ai (ai rfl rfl) (ai (ai (ai rfl (ai (ai rfl rfl) (ai (ai rfl rfl) (ai (ai (ai (ai (fun _=>rfl) (aO (by omega))) rfl) (ai (ai rfl (ai rfl (ai ?_ ?_))) (ai (ai (fun _=>rfl) ?_) rfl))) trivial)))) rfl) (ai (ai (iL (by omega)) trivial) (iM (by omega)))))
      all_goals rw[e]
      ·(rw[aaG];exact congrArg (·+1) (aip _))
      ·exact aaf _ _
      ·exact rfl
     ·have e:cO c (L.getD a ay) s (k+1)=cO c (L.getD a ay) s k:=by rw[hst];unfold ig;rw[if_pos hbad,if_neg (by rw[h8,decide_eq_false h9];simp)]
      refine ei (k+1) (ai (ai rfl rfl) (ai (ai (ai rfl (ai (ai rfl rfl) (ai (ai rfl rfl) (ai (ai (ai (ai (fun _=>rfl) (aO (by omega))) rfl) (ai (ai rfl (ai rfl (ai ?_ ?_))) (ai (ai nof ?_) rfl))) trivial)))) rfl) (ai (ai (iL (by omega)) trivial) (iM (by omega)))))
      all_goals rw[e]
      ·exact fun _ _=>rfl
      ·exact rfl
   ·obtain rfl:k=c.trs.length:=by omega
    refine ei ((a+1,cO c (L.getD a ay) s c.trs.length)) (ai (ai rfl rfl) (ai (ai ?_ rfl) (ai ?_ ?_)))
    ·exact (ai rfl (ai (ai rfl rfl) (ai (ai rfl rfl) (ai (ai (ai (ai (fun _=>rfl) (aO (by omega))) rfl) (ai (ai rfl (ai rfl (ai rfl (fun _ _=>rfl)))) (ai (ai nof rfl) rfl))) trivial))))
    ·exact ⟨h2,hs2⟩
    ·show L.length-(a+1)<L.length-a;omega
 ·have e:jL c=s:=by rw[hs,asF (by omega)];rfl
  refine ai (ai (fun h=>absurd (show false=true from h) (by decide)) ?_) trivial
  show ak _ (tJ c)
  rw[hA,e]
  exact (ai rfl (ai (ai rfl (fun _ _=>rfl)) rfl))
end Go.Sx.Pe
namespace Go.Proofs
open Go.Shelf
def Tryz.wI:Go.Shelf.Ren:=⟨fun | 6=>99 | 15=>153 | 14=>152 | 28=>192 | 29=>193 | 20=>184 | 21=>185 | 22=>186 | 23=>187 | 24=>188 | 25=>189 | 26=>190 | 27=>191 | 46=>210 | 47=>211 | 48=>212 | 49=>213 | 50=>214 | 57=>225 | n=>n,fun | 22=>62 | 24=>72 | 25=>169 | 3=>3 | 39=>214 | 0=>0 | 53=>250 | 55=>252 | 4=>4 | 46=>244 | 45=>243 | 50=>101 | 5=>5 | 9=>9 | 66=>265 | 70=>269 | 76=>282 | 77=>283 | n=>n,fun | n=>n⟩
theorem Tryz.alI : Go.Proofs.SlLaysF.n6 Tryz.prog Tryz.wI := {
  mixed := by kernel_rfl
  f6 := ⟨Tryz.f99.name, by decide, Tryz.func99.trans (congrArg some (by kernel_rfl))⟩
  f14 := ⟨Tryz.f152.name, by decide, Tryz.func152.trans (congrArg some (by kernel_rfl))⟩
  f15 := Tryz.func153.trans (congrArg some (by kernel_rfl))
  f20 := ⟨Tryz.f184.name, by decide, Tryz.func184.trans (congrArg some (by kernel_rfl))⟩
  f21 := ⟨Tryz.f185.name, by decide, Tryz.func185.trans (congrArg some (by kernel_rfl))⟩
  f22 := ⟨Tryz.f186.name, by decide, Tryz.func186.trans (congrArg some (by kernel_rfl))⟩
  f23 := ⟨Tryz.f187.name, by decide, Tryz.func187.trans (congrArg some (by kernel_rfl))⟩
  f24 := ⟨Tryz.f188.name, by decide, Tryz.func188.trans (congrArg some (by kernel_rfl))⟩
  f25 := ⟨Tryz.f189.name, by decide, Tryz.func189.trans (congrArg some (by kernel_rfl))⟩
  f26 := ⟨Tryz.f190.name, by decide, Tryz.func190.trans (congrArg some (by kernel_rfl))⟩
  f27 := ⟨Tryz.f191.name, by decide, Tryz.func191.trans (congrArg some (by kernel_rfl))⟩
  f28 := Tryz.func192.trans (congrArg some (by kernel_rfl))
  f29 := Tryz.func193.trans (congrArg some (by kernel_rfl))
  f46 := ⟨Tryz.f210.name, by decide, Tryz.func210.trans (congrArg some (by kernel_rfl))⟩
  f47 := Tryz.func211.trans (congrArg some (by kernel_rfl))
  f48 := Tryz.func212.trans (congrArg some (by kernel_rfl))
  f49 := ⟨Tryz.f213.name, by decide, Tryz.func213.trans (congrArg some (by kernel_rfl))⟩
  f50 := ⟨Tryz.f214.name, by decide, Tryz.func214.trans (congrArg some (by kernel_rfl))⟩
  f57 := ⟨Tryz.f225.name, by decide, Tryz.func225.trans (congrArg some (by kernel_rfl))⟩
  t0 := Tryz.underlying0
  a0 := Tryz.isAgg0
  z0 := Tryz.sizeOf0
  v0 := Tryz.zeroValue0
  t3 := Tryz.underlying3
  a3 := Tryz.isAgg3
  z3 := Tryz.sizeOf3
  v3 := Tryz.zeroValue3
  t4 := Tryz.underlying4
  a4 := Tryz.isAgg4
  z4 := Tryz.sizeOf4
  v4 := Tryz.zeroValue4
  t5 := Tryz.underlying5
  a5 := Tryz.isAgg5
  z5 := Tryz.sizeOf5
  v5 := Tryz.zeroValue5
  t9 := Tryz.underlying9
  a9 := Tryz.isAgg9
  z9 := Tryz.sizeOf9
  v9 := Tryz.zeroValue9
  t22 := Tryz.underlying62
  a22 := Tryz.isAgg62
  z22 := Tryz.sizeOf62
  v22 := Tryz.zeroValue62
  a24 := Tryz.isAgg72
  z24 := Tryz.sizeOf72
  t25 := Tryz.underlying169
  a25 := Tryz.isAgg169
  z25 := Tryz.sizeOf169
  v25 := Tryz.zeroValue169
  t39 := Tryz.underlying214
  a39 := Tryz.isAgg214
  z39 := Tryz.sizeOf214
  v39 := Tryz.zeroValue214
  t45 := Tryz.underlying243
  a45 := Tryz.isAgg243
  z45 := Tryz.sizeOf243
  v45 := Tryz.zeroValue243
  t46 := Tryz.underlying244
  a46 := Tryz.isAgg244
  z46 := Tryz.sizeOf244
  v46 := Tryz.zeroValue244
  t50 := Tryz.underlying101
  a50 := Tryz.isAgg101
  z50 := Tryz.sizeOf101
  v50 := Tryz.zeroValue101
  t53 := Tryz.underlying250
  a53 := Tryz.isAgg250
  z53 := Tryz.sizeOf250
  v53 := Tryz.zeroValue250
  t55 := Tryz.underlying252
  a55 := Tryz.isAgg252
  z55 := Tryz.sizeOf252
  v55 := Tryz.zeroValue252
  t66 := Tryz.underlying265
  a66 := Tryz.isAgg265
  z66 := Tryz.sizeOf265
  v66 := Tryz.zeroValue265
  t70 := Tryz.underlying269
  a70 := Tryz.isAgg269
  z70 := Tryz.sizeOf269
  v70 := Tryz.zeroValue269
  t76 := Tryz.underlying282
  a76 := Tryz.isAgg282
  z76 := Tryz.sizeOf282
  v76 := Tryz.zeroValue282
  t77 := Tryz.underlying283
  a77 := Tryz.isAgg283
  z77 := Tryz.sizeOf283
  v77 := Tryz.zeroValue283 }
end Go.Proofs
namespace Go.Sx.Pe
open Go Go.Proofs Go.Sx.Pn Go.RowKit Go.Shelf
def BS (w:World) (v:Value) (l:List Bool):Prop:=∃p c,v=.slice p l.length c∧∀k,k<l.length→∃bb o,p=some ⟨bb,o,none⟩∧w.cell? ⟨bb,o+k,none⟩=some (.bool (l.getD k false))
theorem ahw (a b:List Bool) (v1 v2:Value) (w:World) (hab:a.length=b.length) (hl:a.length≤1000000) (h1:BS w v1 a) (h2:BS w v2 b) :
  Calls Tryz.prog 100 #[v1,v2] w fun e w'=>e=.returned (.int .i64 (gQ a b))∧w'=w:=by
 obtain ⟨p1,c1,rfl,g1⟩:=h1
 obtain ⟨p2,c2,rfl,g2⟩:=h2
 rw[←hab] at g2 ⊢
 have g1:=Lib.hid g1
 have g2:=Lib.hid g2
 go_enter Tryz.func100,Tryz.ntmps100
 go_wp2_with (fail)
 go_loop [9] (fun i=>∃k:Nat,k≤a.length∧i=.int .i64 k∧a.take k=b.take k) (fun i=>a.length-(Proofs.intOf i).toNat)
 case atStart=>exact ⟨0,aeu _,rfl,rfl⟩
 case round=>
  obtain ⟨k,hk,rfl,hall⟩:=hrel
  have hall:=Lib.hid hall
  by_cases hlt:k<a.length
  ·obtain ⟨x1,o1,rfl,e1⟩:=g1.out k hlt
   obtain ⟨x2,o2,hp2,e2⟩:=g2.out k hlt
   have he:=Lib.hid (aoj hab hlt hall.out)
   have hs:=Lib.hid (aag false hlt (by omega) hall.out)
   obtain ⟨ba,hba⟩:∃x,a.getD k false=x:=⟨_,rfl⟩
   obtain ⟨bb,hbb⟩:∃x,b.getD k false=x:=⟨_,rfl⟩
   rw[hba] at e1
   rw[hbb] at e2
   replace hba:=Lib.hid hba
   replace hbb:=Lib.hid hbb
   subst hp2
   cases ba<;>cases bb
   ·go_wp2_with (fail)
    go_round
    case rel=>exact ⟨k+1,by omega,by go_num,hs.out (hba.out.trans hbb.out.symm)⟩
    case measure=>simp[Proofs.intOf];omega
   ·have hr:gQ a b=-1:=by rw[he.out (by rw[hba.out,hbb.out];decide),hbb.out];rfl
    have hr:=Lib.hid hr
    go_wp2_with (fail)
    go_ret
    exact ⟨by first | rfl | (rw[hr.out];rfl),rfl⟩
   ·have hr:gQ a b=1:=by rw[he.out (by rw[hba.out,hbb.out];decide),hbb.out];rfl
    have hr:=Lib.hid hr
    go_wp2_with (fail)
    go_ret
    exact ⟨by first | rfl | (rw[hr.out];rfl),rfl⟩
   ·go_wp2_with (fail)
    go_round
    case rel=>exact ⟨k+1,by omega,by go_num,hs.out (hba.out.trans hbb.out.symm)⟩
    case measure=>simp[Proofs.intOf];omega
  ·obtain rfl:k=a.length:=by omega
   have hr:gQ a b=0:=ah1 (by have:=hall.out;rw[agN,hab,agN] at this;exact this)
   have hr:=Lib.hid hr
   go_wp2_with (fail)
   go_ret
   exact ⟨by first | rfl | (rw[hr.out];rfl),rfl⟩
end Go.Sx.Pe
namespace Go.Sx.Pe
open Go Go.Proofs Go.Sx.Pn
theorem zx:∀a b:List Bool,gQ b a=-gQ a b
 | [],[]=>rfl
 | [],_ :: _=>rfl
 | _ :: _,[]=>rfl
 | x :: a,y :: b=>by
  have ih:=zx a b
  cases x<;>cases y<;>simp[gQ,ih]
theorem aee:∀{a b:List Bool},a.length=b.length→gQ a b=0→a=b
 | [],[],_,_=>rfl
 | [],_ :: _,h,_=>by simp at h
 | _ :: _,[],h,_=>by simp at h
 | x :: a,y :: b,h,e=>by
  have ih:=aee (a:=a) (b:=b) (by simpa using h)
  cases x<;>cases y<;>simp[gQ] at e<;>rw[ih e]
theorem wS:∀{a b c:List Bool},a.length=b.length→b.length=c.length→gQ a b<0→gQ b c<0→gQ a c<0
 | [],[],_,_,_,h,_=>by simp[gQ] at h
 | [],_ :: _,_,h,_,_,_=>by simp at h
 | _ :: _,[],_,h,_,_,_=>by simp at h
 | _ :: _,_ :: _,[],_,h,_,_=>by simp at h
 | x :: a,y :: b,z :: c,h1,h2,h,k=>by
  have ih:=wS (a:=a) (b:=b) (c:=c) (by simpa using h1) (by simpa using h2)
  cases x<;>cases y<;>cases z<;>simp[gQ] at h k ⊢<;>exact ih h k
def oC (a b:List Bool):Prop:=gQ a b<0
theorem ais {n:Nat} {a b:List Bool} (ha:a.length=n) (hb:b.length=n) (h:¬oC a b):oC b a∨a=b:=by
 unfold oC at *
 by_cases e:gQ a b=0
 ·exact .inr (aee (ha.trans hb.symm) e)
 ·left;rw[zx a b];omega
theorem aiY (a:List Bool):¬oC a a:=by unfold oC;rw[ah1 rfl];decide
theorem alo {a b:List Bool} (h:oC a b):¬oC b a:=by unfold oC at *;rw[zx a b];omega
theorem acX {n:Nat} {a b c:List Bool} (ha:a.length=n) (hb:b.length=n) (hc:c.length=n) (h:¬oC a b) (k:¬oC b c):¬oC a c:=by
 intro h3
 rcases ais ha hb h with h | rfl
 ·exact k (wS (hb.trans ha.symm) (ha.trans hc.symm) h h3)
 ·exact k h3
theorem afd (a b:List Bool):al8 a b=true↔oC a b:=by
 unfold al8 oC
 rw[beq_iff_eq]
 have:gQ a b=-1∨gQ a b=0∨gQ a b=1:=by
  induction a generalizing b with
  | nil=>exact .inr (.inl (by cases b<;>rfl))
  | cons x a ih=>
   cases b with
   | nil=>exact .inr (.inl rfl)
   | cons y b=>
    rw[gQ]
    split
    ·exact ih b
    ·split
     ·exact .inl rfl
     ·exact .inr (.inr rfl)
 omega
def posR (A:List (List Bool)) (x:List Bool):Nat→Nat
 | 0=>0
 | k+1=>if al8 x (A.getD k []) then posR A x k else k+1
def rowAt (A:List (List Bool)) (x:List Bool) (k:Nat):List (List Bool):=A.take k++x :: A.drop k
def ajs (A:List (List Bool)) (x:List Bool):List (List Bool):=rowAt A x (posR A x A.length)
def iC (l:List (List Bool)):List (List Bool):=l.foldl ajs []
theorem adV (l:List (List Bool)) (x:List Bool):iC (l++[x])=ajs (iC l) x:=by unfold iC;rw[asw];rfl
theorem ajV (A:List (List Bool)) (x:List Bool) (k:Nat):(rowAt A x k).Perm (x :: A):=by
 unfold rowAt
 refine List.perm_middle.trans ?_
 rw[asj]
theorem ahi {α:Type} {p:List α→Prop} (h0:p []) (hs:∀l x,p l→p (l++[x])) (l:List α):p l:=by
 rw[←List.reverse_reverse l]
 induction l.reverse with
 | nil=>exact h0
 | cons x l ih=>rw[List.reverse_cons];exact hs _ _ ih
theorem qW (l:List (List Bool)):(iC l).Perm l:=by
 refine ahi (p:=fun l=>(iC l).Perm l) .nil (fun l x ih=>?_) l
 rw[adV]
 refine (ajV _ _ _).trans ?_
 refine (ih.cons x).trans ?_
 exact (List.perm_append_singleton x l).symm
theorem amO (l:List (List Bool)):(iC l).length=l.length:=(qW l).length_eq
def xW (l:List (List Bool)):Prop:=l.Pairwise fun a b=>¬oC b a
theorem ahX (A:List (List Bool)) (x:List Bool):∀k,posR A x k≤k
 | 0=>agv _
 | k+1=>by
  rw[posR];split
  ·have:=ahX A x k;omega
  ·exact agv _
theorem aib (A:List (List Bool)) (x:List Bool):∀k j,posR A x k≤j→j<k→oC x (A.getD j [])
 | 0,j,_,h=>by omega
 | k+1,j,h1,h2=>by
  rw[posR] at h1
  split at h1
  ·rename_i h
   by_cases e:j=k
   ·subst e;exact (afd _ _).1 h
   ·exact aib A x k j h1 (by omega)
  ·omega
theorem ait (A:List (List Bool)) (x:List Bool):∀k,0<posR A x k→¬oC x (A.getD (posR A x k-1) [])
 | 0,h=>by simp[posR] at h
 | k+1,h=>by
  rw[posR] at h ⊢
  split
  ·rename_i hb;rw[if_pos hb] at h;exact ait A x k h
  ·rename_i hb
   exact fun hl=>hb ((afd _ _).2 hl)
theorem amC {n:Nat} {A:List (List Bool)} {x:List Bool} (hx:x.length=n) (hA:∀y∈A,y.length=n) (h:xW A):xW (ajs A x):=by
 have hp:=ahX A x A.length
 have hlo:=ait A x A.length
 have hhi:=aib A x A.length
 unfold ajs rowAt
 generalize posR A x A.length=p at *
 have hs:xW (A.take p++A.drop p):=by rw[asj];exact h
 obtain ⟨s1,s2,s3⟩:=List.pairwise_append.1 hs
 have hd:∀y∈A.drop p,oC x y:=fun y hy=>by
  obtain ⟨i,hi,rfl⟩:=apT hy
  rw[aqy] at hi
  have:=hhi (p+i) (by omega) (by omega)
  rw[List.getElem_drop]
  rwa [aaI,aaQ (by omega)] at this
 have ht:∀y∈A.take p,¬oC x y:=fun y hy=>by
  obtain ⟨i,hi,rfl⟩:=apT hy
  rw[aiN] at hi
  rw[List.getElem_take]
  have h0:=hlo (by omega)
  rw[aaI,aaQ (by omega)] at h0
  by_cases e:i=p-1
  ·subst e;exact h0
  ·have h1:=asX.1 h i (p-1) (by omega) (by omega) (by omega)
   exact acX hx (hA _ (asE _)) (hA _ (asE _)) h0 h1
 refine List.pairwise_append.2 ⟨s1,atf.2 ⟨fun y hy=>alo (hd y hy),s2⟩,fun a ha b hb=>?_⟩
 rcases aiq.1 hb with rfl | hb
 ·exact ht a ha
 ·exact s3 a ha b hb
theorem anr {n:Nat} {l:List (List Bool)} (hl:∀y∈l,y.length=n):xW (iC l):=by
 refine ahi (p:=fun l=>(∀y∈l,y.length=n)→xW (iC l)) (fun _=>List.Pairwise.nil) (fun l x ih hl=>?_) l hl
 rw[adV]
 refine amC (n:=n) (hl x (by simp)) (fun y hy=>hl y ?_) (ih fun y hy=>hl y (by simp[hy]))
 have:=(qW l).mem_iff.1 hy
 simp[this]
theorem acJ {n:Nat}:∀{a b:List (List Bool)},a.Perm b→(∀y∈a,y.length=n)→xW a→xW b→a=b
 | [],b,h,_,_,_=>by rw[List.nil_perm.1 h]
 | x :: a,[],h,_,_,_=>by have:=h.length_eq;simp at this
 | x :: a,y :: b,h,hn,ha,hb=>by
  obtain ⟨a1,a2⟩:=atf.1 ha
  obtain ⟨b1,b2⟩:=atf.1 hb
  have e:x=y:=by
   rcases aiq.1 (h.mem_iff.1 (anW ..)) with e | hx
   ·exact e
   ·rcases aiq.1 (h.mem_iff.2 (anW ..)) with e | hy
    ·exact e.symm
    ·have h1:=b1 x hx
     have h2:=a1 y hy
     rcases ais (n:=n) (hn x (anW ..)) (hn y (anX _ hy)) h1 with h3 | h3
     ·exact absurd h3 h2
     ·exact h3
  subst e
  rw[acJ ((List.perm_cons x).1 h) (fun y hy=>hn y (anX _ hy)) a2 b2]
end Go.Sx.Pe
namespace Go.Sx.Pe
open Go Go.Proofs Go.Sx.Pn Go.RowKit Go.Sort
theorem anJ {E:Env} {W:World} (hm:acp E.mem W) {v:Value} {l:List Bool} (h:aN E.mem v (mJ l)):BS W v l:=by
 unfold mJ at h
 cases hl:l with
 | nil=>
  subst hl
  cases h with
  | nil=>exact ⟨none,0,rfl,fun k hk=>absurd hk (aj9 _)⟩
  | emp a cap=>exact ⟨_,_,rfl,fun k hk=>absurd hk (aj9 _)⟩
  | seq b o n cap sz f cs u hm' hcap hmax hl' hc he=>exact ⟨_,_,rfl,fun k hk=>absurd hk (aj9 _)⟩
 | cons x t=>
  rw[←hl]
  have hpos:0<l.length:=by rw[hl];simp
  generalize hn:l.length=n at h hpos
  cases h with
  | nil=>exact absurd hpos (Nat.lt_irrefl _)
  | emp a cap=>exact absurd hpos (Nat.lt_irrefl _)
  | seq b o _ cap sz f cs u hm' hcap hmax hl' hc he=>
   refine ⟨some ⟨b,o,none⟩,cap,by rw[hn],fun k hk=>⟨b,o,rfl,?_⟩⟩
   have hk:k<n:=by omega
   obtain ⟨T,fr,hw⟩:=hm _ _ hm'
   have hs:sz=1:=(hl' k hk).symm
   subst hs
   have h1:=hc k 0 _ hk rfl
   have h2:=he k 0 _ hk rfl
   rw[h2.aM,apS,ar7] at h1
   simp only[World.cell?,hw]
   exact h1.1
def rE (l:List (List Bool)):Ob:=.row 72 1 l.length (fun k=>[mJ (l.getD k [])])
def aqH (n:Nat) (l:List (List Bool)):Prop:=l.length≤1000000000∧∀x∈l,x.length=n
def aoy (n:Nat):Spec:={ A:=List (List Bool),args:=fun _=>[.row 0,.fn 100 []],objs:=fun l=>[rE l],pre:=aqH n,res:=fun _=>.tup [],objs':=fun l=>[rE (iC l)],fresh:=true,ro:=0 }
theorem alg (n : Nat) (hn : n ≤ 1000000) : aK Tryz.prog 99 (aoy n) := by
  refine ⟨⟨Tryz.f99, Tryz.func99, rfl, rfl⟩, fun (l : List (List Bool)) hpre E vs w _ hh hA => ?_⟩
  obtain ⟨hbig, hlen⟩ := hpre
  have hbig : l.length ≤ 1000000000 := hbig
  have hob : (iw [rE l]).obj 0 = some (.row 72 1 l.length (fun k => [mJ (l.getD k [])])) := rfl
  obtain ⟨hs1, hs2⟩ := hA
  obtain ⟨v, fv, rfl⟩ : ∃ v fv, vs = #[v, fv] := by
    have h1 : vs.size = 2 := hs1
    exact ⟨vs[0]'(by omega), vs[1]'(by omega), by
      apply Array.ext
      · simp [h1]
      · intro i hi hi2
        match i, hi2 with
        | 0, _ => rfl
        | 1, _ => rfl⟩
  have hv := hs2 0 v (.row 0) rfl rfl
  have hf := hs2 1 fv (.fn 100 []) rfl rfl
  obtain rfl : fv = .func (.func 100) #[] #[] := by
    cases hf with
    | fn _ us _ hl he => 
      have : us = #[] := Array.eq_empty_of_size_eq_zero (by simpa using hl)
      rw [this]
  have hR := hh.ob 0 _ hob
  have hrep := hR
  cases hv with
  | row _ _ hd0 hsl =>
  cases hR with
  | row _ _ _ _ v' xs u hhd hw hmax hl hc he =>
  rw [hd0] at hhd
  obtain rfl := Option.some.inj hhd
  have hnone : ∀ (p : Option Addr) (cap : Nat), Calls Tryz.prog 99 #[.slice p 0 cap, .func (.func 100) #[] #[]] w fun e w' => e = .returned (.tuple #[]) ∧ w' = w := fun p cap =>
    AnyF.slices_SortFunc_none (P := Tryz.prog) (ρ := Tryz.wI) { Tryz.alI with } p cap _ w
  by_cases h0 : l = []
  · subst h0
    have hw2 := hw.2
    obtain ⟨p, cap, rfl⟩ : ∃ p cap, v = .slice p 0 cap := by
      rcases hw2 with ⟨rfl, _⟩ | ⟨g, cap, cur, rfl, _⟩
      · exact ⟨_, _, rfl⟩
      · exact ⟨_, _, rfl⟩
    refine (hnone p cap).mono ?_
    rintro e w' ⟨rfl, rfl⟩
    exact ⟨.tuple #[], E, rfl, .tup _ _ rfl (fun k u s hu => by simp at hu), hh⟩
  have hpos : 0 < l.length := asU.2 h0
  rcases hw.2 with ⟨rfl, hn0⟩ | ⟨g, cap, cur, rfl, _⟩
  · exact absurd hn0 (by omega)
  obtain ⟨_, cur, u', hA⟩ := hrep.jJ hd0
  -- the elements, with what they stand for
  let α : Type := { p : Value × List Bool // p.2.length = n ∧ p.1.oneCell' = true ∧ aN E.mem p.1 (mJ p.2) }
  have hel : ∀ j, j < l.length → cur[j]? = some (u' j 0) ∧ (u' j 0).oneCell' = true ∧ aN E.mem (u' j 0) (mJ (l.getD j [])) := fun j hj => by
    have c1 := hA.hc j 0 (mJ (l.getD j [])) hj rfl
    have c2 := hA.he j 0 (mJ (l.getD j [])) hj rfl
    rw [apS, ar7] at c1
    exact ⟨c1.1, c1.2, c2⟩
  have mem : ∀ j, j < l.length → (l.getD j []).length = n := fun j hj => hlen _ (acI (bI [] hj))
  let el : Fin l.length → α := fun j => ⟨(u' j 0, l.getD j []), mem j j.2, (hel j j.2).2.1, (hel j j.2).2.2⟩
  haveI : Inhabited α := ⟨el ⟨0, hpos⟩⟩
  let enc : α → Value := fun x => x.1.1
  have h1 : ∀ a, (enc a).oneCell' = true := fun a => a.2.2.1
  let d : Array α := Array.ofFn el
  have hds : d.size = l.length := Array.size_ofFn
  have hdat : ∀ j (hj : j < l.length), d[j]! = el ⟨j, hj⟩ := fun j hj => by
    rw [getElem!_pos d j (by rw [hds]; exact hj)]
    simp [d]
  let cf : α → α → Int := fun x y => gQ x.1.2 y.1.2
  have hlt : ∀ x y : α, ltOf cf x y = true ↔ oC x.1.2 y.1.2 := fun x y => by
    show decide (gQ x.1.2 y.1.2 < 0) = true ↔ _
    rw [decide_eq_true_iff]; rfl
  have hltf : ∀ x y : α, ltOf cf x y = false ↔ ¬ oC x.1.2 y.1.2 := fun x y => by rw [← hlt, Bool.not_eq_true]
  have hO : SWO (ltOf cf) := {
    irrefl := fun x => (hltf x x).2 (aiY _)
    trans := fun x y z h k => (hlt x z).2 (wS (x.2.1.trans y.2.1.symm) (y.2.1.trans z.2.1.symm) ((hlt x y).1 h) ((hlt y z).1 k))
    ntrans := fun x y z h k => (hltf x z).2 (acX x.2.1 y.2.1 z.2.1 ((hltf x y).1 h) ((hltf y z).1 k)) }
  have hg : g < w.heap.size := (aa2.1 hA.heap).1
  have hnc := hA.hn
  have hsz := hA.size
  -- the world with another order
  have hW : ∀ (m : Nat) (os : Array Obj) (dk : Array α), dk.size = l.length → bn (jU w E [rE l] 0) E ((iw [rE l]).bX 0 (some (rE (dk.toList.map fun x => x.1.2)))) (sortWorld enc w g 0 m dk os) := by
    intro m os dk hdk
    have hw1 : (putRow enc (Sort.ahead w m) g 0 dk).heap[g]? = some (.cells (putCells enc 0 dk cur) 72 (0, 0)) := by
      show (w.heap.modify g (onCells _))[g]? = _
      rw [ars, if_pos rfl, hA.heap]; rfl
    have hw2 : ∀ k, k ≠ g → (putRow enc (Sort.ahead w m) g 0 dk).heap[k]? = w.heap[k]? := fun k hk => by
      show (w.heap.modify g (onCells _))[k]? = _
      rw [ars, if_neg fun e => hk e.symm]
    have hbang : ∀ k, k < l.length → (dk.toList.map fun x : α => x.1.2).getD k [] = (dk[k]!).1.2 := fun k hk => by
      rw [aaI, alr, aes, adX (by omega), getElem!_pos dk k (by omega)]; rfl
    have hlm : (dk.toList.map fun x : α => x.1.2).length = l.length := by rw [anB, alJ, hdk]
    have hat : ∀ j, j < l.length → (putCells enc 0 dk cur)[j]? = some (enc dk[j]!) := fun j hj => by
      rw [ahN, if_pos (by omega), if_pos (by omega)]
    have hh2 : bn (jU w E [rE l] 0) E ((iw [rE l]).bX 0 (some (rE (dk.toList.map fun x => x.1.2)))) (putRow enc (Sort.ahead w m) g 0 dk) := by
      refine hh.write (i := 0) (b := g) hob (by simp [Env.blk, hd0, aF]) (agv _)
        (.row 72 1 _ _ _ ((putCells enc 0 dk cur).toList.take (l.length * 1)) (fun j _ => enc dk[j]!) hd0 ?_ (by rw [hlm]; exact hA.hmax) (fun j _ => rfl) ?_ ?_) rfl rfl rfl (by simp) hw2
      · rw [hlm]
        refine ⟨?_, .inr ⟨g, cap, _, rfl, aeu _, hw1, hA.hn, hA.hcap, by rw [xK]; exact hA.size, rfl⟩⟩
        have h3 : (putCells enc 0 dk cur).toList.length = cap * 1 := by rw [alJ, xK]; exact hA.size
        rw [aiN, h3]
        omega
      · intro j k s hj hs
        rw [hlm] at hj
        have hk : k = 0 := by
          have := (aaY.1 hs).1
          simpa using this
        subst hk
        rw [alv, if_pos (by omega), aes, apS, ar7]
        exact ⟨hat j hj, h1 _⟩
      · intro j k s hj hs
        rw [hlm] at hj
        have hk : k = 0 := by
          have := (aaY.1 hs).1
          simpa using this
        subst hk
        simp only [asZ, Option.some.injEq] at hs
        subst hs
        rw [hbang j hj]
        exact (dk[j]!).2.2.2
    exact hh2.below (w' := sortWorld enc w g 0 m dk os) ⟨rfl, rfl, rfl, by simp [sortWorld], fun k hk => by
      show (_ ++ os)[k]? = _
      rw [anM hk]⟩
  have hcmp : CmpLays1 Tryz.prog 100 #[] enc cf g 0 d.size w := CmpReads.lays fun m os dk hdk x y => by
    have hm := (hW m os dk (by rw [hdk, hds])).mem
    refine (ahw x.1.2 y.1.2 x.1.1 y.1.1 _ (x.2.1.trans y.2.1.symm) (by rw [x.2.1]; exact hn) (anJ hm x.2.2.2) (anJ hm y.2.2.2)).mono ?_
    rintro e w' ⟨rfl, rfl⟩
    exact ⟨rfl, 0, rfl⟩
  have hH : Holds enc w g 0 d := fun j hj => by
    have hj : j < l.length := by omega
    refine ⟨?_, ?_⟩
    · simp only [World.cell?, hA.heap, aip]
      rw [hdat j hj]; exact (hel j hj).1
    · simp [World.frozen?, hA.heap]
  have hsort := Any.slices_SortFunc (P := Tryz.prog) (ρ := Tryz.wI) Tryz.alI enc h1 cf hO 100 #[] g 0 cap d w (enters_of Tryz.func100 (by kernel_rfl) rfl) hcmp hH hg (by omega)
  rw [hds] at hsort
  refine Calls.mono hsort ?_
  rintro e w' ⟨rfl, d', m, os, hp, hs, rfl⟩
  have hd's : d'.size = l.length := hp.1.trans hds
  have hl' : (d'.toList.map fun x : α => x.1.2) = iC l := by
    have hpd : d'.toList.Perm d.toList := by
      have := hp.2.2
      rwa [show d'.extract 0 l.length = d' by rw [← hd's]; simp, show d.extract 0 l.length = d by rw [← hds]; simp] at this
    have hdl : (d.toList.map fun x : α => x.1.2) = l := by
      apply List.ext_getElem?
      intro k
      rw [alr, aes]
      by_cases hk : k < l.length
      · rw [adX (by omega), aaQ hk]
        simp only [d, Array.getElem_ofFn, anP, Option.some.injEq]
        show l.getD k [] = _
        rw [aaI, aaQ hk]; rfl
      · rw [anG (by omega), arx (by omega)]; rfl
    have hperm : (d'.toList.map fun x : α => x.1.2).Perm l := by
      have := hpd.map fun x : α => x.1.2
      rwa [hdl] at this
    refine acJ (n := n) (hperm.trans (qW l).symm) (fun y hy => hlen y (hperm.mem_iff.1 hy)) ?_ (anr hlen)
    unfold xW
    rw [List.pairwise_map, asX]
    intro i j hi hj hij
    have hi : i < d'.size := by simpa using hi
    have hj : j < d'.size := by simpa using hj
    have := hs i j (aeu _) hij (by omega)
    rw [hltf, getElem!_pos d' i hi, getElem!_pos d' j hj] at this
    exact this
  have hfin := hW m os d' hd's
  rw [hl'] at hfin
  refine ⟨.tuple #[], E, rfl, .tup _ _ rfl (fun k u s hu => by simp at hu), ?_⟩
  have key : ∀ (st : St), (∀ i o, st.obj i = some o → ((iw [rE l]).bX 0 (some (rE (iC l)))).obj i = some o) → st.no = 1 → st.k = none → bn (jU w E [rE l] 0) E st (sortWorld enc w g 0 m d' os) := fun st ho hno hk => by
    have hkk := hfin.kk
    exact ⟨fun i o h => hfin.ob i o (ho i o h), fun i j o o' b h1 h2 => hfin.sep i j o o' b (ho i o h1) (ho j o' h2), fun i o b h => hfin.own i o b (ho i o h), hfin.mem, hfin.mem0, hfin.memnew, fun i hi => hfin.new i (by rw [hno] at hi; exact hi), hfin.base, hfin.fr, hfin.hd0, by rw [hno]; exact hfin.mno, hfin.mkh, by rw [hk]; exact hkk⟩
  refine key _ (fun i o ho => ?_) rfl rfl
  have e1 : St.obj ⟨[], [(0, some (rE (iC l)))], 1, none⟩ i = some o := ho
  rw [kM (no := 1) (c := none)] at e1
  have e2 := kM (iw [rE l]).fr (iw [rE l]).ob 1 1 (c := none) (c' := none) 0 (some (rE (iC l))) i
  refine Eq.trans e2 ?_
  by_cases hi : 0 = i
  · rw [if_pos hi] at e1 ⊢; exact e1
  · rw [if_neg hi] at e1
    simp [St.obj, look] at e1
end Go.Sx.Pe
namespace Go.Sx.Pe
open Go Go.Proofs Go.Sx.Pn
def bbP (l:List (List Bool)):PV:=.seq l.length (fun k=>[mJ (l.getD k [])])
def bbR (l:List (List Bool)):LV:=.rw 72 1 l.length (fun k=>[mJ (l.getD k [])])
def gy (c:aQ):List (List Bool):=(iT c).map (·.1)
def nY (c:aQ):PV:=.tup [bbP (iC (gy c)),iP (kS c)]
theorem aot (a:List (List Bool)) (x:List Bool):∀k,k<a.length+1→bQ a.length (fun k=>[mJ (a.getD k [])]) (bg 1 [mJ x]) k=[mJ ((a++[x]).getD k [])]:=by
 intro k hk
 unfold bQ
 by_cases h:k<a.length
 ·rw[if_pos h]
  show [mJ (a.getD k [])]=_
  rw[aaI,aaI,afl h]
 ·obtain rfl:k=a.length:=by omega
  rw[if_neg h,ar8,aaI,afN (agv _),ar8];rfl
theorem al1:aK Tryz.prog 98 (bR (fun a:aQ×List Bool=>[kP a.1,tq a.2]) (fun a=>a.1.sts.length≤24∧a.2.length=a.1.sts.length) (fun a=>mJ a.2)):=by
 refine ⟨aic.1,fun ⟨c,m⟩ hp E vs w hg hh hA=>?_⟩
 obtain ⟨h1,h2⟩:=hp
 have h1:c.sts.length≤24:=h1
 have h2:m.length=c.sts.length:=h2
 have e1:tq (cB m)=tq m:=by unfold tq tZ;rw[aav]
 have key:=aic.2 (c,cB m) ⟨h1,oz (by omega)⟩ E vs w hg hh (by
  show jR E vs [kP c,tq (cB m)]
  rw[e1];exact hA)
 refine key.mono fun e w' ⟨v,E',h3,h4,h5⟩=>⟨v,E',h3,?_,h5⟩
 have e2:(cB m).take c.sts.length=m:=by unfold cB;rw[←h2,List.take_left'];rfl
 show aN _ v (mJ m)
 rw[←e2];exact h4
theorem uW:aK Tryz.prog 29 (jq (fun c:aQ=>[kP c]) jr nY):=by
 refine aX (Tb:=tab) mixed aB Tryz.func29 rfl rfl ?_
 rintro (c:aQ) hpre
 refine ai (ai rfl (ai rfl rfl)) ?_
 have ho:jr c:=hpre
 refine ei _ (ai (uQ) (ei (c) (ei [] (ai (a4 (ai (fun _=>Or.inl rfl) (ai nof (Or.inl rfl)))) (ai (by exact (ai rfl (ai (ai rfl (fun _ _=>rfl)) (ai (ai rfl (fun _ _=>rfl)) (ai rfl (fun _ _=>rfl)))))) (ai trivial (ai (ho) ?_)))))))
 refine bD (p:=kS c=0) (bU (by omega)) (fun h1=>?_) (fun h1=>?_)
 ·have e:gy c=[]:=by
   unfold gy iT
   unfold kS at h1
   split
   ·rename_i h
    rw[if_pos h] at h1
    cases ee:pJ c with
    | none=>rfl
    | some l=>rw[ee] at h1;exact absurd rfl h1
   ·rfl
  refine ai (ai (fun h=>absurd (show false=true from h) (by decide)) ?_) trivial
  show ak _ (nY c)
  rw[nY,e]
  exact (ai rfl rfl)
 obtain ⟨hc,hx⟩:=qI h1
 obtain ⟨hg,hl,hw⟩:=qd h1
 have h24:=(iG hc).2.2.1.2
 have hA:nY c=.tup [bbP (iC (gy c)),iP 0]:=by unfold nY;rw[h1]
 have hml:(gy c).length=(iT c).length:=anB _
 have htk:∀k,k<(iT c).length→(gy c).take (k+1)=(gy c).take k++[((iT c).getD k ay).1]:=fun k hk=>by
  rw[aS [] (by omega)]
  congr 2
  unfold gy
  rw[aaI,aaI,alr,aaQ hk];rfl
 refine ei (bF.inv { X:=Nat,up:=fun k=>[(21,.s (iA k)),(7,bbR ((gy c).take k))],uo:=fun k=>[],inv:=fun k=>k≤(iT c).length∧(True),meas:=fun k=>(iT c).length-k,x0:=0 }) ?_
 refine ai (ai (ai (by exact (a4 (ai rfl rfl))) (ai (by exact (ai (ai (ai (fun _=>rfl) (iE (by simp only[zz,reduceCtorEq];rfl))) rfl) rfl)) (by exact trivial))) rfl) (ai (ai (aeu _) ?_) ?_)
 ·trivial
 intro (k:Nat) ⟨hk,_⟩
 have hkl:((gy c).take k).length=k:=by rw[aiN];omega
 refine ah (p:=k<(iT c).length) (au (by omega)) (fun h2=>?_) (fun h2=>?_)
 ·refine ai (ai (aa1 _) (iN (n:=(iT c).length) (by omega))) (ai rfl ?_)
  refine ei (fQ ((iT c).getD k ay).1) (ai (acG _) ?_)
  have hgk:=hg _ (acI (bI ay h2))
  refine ei _ (ai (al1) (ei ((c,((iT c).getD k ay).1)) (ei [] (ai (a4 (ai (fun _=>Or.inl rfl) (ai nof (Or.inl rfl)))) (ai (by exact (ai (ai rfl (ai (ai rfl (fun _ _=>rfl)) (ai (ai rfl (fun _ _=>rfl)) (ai rfl (fun _ _=>rfl))))) (ai rfl (fun _ _=>rfl)))) (ai trivial (ai (⟨h24,hgk.1⟩) ?_)))))))
  refine ai (mxL (n:=((gy c).take k).length+1) (by omega) (by decide)) (ai (aI 1 rfl) ?_)
  refine ei (k+1) (ai (ai rfl rfl) (ai (ai (ai rfl (ai (ai rfl rfl) (ai (ai rfl rfl) (ai (ai (ai (ai (fun _=>rfl) (aO (by omega))) rfl) (ai rfl (ai rfl (ai ?_ ?_)))) trivial)))) rfl) (ai (ai (iL (by omega)) trivial) (iM (by omega)))))
  ·rw[htk k h2,aaG];rfl
  ·rw[htk k h2];exact aot _ _
 ·obtain rfl:k=(iT c).length:=by omega
  rw[show (gy c).take (iT c).length=gy c from asc (by omega)]
  refine ei _ (ai (alg c.sts.length (by omega)) (ei (gy c) (ei [1] (ai (ai rfl (ai rfl (ai rfl (ai rfl (ai nof (ai nof (Or.inl rfl))))))) (ai (by exact (ai rfl (ai rfl trivial))) (ai (by exact (ai rfl (ai rfl (ai rfl (fun _ _=>rfl))))) (ai (⟨by show (gy c).length≤1000000000;omega,fun x hx=>by obtain ⟨y,hy,rfl⟩:=arq.1 hx;exact (hg y hy).1⟩) ?_)))))))
  refine ai (ai (fun h=>absurd (show false=true from h) (by decide)) ?_) trivial
  show ak _ (nY c)
  rw[hA]
  exact (ai (ai rfl (fun _ _=>rfl)) rfl)
def aq1:Spec:=bR (fun a:List (Int)×List (Int)=>[isA a.1,isA a.2]) (fun a=>a.1.length≤1000000) (fun a=>bP (decide (a.1=a.2)))
theorem an6:aK Tryz.prog 59 aq1:=by
 refine aX (Tb:=tab) mixed aB Tryz.func59 rfl rfl ?_
 rintro (a:List (Int)×List (Int)) hpre
 refine ai (ai rfl (ai rfl rfl)) ?_
 have hl:a.1.length≤1000000:=hpre
 refine bD (p:=a.1.length=a.2.length) (bU (by omega)) (fun h1=>?_) (fun h1=>?_)
 ·refine ai (ai (fun _=>trivial) ?_) trivial
  show ak _ (bP (decide (a.1=a.2)))
  rw[decide_eq_false (fun h=>h1 (congrArg List.length h))]
  exact rfl
 refine ei (bF.inv { X:=Nat,up:=fun k=>[(13,.s (iA k))],uo:=fun k=>[],inv:=fun k=>k≤a.1.length∧(a.1.take k=a.2.take k),meas:=fun k=>a.1.length-k,x0:=0 }) ?_
 refine ai (ai (ai (by exact (a4 (ai rfl rfl))) (ai (by exact (ai (ai (fun _=>rfl) (iE (by simp only[zz,reduceCtorEq];rfl))) rfl)) (by exact trivial))) rfl) (ai (ai (aeu _) ?_) ?_)
 ·rfl
 intro (k:Nat) ⟨hk,hall⟩
 refine ah (p:=k<a.1.length) (au (by omega)) (fun h4=>?_) (fun h4=>?_)
 ·refine ei (.seq [0,1,2,3,4,5,6,7,8]) (ai (by kernel_rfl) ?_)
  refine ai (ai (aa1 _) (iN (n:=a.1.length) (by omega))) (ai rfl ?_)
  refine ai (ai (aa1 _) (iN (n:=a.2.length) (by omega))) (ai rfl ?_)
  refine bD (p:=a.1.getD k 0=a.2.getD k 0) (by exact bne_iff_ne) (fun h5=>?_) (fun h5=>?_)
  ·refine ai (ai (fun _=>trivial) ?_) trivial
   show ak _ (bP (decide (a.1=a.2)))
   rw[decide_eq_false (fun h=>h5 (by rw[h]))]
   exact rfl
  refine ei (k+1) (ai (ai rfl rfl) (ai (ai (ai rfl (ai (ai rfl rfl) (ai (ai rfl rfl) (ai (ai (ai (fun _=>rfl) (aO (by omega))) rfl) trivial)))) rfl) (ai (ai (iL (by omega)) ?_) (iM (by omega)))))
  exact aag 0 h4 (by omega) hall h5
 ·obtain rfl:k=a.1.length:=by omega
  rw[agN,h1,agN] at hall
  refine ai (ai (fun _=>trivial) ?_) trivial
  show ak _ (bP (decide (a.1=a.2)))
  rw[decide_eq_true hall]
  exact rfl
def ark:Spec:=bR (fun a:List (Bool)×List (Bool)=>[xQ a.1,xQ a.2]) (fun a=>a.1.length≤1000000) (fun a=>bP (decide (a.1=a.2)))
theorem aoe:aK Tryz.prog 37 ark:=by
 refine aX (Tb:=tab) mixed aB Tryz.func37 rfl rfl ?_
 rintro (a:List (Bool)×List (Bool)) hpre
 refine ai (ai rfl (ai rfl rfl)) ?_
 have hl:a.1.length≤1000000:=hpre
 refine bD (p:=a.1.length=a.2.length) (bU (by omega)) (fun h1=>?_) (fun h1=>?_)
 ·refine ai (ai (fun _=>trivial) ?_) trivial
  show ak _ (bP (decide (a.1=a.2)))
  rw[decide_eq_false (fun h=>h1 (congrArg List.length h))]
  exact rfl
 refine ei (bF.inv { X:=Nat,up:=fun k=>[(13,.s (iA k))],uo:=fun k=>[],inv:=fun k=>k≤a.1.length∧(a.1.take k=a.2.take k),meas:=fun k=>a.1.length-k,x0:=0 }) ?_
 refine ai (ai (ai (by exact (a4 (ai rfl rfl))) (ai (by exact (ai (ai (fun _=>rfl) (iE (by simp only[zz,reduceCtorEq];rfl))) rfl)) (by exact trivial))) rfl) (ai (ai (aeu _) ?_) ?_)
 ·rfl
 intro (k:Nat) ⟨hk,hall⟩
 refine ah (p:=k<a.1.length) (au (by omega)) (fun h4=>?_) (fun h4=>?_)
 ·refine ei (.seq [0,1,2,3,4,5,6,7,8]) (ai (by kernel_rfl) ?_)
  refine ai (ai (aa1 _) (iN (n:=a.1.length) (by omega))) (ai rfl ?_)
  refine ai (ai (aa1 _) (iN (n:=a.2.length) (by omega))) (ai rfl ?_)
  refine bD (p:=a.1.getD k false=a.2.getD k false) (by exact bne_iff_ne) (fun h5=>?_) (fun h5=>?_)
  ·refine ai (ai (fun _=>trivial) ?_) trivial
   show ak _ (bP (decide (a.1=a.2)))
   rw[decide_eq_false (fun h=>h5 (by rw[h]))]
   exact rfl
  refine ei (k+1) (ai (ai rfl rfl) (ai (ai (ai rfl (ai (ai rfl rfl) (ai (ai rfl rfl) (ai (ai (ai (fun _=>rfl) (aO (by omega))) rfl) trivial)))) rfl) (ai (ai (iL (by omega)) ?_) (iM (by omega)))))
  exact aag false h4 (by omega) hall h5
 ·obtain rfl:k=a.1.length:=by omega
  rw[agN,h1,agN] at hall
  refine ai (ai (fun _=>trivial) ?_) trivial
  show ak _ (bP (decide (a.1=a.2)))
  rw[decide_eq_true hall]
  exact rfl
theorem af0 (f:Nat→List PV) (k:Nat) {g:Nat→List PV} (hg:g 0=f k):∀j,j<k+1→bQ k f g j=f j:=by
 intro j hj
 unfold bQ
 by_cases h:j<k
 ·rw[if_pos h]
 ·obtain rfl:j=k:=by omega
  rw[if_neg h,ar8,hg]
def anc (c:aQ):Prop:=c.sts.length≤1000000∧c.trs.length≤1000000
def stF (c:aQ) (k:Nat):List PV:=stK (c.sts.getD k st0)
def trF (c:aQ) (k:Nat):List PV:=trK (c.trs.getD k aH)
theorem vO:aK Tryz.prog 14 (jq (fun c:aQ=>[kP c]) anc (fun c=>uO c)):=by
 refine aX (Tb:=tab) mixed aB Tryz.func14 rfl rfl ?_
 rintro (c:aQ) hpre
 refine ai (ai rfl (ai rfl rfl)) ?_
 obtain ⟨hs,ht⟩:=hpre
 have hs:c.sts.length≤1000000:=hs
 have ht:c.trs.length≤1000000:=ht
 refine ei (bF.inv { X:=Nat,up:=fun k=>[(16,.s (iA k))],uo:=fun k=>[⟨2,36,[.s (iA c.act),.s (.p false (ssP c.ins)),.rw 89 2 k (stF c),.s abg]⟩],inv:=fun k=>k≤c.sts.length∧(True),meas:=fun k=>c.sts.length-k,x0:=0 }) ?_
 refine ai (ai (ai (by exact (a4 (ai rfl rfl))) (ai ?_ ?_)) rfl) (ai (ai (aeu _) ?_) ?_)
 ·exact (ai (ai (fun _=>rfl) (iE (by simp only[zz,reduceCtorEq];rfl))) rfl)
 ·exact (ai (ai (ai (ai nof rfl) rfl) (ai (ai (ai nof (ai rfl (fun _ _=>rfl))) rfl) (ai rfl (ai (ai nof rfl) rfl)))) trivial)
 ·trivial
 intro (k:Nat) ⟨hk,_⟩
 refine ah (p:=k<c.sts.length) (au (by omega)) (fun h1=>?_) (fun h1=>?_)
 ·refine ai (ai (aa1 _) (iN (n:=c.sts.length) (by omega))) (ai rfl ?_)
  refine ai (mxL (n:=k+1) (by omega) (by decide)) (ai (lt1 rfl) ?_)
  refine ei (k+1) (ai (ai rfl rfl) (ai (ai (ai rfl (ai (ai rfl rfl) (ai (ai rfl rfl) (ai (ai (ai (fun _=>rfl) (aO (by omega))) rfl) (ai (ai (ai (ai nof rfl) rfl) (ai (ai (ai nof (ai rfl (fun _ _=>rfl))) rfl) (ai (ai rfl (ai rfl (ai rfl ?_))) (ai (ai nof rfl) rfl)))) trivial))))) rfl) (ai (ai (iL (by omega)) trivial) (iM (by omega)))))
  exact af0 (stF c) k rfl
 obtain rfl:k=c.sts.length:=by omega
 refine ei (bF.inv { X:=Nat,up:=fun k=>[(34,.s (iA k))],uo:=fun k=>[⟨2,36,[.s (iA c.act),.s (.p false (ssP c.ins)),.rw 89 2 c.sts.length (stF c),.rw 123 5 k (trF c)]⟩],inv:=fun k=>k≤c.trs.length∧(True),meas:=fun k=>c.trs.length-k,x0:=0 }) ?_
 refine ai (ai (ai (by exact (a4 (ai rfl rfl))) (ai ?_ ?_)) rfl) (ai (ai (aeu _) ?_) ?_)
 ·exact (ai (ai (fun _=>rfl) (iE (by simp only[zz,reduceCtorEq];rfl))) rfl)
 ·exact (ai (ai (ai (ai nof rfl) rfl) (ai (ai (ai nof (ai rfl (fun _ _=>rfl))) rfl) (ai (ai rfl (ai rfl (ai rfl (fun _ _=>rfl)))) rfl))) trivial)
 ·trivial
 intro (k:Nat) ⟨hk,_⟩
 refine ah (p:=k<c.trs.length) (au (by omega)) (fun h1=>?_) (fun h1=>?_)
 ·refine ai (ai (aa1 _) (iN (n:=c.trs.length) (by omega))) (ai rfl ?_)
  refine ai (mxL (n:=k+1) (by omega) (by decide)) (ai (lt1 rfl) ?_)
  refine ei (k+1) (ai (ai rfl rfl) (ai (ai (ai rfl (ai (ai rfl rfl) (ai (ai rfl rfl) (ai (ai (ai (fun _=>rfl) (aO (by omega))) rfl) (ai (ai (ai (ai nof rfl) rfl) (ai (ai (ai nof (ai rfl (fun _ _=>rfl))) rfl) (ai (ai rfl (ai rfl (ai rfl (fun _ _=>rfl)))) (ai rfl (ai rfl (ai rfl ?_)))))) trivial))))) rfl) (ai (ai (iL (by omega)) trivial) (iM (by omega)))))
  exact af0 (trF c) k rfl
 obtain rfl:k=c.trs.length:=by omega
 refine ai (ai (fun h=>absurd (show false=true from h) (by decide)) ?_) trivial
 show ak _ (uO c)
 rw[show uO c=.agg [iP c.act,ssP c.ins,.seq c.sts.length (stF c),.seq c.trs.length (trF c)] from rfl]
 exact (ai rfl (ai (ai rfl (fun _ _=>rfl)) (ai (ai rfl (fun _ _=>rfl)) (ai rfl (fun _ _=>rfl)))))
def bbA (l:List (List Bool)):SV:=.p false (bbP l)
def acT (l:List (List Bool)):Prop:=l.length≤1000000∧∀m∈l,m.length≤1000000
theorem ajz:aK Tryz.prog 33 (bR (fun a:List (List Bool)×List (List Bool)=>[bbA a.1,bbA a.2]) (fun a=>acT a.1) (fun a=>bP (decide (a.1=a.2)))):=by
 refine aX (Tb:=tab) mixed aB Tryz.func33 rfl rfl ?_
 rintro (a:List (List Bool)×List (List Bool)) hpre
 refine ai (ai rfl (ai rfl rfl)) ?_
 obtain ⟨hl,hm⟩:=hpre
 have hl:a.1.length≤1000000:=hl
 refine bD (p:=a.1.length=a.2.length) (bU (by omega)) (fun h1=>?_) (fun h1=>?_)
 ·refine ai (ai (fun _=>trivial) ?_) trivial
  show ak _ (bP (decide (a.1=a.2)))
  rw[decide_eq_false (fun h=>h1 (congrArg List.length h))]
  exact rfl
 refine ei (bF.inv { X:=Nat,up:=fun k=>[(5,.s (iA k))],uo:=fun k=>[],inv:=fun k=>k≤a.1.length∧(a.1.take k=a.2.take k),meas:=fun k=>a.1.length-k,x0:=0 }) ?_
 refine ai (ai (ai (by exact (a4 (ai rfl rfl))) (ai (by exact (ai (ai (fun _=>rfl) (iE (by simp only[zz,reduceCtorEq];rfl))) rfl)) (by exact trivial))) rfl) (ai (ai (aeu _) ?_) ?_)
 ·rfl
 intro (k:Nat) ⟨hk,hall⟩
 refine ah (p:=k<a.1.length) (au (by omega)) (fun h4=>?_) (fun h4=>?_)
 ·refine ei (.seq [0,1,2,3,4,5,6,7,8,9]) (ai (by kernel_rfl) ?_)
  refine ai (ai (aa1 _) (iN (n:=a.1.length) (by omega))) (ai rfl ?_)
  refine ai (ai (aa1 _) (iN (n:=a.2.length) (by omega))) (ai rfl ?_)
  refine ei _ (ai (ane) (ei ((a.1.getD k [],a.2.getD k [])) (ei [] (ai (a4 (ai (fun _=>Or.inl rfl) (ai nof (Or.inl rfl)))) (ai (by exact (ai (ai rfl (fun _ _=>rfl)) (ai rfl (fun _ _=>rfl)))) (ai trivial (ai (hm _ (acI (bI [] h4))) ?_)))))))
  refine bD (p:=a.1.getD k []=a.2.getD k []) (by (show (!decide (a.1.getD k []=a.2.getD k []))=true↔_;simp)) (fun h5=>?_) (fun h5=>?_)
  ·refine ai (ai (fun _=>trivial) ?_) trivial
   show ak _ (bP (decide (a.1=a.2)))
   rw[decide_eq_false (fun h=>h5 (by rw[h]))]
   exact rfl
  refine ei (k+1) (ai (ai rfl rfl) (ai (ai (ai rfl (ai (ai rfl rfl) (ai (ai rfl rfl) (ai (ai (ai (fun _=>rfl) (aO (by omega))) rfl) trivial)))) rfl) (ai (ai (iL (by omega)) ?_) (iM (by omega)))))
  exact aag [] h4 (by omega) hall h5
 ·obtain rfl:k=a.1.length:=by omega
  rw[agN,h1,agN] at hall
  refine ai (ai (fun _=>trivial) ?_) trivial
  show ak _ (bP (decide (a.1=a.2)))
  rw[decide_eq_true hall]
  exact rfl
def amS:Spec:=bR (fun a:List Bool×List Bool=>[xQ a.1,.p false (.pt [mJ a.2] 0)]) (fun a=>a.1.length≤1000000) (fun a=>bP (decide (a.1=a.2)))
theorem ape:aK Tryz.prog 36 amS:=by
 refine aX (Tb:=tab) mixed aB Tryz.func36 rfl rfl ?_
 rintro (a:List Bool×List Bool) hpre
 refine ai (ai rfl (ai rfl rfl)) ?_
 refine ei _ (ai (aoe) (ei ((a.1,a.2)) (ei [] (ai (a4 (ai (fun _=>Or.inl rfl) (ai nof (Or.inl rfl)))) (ai (by exact (ai (ai rfl (fun _ _=>rfl)) (ai rfl (fun _ _=>rfl)))) (ai trivial (ai (hpre) ?_)))))))
 refine ai (ai (fun _=>trivial) ?_) trivial
 exact rfl
def tY (l:List (List Bool)) (m:List Bool):Bool:=l.any fun x=>decide (x=m)
def af3 (a:List (List Bool)×List Bool):Prop:=acT a.1
theorem aob {g:Nat} (hg:aK Tryz.prog g amS):aK Tryz.prog 105 (bR (fun a:List (List Bool)×List Bool=>[bbA a.1,.p false (.fn g [.pt [mJ a.2] 0])]) af3 (fun a=>iP (gJ (fun x=>decide (x=a.2)) a.1))):=by
 refine aX (Tb:=tab) mixed aB Tryz.func105 rfl rfl ?_
 rintro (a:List (List Bool)×List Bool) hpre
 refine ai (ai rfl (ai rfl rfl)) ?_
 obtain ⟨hl,hx⟩:=hpre
 have hl:a.1.length≤1000000:=hl
 refine ei (bF.inv { X:=Nat,up:=fun k=>[(8,.s (iA k))],uo:=fun k=>[],inv:=fun k=>k≤a.1.length∧(∀y∈a.1.take k,decide (y=a.2)=false),meas:=fun k=>a.1.length-k,x0:=0 }) ?_
 refine ai (ai (ai (by exact (a4 (ai rfl rfl))) (ai (by exact (ai (ai (fun _=>rfl) (iE (by simp only[zz,reduceCtorEq];rfl))) rfl)) (by exact trivial))) rfl) (ai (ai (aeu _) ?_) ?_)
 ·exact fun y hy=>absurd hy (by simp)
 intro (k:Nat) ⟨hk,hall⟩
 refine ah (p:=k<a.1.length) (au (by omega)) (fun h1=>?_) (fun h1=>?_)
 ·refine ai (ai (aa1 _) (iN (n:=a.1.length) (by omega))) (ai rfl ?_)
  refine ei _ (ai (hg) (ei ((a.1.getD k [],a.2)) (ei [] (ai (a4 (ai (fun _=>Or.inl rfl) (ai nof (Or.inl rfl)))) (ai (by exact (ai (ai rfl (fun _ _=>rfl)) (ai rfl rfl))) (ai trivial (ai (hx _ (acI (bI [] h1))) ?_)))))))
  refine aZ (b:=decide (a.1.getD k []=a.2)) rfl (fun h2=>?_) (fun h2=>?_)
  ·refine ai (ai (fun _=>trivial) ?_) trivial
   show ak _ (iP (gJ (fun x=>decide (x=a.2)) a.1))
   rw[mZ (d:=[]) h1 h2 hall]
   exact rfl
  refine ei (k+1) (ai (ai rfl rfl) (ai (ai (ai rfl (ai (ai rfl rfl) (ai (ai rfl rfl) (ai (ai (ai (fun _=>rfl) (aO (by omega))) rfl) trivial)))) rfl) (ai (ai (iL (by omega)) ?_) (iM (by omega)))))
  intro y hy
  rw[aS [] h1] at hy
  rcases aia.1 hy with hy | hy
  ·exact hall y hy
  ·simp only[ag4] at hy;subst hy;exact h2
 ·obtain rfl:k=a.1.length:=by omega
  rw[agN] at hall
  refine ai (ai (fun _=>trivial) ?_) trivial
  show ak _ (iP (gJ (fun x=>decide (x=a.2)) a.1))
  rw[oK hall]
  exact rfl
theorem aoU {g:Nat} (hg:aK Tryz.prog g amS):aK Tryz.prog 35 (bR (fun a:List (List Bool)×List Bool=>[bbA a.1,.p false (.fn g [.pt [mJ a.2] 0])]) af3 (fun a=>bP (tY a.1 a.2))):=by
 refine aX (Tb:=tab) mixed aB Tryz.func35 rfl rfl ?_
 rintro (a:List (List Bool)×List Bool) hpre
 refine ai (ai rfl (ai rfl rfl)) ?_
 refine ei _ (ai ((aob hg)) (ei (a) (ei [] (ai (a4 (ai (fun _=>Or.inl rfl) (ai nof (Or.inl rfl)))) (ai (by exact (ai (ai rfl (fun _ _=>rfl)) (ai rfl rfl))) (ai trivial (ai (hpre) ?_)))))))
 refine ai (ai (fun _=>trivial) ?_) trivial
 show ak _ (bP (tY a.1 a.2))
 rw[show tY a.1 a.2=decide (0≤gJ (fun x=>decide (x=a.2)) a.1) from (mK (fun x=>decide (x=a.2)) a.1).symm]
 exact rfl
def arK:Spec:={ A:=List (List Bool)×List Bool,args:=fun a=>[xQ a.2,.own 0 0],objs:=fun a=>[.cells 62 [bbA a.1]],pre:=fun a=>af3 a,res:=fun a=>bP (tY a.1 a.2),objs':=fun _=>[],fresh:=true,ro:=1 }
theorem ala:aK Tryz.prog 34 arK:=by
 refine iY [3000005] ?_
 refine aX (Tb:=tab) mixed aB Tryz.func34 rfl rfl ?_
 rintro (a:List (List Bool)×List Bool) hpre
 refine ai (ai rfl (ai rfl rfl)) ?_
 refine ei _ (ai ((aoU ape)) (ei (a) (ei [] (ai (a4 (ai (fun _=>Or.inl rfl) (ai nof (Or.inl rfl)))) (ai (by exact (ai (ai rfl (fun _ _=>rfl)) (ai rfl rfl))) (ai trivial (ai (hpre) ?_)))))))
 refine ai (ai (fun _=>trivial) ?_) trivial
 exact rfl
def alC (a:List Bool×List Int):Prop:=iK a.1.length a.2∧a.2.length≤1000000
theorem aos:aK Tryz.prog 39 { A:=List Bool×Int,args:=fun a=>[iA a.2,.own 0 0],objs:=fun a=>[.cells 72 [xQ a.1]],pre:=fun a=>0≤a.2∧a.2<a.1.length,res:=fun a=>bP (!gL a.1 a.2),objs':=fun _=>[],fresh:=true,ro:=1 }:=by
 refine aX (Tb:=tab) mixed aB Tryz.func39 rfl rfl ?_
 rintro (a:List Bool×Int) hpre
 refine ai (ai rfl (ai rfl rfl)) ?_
 have h1:0≤a.2:=hpre.1
 have h2:a.2<a.1.length:=hpre.2
 refine ai ⟨h1,h2⟩ (ai rfl ?_)
 refine ai (ai (fun _=>trivial) ?_) trivial
 exact rfl
theorem aoc:aK Tryz.prog 106 { A:=List Bool×List Int,args:=fun a=>[isA a.2,.fn 39 [.own 0 0]],objs:=fun a=>[.cells 72 [xQ a.1]],pre:=fun a=>alC a,res:=fun a=>iP (gJ (fun k=>!gL a.1 k) a.2),objs':=fun _=>[],fresh:=true,ro:=1 }:=by
 refine aX (Tb:=tab) mixed aB Tryz.func106 rfl rfl ?_
 rintro (a:List Bool×List Int) hpre
 refine ai (ai rfl (ai rfl rfl)) ?_
 obtain ⟨hx,hl⟩:=hpre
 have hl:a.2.length≤1000000:=hl
 refine ei (bF.inv { X:=Nat,up:=fun k=>[(8,.s (iA k))],uo:=fun k=>[],inv:=fun k=>k≤a.2.length∧(∀y∈a.2.take k,(!gL a.1 y)=false),meas:=fun k=>a.2.length-k,x0:=0 }) ?_
 refine ai (ai (ai (by exact (a4 (ai rfl rfl))) (ai (by exact (ai (ai (fun _=>rfl) (iE (by simp only[zz,reduceCtorEq];rfl))) rfl)) (by exact trivial))) rfl) (ai (ai (aeu _) ?_) ?_)
 ·exact fun y hy=>absurd hy (by simp)
 intro (k:Nat) ⟨hk,hall⟩
 refine ah (p:=k<a.2.length) (au (by omega)) (fun h1=>?_) (fun h1=>?_)
 ·refine ai (ai (aa1 _) (iN (n:=a.2.length) (by omega))) (ai rfl ?_)
  refine ei _ (ai (aos) (ei ((a.1,a.2.getD k 0)) (ei [0] (ai (a4 (ai (fun _=>Or.inl rfl) (ai nof (Or.inl rfl)))) (ai (by exact (ai (iE (by simp only[zz,reduceCtorEq])) (ai rfl rfl))) (ai (by exact (ai rfl (ai rfl (fun _ _=>rfl)))) (ai (oL hx h1) ?_)))))))
  refine aZ (b:=!gL a.1 (a.2.getD k 0)) rfl (fun h2=>?_) (fun h2=>?_)
  ·refine ai (ai (fun _=>trivial) ?_) trivial
   show ak _ (iP (gJ (fun k=>!gL a.1 k) a.2))
   rw[mZ (d:=0) h1 h2 hall]
   exact rfl
  refine ei (k+1) (ai (ai rfl rfl) (ai (ai (ai rfl (ai (ai rfl rfl) (ai (ai rfl rfl) (ai (ai (ai (fun _=>rfl) (aO (by omega))) rfl) trivial)))) rfl) (ai (ai (iL (by omega)) ?_) (iM (by omega)))))
  intro y hy
  rw[aS 0 h1] at hy
  rcases aia.1 hy with hy | hy
  ·exact hall y hy
  ·simp only[ag4] at hy;subst hy;exact h2
 ·obtain rfl:k=a.2.length:=by omega
  rw[agN] at hall
  refine ai (ai (fun _=>trivial) ?_) trivial
  show ak _ (iP (gJ (fun k=>!gL a.1 k) a.2))
  rw[oK hall]
  exact rfl
theorem aoK:aK Tryz.prog 38 { A:=List Bool×List Int,args:=fun a=>[isA a.2,.fn 39 [.own 0 0]],objs:=fun a=>[.cells 72 [xQ a.1]],pre:=fun a=>alC a,res:=fun a=>bP (!allM a.1 a.2),objs':=fun _=>[],fresh:=true,ro:=1 }:=by
 refine aX (Tb:=tab) mixed aB Tryz.func38 rfl rfl ?_
 rintro (a:List Bool×List Int) hpre
 refine ai (ai rfl (ai rfl rfl)) ?_
 refine ei _ (ai (aoc) (ei (a) (ei [0] (ai (a4 (ai (fun _=>Or.inl rfl) (ai nof (Or.inl rfl)))) (ai (by exact (ai (ai rfl (fun _ _=>rfl)) (ai rfl (ai rfl rfl)))) (ai (by exact (ai rfl (ai rfl (fun _ _=>rfl)))) (ai (hpre) ?_)))))))
 refine ai (ai (fun _=>trivial) ?_) trivial
 show ak _ (bP (!allM a.1 a.2))
 rw[(show (!allM a.1 a.2)=(a.2.any fun k=>!gL a.1 k) by unfold allM;simp[List.not_all_eq_any_not]).trans (mK (fun k=>!gL a.1 k) a.2).symm]
 exact rfl
def p9 (t:jK):Bool:=decide (t.fr.length≤40)&&(decide (t.to.length≤40)&&kX t.wh)
def iW (c:aQ):Bool:=(decide (c.ins.length≤40)&&(decide (c.sts.length≤60)&&decide (c.trs.length≤60)))&&((c.ins.all fun t=>decide (t.length≤100))&&((c.sts.all fun x=>decide (x.st.length≤40))&&((c.trs.all p9)&&((decide (c.sts.length≤7)&&decide (c.trs.length≤9))||decide (¬bE c=0)))))
theorem wX {c:aQ} (h:¬(c.ins.length≤40∧c.sts.length≤60∧c.trs.length≤60)):iW c=false:=by
 unfold iW
 rw[←ata,←ata,decide_eq_false h,anZ]
theorem amK {c:aQ} (h:∃x∈c.ins,¬x.length≤100):iW c=false:=by
 obtain ⟨x,hx,h⟩:=h
 unfold iW
 rw[show (c.ins.all fun t=>decide (t.length≤100))=false from arz.2 ⟨x,hx,by simpa using h⟩,anZ,ap2]
theorem af4 {c:aQ} (h:∃x∈c.sts,¬x.st.length≤40):iW c=false:=by
 obtain ⟨x,hx,h⟩:=h
 unfold iW
 rw[show (c.sts.all fun x=>decide (x.st.length≤40))=false from arz.2 ⟨x,hx,by simpa using h⟩,anZ,ap2,ap2]
theorem wT {c:aQ} (h:∃x∈c.trs,p9 x=false):iW c=false:=by
 obtain ⟨x,hx,h⟩:=h
 unfold iW
 rw[show c.trs.all p9=false from arz.2 ⟨x,hx,by rw[h];decide⟩,anZ,ap2,ap2,ap2]
theorem amo {c:aQ} (h1:c.ins.length≤40∧c.sts.length≤60∧c.trs.length≤60) (h2:∀x∈c.ins,x.length≤100) (h3:∀x∈c.sts,x.st.length≤40) (h4:∀x∈c.trs,p9 x=true):iW c=((decide (c.sts.length≤7)&&decide (c.trs.length≤9))||decide (¬bE c=0)):=by
 unfold iW
 rw[←ata,←ata,decide_eq_true h1,ah3,show (c.ins.all fun t=>decide (t.length≤100))=true from alM.2 fun x hx=>decide_eq_true (h2 x hx),ah3,show (c.sts.all fun x=>decide (x.st.length≤40))=true from alM.2 fun x hx=>decide_eq_true (h3 x hx),ah3,alM.2 h4,ah3]
theorem alU {t:jK} (h:p9 t=true):t.fr.length≤40∧t.to.length≤40∧kX t.wh=true:=by
 unfold p9 at h
 rw[afF,afF] at h
 exact ⟨of_decide_eq_true h.1,of_decide_eq_true h.2.1,h.2.2⟩
theorem ag5 {c:aQ} (h1:c.ins.length≤40∧c.sts.length≤60∧c.trs.length≤60) (h3:∀x∈c.sts,x.st.length≤40) (h4:∀x∈c.trs,p9 x=true):jr c:=by
 refine ⟨fun s hs=>?_,fun t ht=>?_⟩
 ·have:=h3 s hs;omega
 ·obtain ⟨h5,h6,h7⟩:=alU (h4 t ht)
  have:=akV h7
  exact ⟨by omega,by omega,by omega⟩
theorem aqK (x:Int):decide (¬x=0)=(x != 0):=by
 by_cases h:x=0
 ·subst h;rfl
 ·rw[decide_eq_true h];exact (bne_iff_ne.2 h).symm
theorem anf:aK Tryz.prog 11 (bR (fun c:aQ=>[kP c]) (fun _=>True) (fun c=>bP (iW c))):=by
 refine aX (Tb:=tab) mixed aB Tryz.func11 rfl rfl ?_
 rintro (c:aQ) hpre
 refine ai (ai rfl (ai rfl rfl)) ?_
 refine ah (p:=40<c.ins.length) (au (by omega)) (fun h1=>?_) (fun h1=>?_)
 ·refine ai (ai (fun _=>trivial) ?_) trivial
  show ak _ (bP (iW c))
  rw[wX (fun h=>absurd h.1 (by omega))]
  exact rfl
 refine ah (p:=60<c.sts.length) (au (by omega)) (fun h2=>?_) (fun h2=>?_)
 ·refine ai (ai (fun _=>trivial) ?_) trivial
  show ak _ (bP (iW c))
  rw[wX (fun h=>absurd h.2.1 (by omega))]
  exact rfl
 refine ah (p:=60<c.trs.length) (au (by omega)) (fun h3=>?_) (fun h3=>?_)
 ·refine ai (ai (fun _=>trivial) ?_) trivial
  show ak _ (bP (iW c))
  rw[wX (fun h=>absurd h.2.2 (by omega))]
  exact rfl
 have hs1:c.ins.length≤40∧c.sts.length≤60∧c.trs.length≤60:=⟨by omega,by omega,by omega⟩
 refine ei (bF.inv { X:=Nat,up:=fun k=>[(3,.s (iA k))],uo:=fun k=>[],inv:=fun k=>k≤c.ins.length∧(∀y∈c.ins.take k,y.length≤100),meas:=fun k=>c.ins.length-k,x0:=0 }) ?_
 refine ai (ai (ai (by exact (a4 (ai rfl rfl))) (ai (by exact (ai (ai (fun _=>rfl) (iE (by simp only[zz,reduceCtorEq];rfl))) rfl)) (by exact trivial))) rfl) (ai (ai (aeu _) ?_) ?_)
 ·exact fun y hy=>absurd hy (by simp)
 intro (k:Nat) ⟨hk,hall⟩
 refine ah (p:=k<c.ins.length) (au (by omega)) (fun h4=>?_) (fun h4=>?_)
 ·refine ai (ai (aa1 _) (iN (n:=c.ins.length) (by omega))) (ai rfl ?_)
  have hz:=dI (c.ins.getD k [])
  refine ah (p:=100<(c.ins.getD k []).length) (by exact au (by show (100:Int)<((strOf (c.ins.getD k [])).size:Int)↔_;rw[hz];omega)) (fun h5=>?_) (fun h5=>?_)
  ·refine ai (ai (fun _=>trivial) ?_) trivial
   show ak _ (bP (iW c))
   rw[amK ⟨_,acI (bI [] h4),by omega⟩]
   exact rfl
  refine ei (k+1) (ai (ai rfl rfl) (ai (ai (ai rfl (ai (ai rfl rfl) (ai (ai rfl rfl) (ai (ai (ai (fun _=>rfl) (aO (by omega))) rfl) trivial)))) rfl) (ai (ai (iL (by omega)) ?_) (iM (by omega)))))
  intro y hy
  rw[aS [] h4] at hy
  rcases aia.1 hy with hy | hy
  ·exact hall y hy
  ·simp only[ag4] at hy;subst hy;omega
 obtain rfl:k=c.ins.length:=by omega
 rw[agN] at hall
 have hins:=hall
 clear hall
 refine ei (bF.inv { X:=Nat,up:=fun k=>[(4,.s (iA k))],uo:=fun k=>[],inv:=fun k=>k≤c.sts.length∧(∀y∈c.sts.take k,y.st.length≤40),meas:=fun k=>c.sts.length-k,x0:=0 }) ?_
 refine ai (ai (ai (by exact (a4 (ai rfl rfl))) (ai (by exact (ai (ai (fun _=>rfl) (iE (by simp only[zz,reduceCtorEq];rfl))) rfl)) (by exact trivial))) rfl) (ai (ai (aeu _) ?_) ?_)
 ·exact fun y hy=>absurd hy (by simp)
 intro (k:Nat) ⟨hk,hall⟩
 refine ah (p:=k<c.sts.length) (au (by omega)) (fun h4=>?_) (fun h4=>?_)
 ·refine ai (ai (aa1 _) (iN (n:=c.sts.length) (by omega))) (ai rfl ?_)
  refine ah (p:=40<(c.sts.getD k st0).st.length) (by simp only[zz,reduceCtorEq];omega) (fun h5=>?_) (fun h5=>?_)
  ·refine ai (ai (fun _=>trivial) ?_) trivial
   show ak _ (bP (iW c))
   rw[af4 ⟨_,acI (bI st0 h4),by omega⟩]
   exact rfl
  refine ei (k+1) (ai (ai rfl rfl) (ai (ai (ai rfl (ai (ai rfl rfl) (ai (ai rfl rfl) (ai (ai (ai (fun _=>rfl) (aO (by omega))) rfl) trivial)))) rfl) (ai (ai (iL (by omega)) ?_) (iM (by omega)))))
  intro y hy
  rw[aS st0 h4] at hy
  rcases aia.1 hy with hy | hy
  ·exact hall y hy
  ·simp only[ag4] at hy;subst hy;omega
 obtain rfl:k=c.sts.length:=by omega
 rw[agN] at hall
 have hsts:=hall
 clear hall
 refine ei (bF.inv { X:=Nat,up:=fun k=>[(5,.s (iA k))],uo:=fun k=>[],inv:=fun k=>k≤c.trs.length∧(∀y∈c.trs.take k,p9 y=true),meas:=fun k=>c.trs.length-k,x0:=0 }) ?_
 refine ai (ai (ai (by exact (a4 (ai rfl rfl))) (ai (by exact (ai (ai (fun _=>rfl) (iE (by simp only[zz,reduceCtorEq];rfl))) rfl)) (by exact trivial))) rfl) (ai (ai (aeu _) ?_) ?_)
 ·exact fun y hy=>absurd hy (by simp)
 intro (k:Nat) ⟨hk,hall⟩
 refine ah (p:=k<c.trs.length) (au (by omega)) (fun h4=>?_) (fun h4=>?_)
 ·refine ai (ai (aa1 _) (iN (n:=c.trs.length) (by omega))) (ai rfl ?_)
  refine ah (p:=40<(c.trs.getD k aH).fr.length) (by simp only[zz,reduceCtorEq];omega) (fun h5=>?_) (fun h5=>?_)
  ·refine ai (ai (fun _=>trivial) ?_) trivial
   show ak _ (bP (iW c))
   rw[wT ⟨_,acI (bI aH h4),by unfold p9;rw[decide_eq_false (by omega),anZ]⟩]
   exact rfl
  refine ah (p:=40<(c.trs.getD k aH).to.length) (by simp only[zz,reduceCtorEq];omega) (fun h6=>?_) (fun h6=>?_)
  ·refine ai (ai (fun _=>trivial) ?_) trivial
   show ak _ (bP (iW c))
   rw[wT ⟨_,acI (bI aH h4),by unfold p9;rw[decide_eq_false (p:=(c.trs.getD k aH).to.length≤40) (by omega),anZ,ap2]⟩]
   exact rfl
  refine ei _ (ai (aqM) (ei ((c.trs.getD k aH).wh) (ei [] (ai (a4 (ai (fun _=>Or.inl rfl) (ai nof (Or.inl rfl)))) (ai (by exact (ai (iE (by simp only[zz,reduceCtorEq])) (ai (iE (by simp only[zz,reduceCtorEq])) (ai rfl (fun _ _=>rfl))))) (ai trivial (ai (trivial) ?_)))))))
  refine aZ (b:=!kX (c.trs.getD k aH).wh) rfl (fun h7=>?_) (fun h7=>?_)
  ·have h7:kX (c.trs.getD k aH).wh=false:=by simpa using h7
   refine ai (ai (fun _=>trivial) ?_) trivial
   show ak _ (bP (iW c))
   rw[wT ⟨_,acI (bI aH h4),by unfold p9;rw[h7,ap2,ap2]⟩]
   exact rfl
  have h7:kX (c.trs.getD k aH).wh=true:=by simpa using h7
  refine ei (k+1) (ai (ai rfl rfl) (ai (ai (ai rfl (ai (ai rfl rfl) (ai (ai rfl rfl) (ai (ai (ai (fun _=>rfl) (aO (by omega))) rfl) trivial)))) rfl) (ai (ai (iL (by omega)) ?_) (iM (by omega)))))
  intro y hy
  rw[aS aH h4] at hy
  rcases aia.1 hy with hy | hy
  ·exact hall y hy
  ·simp only[ag4] at hy;subst hy;unfold p9;rw[decide_eq_true (by omega),decide_eq_true (by omega),h7];rfl
 obtain rfl:k=c.trs.length:=by omega
 rw[agN] at hall
 have hy:=amo hs1 hins hsts hall
 have ho:=ag5 hs1 hsts hall
 refine ah (p:=c.sts.length≤7) (cu (by omega)) (fun h4=>?_) (fun h4=>?_)
 ·refine ah (p:=c.trs.length≤9) (cu (by omega)) (fun h5=>?_) (fun h5=>?_)
  ·refine ai (ai (fun _=>trivial) ?_) trivial
   show ak _ (bP (iW c))
   rw[hy,decide_eq_true h4,decide_eq_true h5,ah3,alq]
   exact rfl
  ·refine ei _ (ai (adk) (ei (c) (ei [] (ai (a4 (ai (fun _=>Or.inl rfl) (ai nof (Or.inl rfl)))) (ai (by exact (ai rfl (ai (ai rfl (fun _ _=>rfl)) (ai (ai rfl (fun _ _=>rfl)) (ai rfl (fun _ _=>rfl)))))) (ai trivial (ai (ho) ?_)))))))
   refine ai (ai (fun _=>trivial) ?_) trivial
   show ak _ (bP (iW c))
   rw[hy,decide_eq_false h5,ap2,apE,aqK (bE c)]
   exact rfl
 ·refine ei _ (ai (adk) (ei (c) (ei [] (ai (a4 (ai (fun _=>Or.inl rfl) (ai nof (Or.inl rfl)))) (ai (by exact (ai rfl (ai (ai rfl (fun _ _=>rfl)) (ai (ai rfl (fun _ _=>rfl)) (ai rfl (fun _ _=>rfl)))))) (ai trivial (ai (ho) ?_)))))))
  refine ai (ai (fun _=>trivial) ?_) trivial
  show ak _ (bP (iW c))
  rw[hy,decide_eq_false h4,anZ,apE,aqK (bE c)]
  exact rfl
theorem aoA {c:aQ} (h:iW c=true):jr c∧anc c∧c.ins.length≤1000000:=by
 by_cases h1:c.ins.length≤40∧c.sts.length≤60∧c.trs.length≤60
 ·by_cases h3:∀x∈c.sts,x.st.length≤40
  ·by_cases h4:∀x∈c.trs,p9 x=true
   ·exact ⟨ag5 h1 h3 h4,⟨by omega,by omega⟩,by omega⟩
   ·simp only[Classical.not_forall] at h4
    obtain ⟨x,hx,h4⟩:=h4
    rw[wT ⟨x,hx,by simpa using h4⟩] at h;cases h
  ·simp only[Classical.not_forall] at h3
   obtain ⟨x,hx,h3⟩:=h3
   rw[af4 ⟨x,hx,h3⟩] at h;cases h
 ·rw[wX h1] at h;cases h
def p10:Array Value:=(Lib.pow10Tab.map fun z=>Value.int .u64 z).toArray
def glP:List (Nat×Array Value):=[(0,p10)]
def fnG {α:Type} (args:α→List SV) (pre:α→Prop) (res:α→PV):Spec:={ A:=α,args:=args,objs:=fun _=>[],pre:=pre,res:=res,objs':=fun _=>[],fresh:=true,ro:=0,gl:=glP }
theorem arH {w:World} (h:∀p∈glP,∃T fr,w.heap[p.1]?=some (.cells p.2 T fr)):Lib.TabIs Tryz.prog w "internal/strconv.uint64pow10" .u64 Lib.pow10Tab:=by
 obtain ⟨T,fr,hw⟩:=h _ (ag4.2 rfl)
 have hg:Tryz.prog.globalNamed "internal/strconv.uint64pow10"=some 0:=by kernel_rfl
 show World.var? _ w _=_
 unfold World.var?
 rw[hg]
 show (match w.heap[0]? with | some (.cells cs _ _)=>some cs | _=>none)=_
 rw[show w.heap[0]?=some (.cells p10 T fr) from hw]
 rfl
theorem agT:aK Tryz.prog 79 (fnG (fun n:Nat=>[iA n]) (fun n=>n≤1000000) (fun n=>sP (dec n))):=
 ahO (gl:=glP) Tryz.func79 rfl rfl (vals:=fun n:Nat=>[.int .i64 n]) (pre:=fun n=>n≤1000000) (ret:=fun n=>.string (strOf (dec n))) (fun _ _=>rfl) fun n hn w h=>by
  refine (Tryz.strconv_Itoa n (by omega) (by have:n≤1000000:=hn;omega) w (arH h)).mono fun e w' hh=>?_
  obtain ⟨h1,k,os,rfl⟩:=hh
  refine ⟨?_,?_⟩
  ·rw[h1]
   have:Lib.itoa (n:Int)=dec n:=by unfold Lib.itoa;rw[if_neg (by omega)];rfl
   rw[this];rfl
  ·exact ⟨rfl,rfl,rfl,by simp[Sort.grow],fun k hk=>by rw[Sort.heap_grow_old _ _ (by exact hk)];rfl⟩
def nU (x:Sk):List UInt8:=[UInt8.ofNat (65+x.1.toNat),if x.2 then 43 else 45]
theorem ajq:aK Tryz.prog 138 (bR (fun x:Sk=>[skA x]) (fun x=>0≤x.1∧x.1<6) (fun x=>sP (nU x))):=by
 refine aX (Tb:=tab) mixed aB Tryz.func138 rfl rfl ?_
 rintro ⟨n,b⟩ hpre
 refine ai (ai rfl (ai rfl rfl)) ?_
 obtain ⟨h0,h6⟩:=hpre
 have h0:0≤n:=h0
 have h6:n<6:=h6
 obtain ⟨d,rfl⟩:∃d:Nat,n=(d:Int):=⟨n.toNat,by omega⟩
 have hv:IntKind.i32.wrap (IntKind.i64.wrap (65+(d:Int)))=((65+d:Nat):Int):=by
  rw[wrI (n:=65+(d:Int)) (by omega) (by omega)]
  simp[IntKind.wrap,IntKind.bits,IntKind.signed]<;>omega
 refine ai (by show 0≤IntKind.i32.wrap (IntKind.i64.wrap (65+(d:Int)))∧IntKind.i32.wrap (IntKind.i64.wrap (65+(d:Int)))<128;rw[hv];omega) ?_
 have hx:(⟨#[UInt8.ofNat (IntKind.i32.wrap (IntKind.i64.wrap (65+(d:Int)))).toNat]⟩:ByteArray)=strOf [UInt8.ofNat (65+d)]:=by rw[hv];rfl
 have hxs:(((((⟨#[UInt8.ofNat (IntKind.i32.wrap (IntKind.i64.wrap (65+(d:Int)))).toNat]⟩:ByteArray)).size+1:Nat)):Int)≤9223372036854775807:=by rw[hx,dI];show ((1+1:Nat):Int)≤_;decide
 refine aZ (b:=b) rfl (fun h=>?_) (fun h=>?_)
 ·refine ai hxs ?_
  refine ai (ai (fun _=>trivial) ?_) trivial
  show ak _ (sP (nU ((d:Int),b)))
  rw[show nU ((d:Int),b)=[UInt8.ofNat (65+d)]++[43] by unfold nU;rw[h];rfl,show sP ([UInt8.ofNat (65+d)]++[43])=.val (.string ((⟨#[UInt8.ofNat (IntKind.i32.wrap (IntKind.i64.wrap (65+(d:Int)))).toNat]⟩:ByteArray)++strOf [43])) by rw[hx,eH];rfl]
  exact rfl
 ·refine ai hxs ?_
  refine ai (ai (fun _=>trivial) ?_) trivial
  show ak _ (sP (nU ((d:Int),b)))
  rw[show nU ((d:Int),b)=[UInt8.ofNat (65+d)]++[45] by unfold nU;rw[h];rfl,show sP ([UInt8.ofNat (65+d)]++[45])=.val (.string ((⟨#[UInt8.ofNat (IntKind.i32.wrap (IntKind.i64.wrap (65+(d:Int)))).toNat]⟩:ByteArray)++strOf [45])) by rw[hx,eH];rfl]
  exact rfl
def ac9 (x:Sk):Int:=if 0≤x.1∧x.1<6 then 0 else 2
theorem an2:aK Tryz.prog 137 (bR (fun x:Sk=>[skA x]) (fun _=>True) (fun x=>iP (ac9 x))):=by
 refine aX (Tb:=tab) mixed aB Tryz.func137 rfl rfl ?_
 rintro (x:Sk) hpre
 refine ai (ai rfl (ai rfl rfl)) ?_
 refine ei _ (ai (ad1) (ei (x.1) (ei [] (ai (a4 (ai (fun _=>Or.inl rfl) (ai nof (Or.inl rfl)))) (ai (by exact rfl) (ai trivial (ai (trivial) ?_)))))))
 refine aZ (b:=!(decide (0≤x.1)&&decide (x.1<6))) rfl (fun h=>?_) (fun h=>?_)
 ·have h:¬(0≤x.1∧x.1<6):=fun e=>by rw[decide_eq_true e.1,decide_eq_true e.2] at h;cases h
  refine ai (ai (fun _=>trivial) ?_) trivial
  show ak _ (iP (ac9 x))
  rw[ac9,if_neg h]
  exact rfl
 ·have h:0≤x.1∧x.1<6:=by
   have h:(decide (0≤x.1)&&decide (x.1<6))=true:=by simpa using h
   rw[afF] at h
   exact ⟨of_decide_eq_true h.1,of_decide_eq_true h.2⟩
  refine ai (ai (fun _=>trivial) ?_) trivial
  show ak _ (iP (ac9 x))
  rw[ac9,if_pos h]
  exact rfl
theorem agH:aK Tryz.prog 80 (jq (fun x:Sk=>[skA x]) (fun x=>0≤x.1∧x.1<6) (fun x=>.tup [sP (nU x),iP 0])):=by
 refine aX (Tb:=tab) mixed aB Tryz.func80 rfl rfl ?_
 rintro (x:Sk) hpre
 refine ai (ai rfl (ai rfl rfl)) ?_
 obtain ⟨h0,h6⟩:=hpre
 have h0:0≤x.1:=h0
 have h6:x.1<6:=h6
 refine ei _ (ai (an2) (ei (x) (ei [] (ai (a4 (ai (fun _=>Or.inl rfl) (ai nof (Or.inl rfl)))) (ai (by exact (ai rfl rfl)) (ai trivial (ai (trivial) ?_)))))))
 refine bD (p:=ac9 x=0) (bU (by omega)) (fun h=>?_) (fun h=>?_)
 ·exact absurd (if_pos ⟨h0,h6⟩) h
 refine ei _ (ai (ajq) (ei (x) (ei [] (ai (a4 (ai (fun _=>Or.inl rfl) (ai nof (Or.inl rfl)))) (ai (by exact (ai rfl rfl)) (ai trivial (ai (⟨h0,h6⟩) ?_)))))))
 refine ai (ai (fun _=>(by exact (ai trivial trivial))) ?_) trivial
 exact (ai rfl rfl)
def spI (l:List Int):List UInt8:=l.flatMap fun x=>dec x.toNat++[32]
theorem vH {n:Nat} (h:n<100):(dec n).length≤2:=by
 have:∀n:Fin 100,(Lib.decDigits n.1).length≤2:=by decide +kernel
 exact this ⟨n,h⟩
theorem apm {l:List Int} (h:iK 100 l):(spI l).length≤3*l.length:=by
 induction l with
 | nil=>simp[spI]
 | cons x l ih=>
  have h1:0≤x∧x<100:=h x (by simp)
  have h2:=ih fun y hy=>h y (by simp[hy])
  have h3:=vH (n:=x.toNat) (by omega)
  show ((dec x.toNat++[32])++spI l).length≤_
  simp only[aaG,aiC,anV];omega
theorem aM {μ:Nat→Option (Array Value)} {u v:Value} (h:aN μ u (.val v)):u=v:=by cases h;rfl
def apl (a:List (List UInt8)×List UInt8):Prop:=a.1.length≤1000000∧(Lib.join a.1 a.2).length≤140737488355328
theorem aoo:aK Tryz.prog 143 (bR (fun a:List (List UInt8)×List UInt8=>[ssA a.1,sA a.2]) apl (fun a=>sP (Lib.join a.1 a.2))):=by
 refine ⟨⟨_,Tryz.func143,rfl,rfl⟩,fun a hpre E vs w _ hh hA=>?_⟩
 obtain ⟨l,sep⟩:=a
 obtain ⟨hll,hpre⟩:=hpre
 have hll:l.length≤1000000:=hll
 have hpre:(Lib.join l sep).length≤140737488355328:=hpre
 obtain ⟨hsz,hA⟩:=hA
 have hsz:vs.size=2:=hsz
 have hp:∀{u:Value} {d:PV},aL E u (.p false d)→aN (E.m false) u d:=fun hx=>by cases hx with | p _ _ _ hp=>exact hp
 have h0:aN (E.m false) (vs[0]'(by omega)) (ssP l):=hp (hA 0 _ _ (adX (by omega)) rfl)
 have h1:vs[1]'(by omega)=.string (strOf sep):=aM (hp (hA 1 _ (sA sep) (adX (by omega)) rfl))
 have hvs:vs=#[vs[0]'(by omega),.string (strOf sep)]:=by
  apply asK
  intro k
  match k with
  | 0=>rw[adX (by omega)];rfl
  | 1=>rw[adX (by omega),h1];rfl
  | k+2=>rw[anG (by omega)];simp
 generalize hv0:vs[0]'(by omega)=v0 at *
 clear h1 hv0 hA
 subst hvs
 have key:∀{n:Nat} {f:Nat→List PV},aN (E.m false) v0 (.seq n f)→n=l.length→f=(fun k=>[sP (l.getD k [])])→Calls Tryz.prog 143 #[v0,.string (strOf sep)] w fun e w'=>e=.returned (.string (strOf (Lib.join l sep)))∧Go.RowKit.Below w.heap.size w w':=by
  intro n f h hn hf
  cases h with
  | nil=>
   obtain rfl:l=[]:=apC.1 hn.symm
   exact (Tryz.strings_Join_none none 0 (strOf sep) w).mono fun e w' ⟨h1,h2⟩=>by subst h2;exact ⟨h1,RowKit.Below.refl _ _⟩
  | emp a c=>
   obtain rfl:l=[]:=apC.1 hn.symm
   exact (Tryz.strings_Join_none (some a) c (strOf sep) w).mono fun e w' ⟨h1,h2⟩=>by subst h2;exact ⟨h1,RowKit.Below.refl _ _⟩
  | seq b o _ cap sz _ cs u hm hcap hmax hl hc he=>
   subst hn;subst hf
   obtain ⟨T,fr,hw⟩:=hh.mem _ _ hm
   have hcell:∀(j:Nat) x,(l.map strOf)[j]?=some x→w.cell? ⟨b,o+j,none⟩=some (.string x):=by
    intro j x hx
    rw[alr] at hx
    obtain ⟨y,hy,rfl⟩:=asg.1 hx
    have hj:j<l.length:=(aaY.1 hy).1
    have hg:l.getD j []=y:=by rw[aaI,hy];rfl
    have hs1:1=sz:=hl j hj
    subst hs1
    have h2:=hc j 0 (sP (l.getD j [])) hj rfl
    have h3:=aM (he j 0 (sP (l.getD j [])) hj rfl)
    rw[h3,hg] at h2
    have h4:=h2.1
    rw[apS,ar7] at h4
    simp[World.cell?,hw,h4]
   have e:(l.map strOf).map (·.data.toList)=l:=by
    rw[List.map_map]
    exact (List.map_congr_left fun x _=>rfl).trans (List.map_id l)
   have hb:b<w.heap.size:=by
    rcases arp b w.heap.size with h | h
    ·exact h
    ·rw[anG h] at hw;cases hw
   have:=Tryz.strings_Join b o cap (l.map strOf) (strOf sep) w hcell hb (by rw[anB];omega) (by rw[anB];exact hcap) (by rw[e];exact hpre)
   rw[anB,e] at this
   exact this.mono fun e w' ⟨h1,h2⟩=>⟨h1,h2⟩
 exact (key h0 rfl rfl).mono fun e w' ⟨he,hw⟩=>⟨_,E,he,.val _,hh.below hw⟩
def lZ (l:List Int):List (List UInt8):=l.map fun x=>dec x.toNat
def inT (l:List Int):List UInt8:=Lib.join (lZ l) [32]
theorem aiu:∀{l:List Int},l≠[]→spI l=inT l++[32]
 | [],h=>absurd rfl h
 | [x],_=>by show (dec x.toNat++[32])++[]=_;simp[inT,lZ,Lib.join]
 | x :: y :: l,_=>by
  have:=aiu (l:=y :: l) (by simp)
  show (dec x.toNat++[32])++spI (y :: l)=_
  rw[this]
  simp[inT,lZ,Lib.join,List.intercalate_cons_cons]
theorem ac7 {l:List Int} (h:iK 100 l):(inT l).length≤3*l.length:=by
 by_cases hl:l=[]
 ·subst hl;simp[inT,lZ,Lib.join]
 ·have:=apm h
  rw[aiu hl,aaG] at this;omega
theorem acV:aK Tryz.prog 83 (bR (fun l:List Int=>[isA l]) (fun l=>iK 100 l∧l.length≤1000) (fun l=>sP (inT l))):=by
 refine aX (Tb:=tab) mixed aB Tryz.func83 rfl rfl ?_
 rintro (l:List Int) hpre
 refine ai (ai rfl (ai rfl rfl)) ?_
 obtain ⟨hx,hl⟩:=hpre
 have hx:iK 100 l:=hx
 have hl:l.length≤1000:=hl
 refine ei (bF.inv { X:=Nat,up:=fun k=>[(8,.s (iA k)),(3,ssR (lZ (l.take k)))],uo:=fun k=>[],inv:=fun k=>k≤l.length∧(True),meas:=fun k=>l.length-k,x0:=0 }) ?_
 refine ai (ai (ai (by exact (a4 (ai rfl rfl))) (ai (by exact (ai (ai (ai (fun _=>rfl) (iE (by simp only[zz,reduceCtorEq];rfl))) rfl) rfl)) (by exact trivial))) rfl) (ai (ai (aeu _) ?_) ?_)
 ·trivial
 intro (k:Nat) ⟨hk,_⟩
 have hdl:(lZ (l.take k)).length=k:=by unfold lZ;rw[anB,aiN];omega
 refine ah (p:=k<l.length) (au (by omega)) (fun h1=>?_) (fun h1=>?_)
 ·refine ai (ai (aa1 _) (iN (n:=l.length) (by omega))) (ai rfl ?_)
  have hk1:=oL hx h1
  obtain ⟨d,hd⟩:∃d:Nat,l.getD k 0=(d:Int):=⟨(l.getD k 0).toNat,by omega⟩
  have e:lZ (l.take (k+1))=lZ (l.take k)++[dec d]:=by rw[aS 0 h1];unfold lZ;rw[arA,hd];rfl
  refine ei _ (ai (vX) (ei (d) (ei [] (ai (a4 (ai (fun _=>Or.inl rfl) (ai nof (Or.inl rfl)))) (ai ?_ (ai (by exact trivial) (ai ((by show d<100;omega)) ?_)))))))
  ·exact (iE (by simp only[zz,reduceCtorEq];omega))
  refine ai (aeT (by show (lZ (l.take k)).length+1≤10000;omega)) (ai (aI 1 rfl) ?_)
  refine ei (k+1) (ai (ai rfl rfl) (ai (ai (ai rfl (ai (ai rfl rfl) (ai (ai rfl rfl) (ai (ai (ai (ai (fun _=>rfl) (aO (by omega))) rfl) (ai rfl (ai rfl (ai ?_ ?_)))) trivial)))) rfl) (ai (ai (iL (by omega)) trivial) (iM (by omega)))))
  all_goals rw[e]
  ·rw[aaG];rfl
  ·exact fun j hj=>aax (a:=lZ (l.take k)) (b:=[dec d]) (n:=(lZ (l.take k)).length) (f:=fun k=>[sP ((lZ (l.take _)).getD k [])]) rfl (fun _ _=>rfl) (aiW rfl) j (by rw[aaG];exact hj)
 ·obtain rfl:k=l.length:=by omega
  have et:l.take l.length=l:=agN
  refine ei _ (ai (aoo) (ei ((lZ (l.take l.length),[32])) (ei [] (ai (ai rfl (ai rfl (ai rfl (ai rfl (ai (fun _=>Or.inl rfl) (ai (fun _=>ai rfl rfl) (Or.inl rfl))))))) (ai (by exact (ai (ai rfl (fun _ _=>rfl)) rfl)) (ai trivial (ai (⟨by show (lZ (l.take l.length)).length≤1000000;omega,by show (Lib.join (lZ (l.take l.length)) [32]).length≤140737488355328;rw[et];have:=ac7 hx;unfold inT at this;omega⟩) ?_)))))))
  refine ai (ai (fun _=>trivial) ?_) trivial
  show ak _ (sP (inT l))
  rw[show inT l=Lib.join (lZ (l.take l.length)) [32] by rw[et];rfl]
  exact rfl
end Go.Sx.Pe
namespace Go.Sx.Pe
open Go Go.Proofs Go.RowKit Go.Sx.Pn
theorem cell_of {w:World} {b:Nat} {vs:Array Value} {T:TypeId} {off:Nat} {v:Value} (h:w.heap[b]?=some (.cells vs T (0,0))) (hv:vs[off]?=some v):w.cell? ⟨b,off,none⟩=some v:=by
 simp[World.cell?,h,hv]
theorem ahh {w:World} {b:Nat} {vs:Array Value} {T:TypeId} (h:w.heap[b]?=some (.cells vs T (0,0))):w.shape? b=some (T,vs.size):=by
 simp[World.shape?,h]
theorem alj {w:World} {b off:Nat} {vs:Array Value} {T:TypeId} (h:w.heap[b]?=some (.cells vs T (0,0))):w.frozen? ⟨b,off,none⟩=false:=by
 simp[World.frozen?,h]
set_option maxRecDepth 100000 in
theorem amY (b:Nat) (w:World) (h0:w.cell? ⟨b,0,none⟩=some (.pointer (some ⟨b,0,none⟩))) :
  Calls Tryz.prog 135 #[.pointer (some ⟨b,0,none⟩)] w fun e w'=>e=.returned (.tuple #[])∧w'=w:=by
 obtain ⟨j,hj,_⟩:=asg.1 (show (Tryz.prog.info? 143).map (·.size)=some 2 by kernel_rfl)
 go_enter Tryz.func135,Tryz.ntmps135
 go_wp2
 rw[Lib.run_neq_ptr_same w _ Tryz.underlying140 hj]
 go_wp2
 go_end0
 exact ⟨rfl,rfl⟩
set_option maxRecDepth 100000 in
theorem akF (T n b:Nat) (hlies:liesAt Tryz.prog Tryz.prog.depth T (n / Tryz.prog.cellsOf T) 0 143 1=true) (hn:0<n) (w:World) (h0:w.cell? ⟨b,0,none⟩=some (.pointer none)) (hsh:w.shape? b=some (T,n)) (hfz:w.frozen? ⟨b,0,none⟩=false) :
  Calls Tryz.prog 135 #[.pointer (some ⟨b,0,none⟩)] w fun e w'=>e=.returned (.tuple #[])∧w'=w.setCell ⟨b,0,none⟩ (.pointer (some ⟨b,0,none⟩)):=by
 obtain ⟨j,hj,hjs⟩:=asg.1 (show (Tryz.prog.info? 143).map (·.size)=some 2 by kernel_rfl)
 go_enter Tryz.func135,Tryz.ntmps135
 go_wp2
 rw[Lib.run_to_unsafe w ⟨b,0,none⟩ Tryz.underlying140 Tryz.underlying226 hj (by rw[hjs];decide) hsh hn]
 simp only[Result.andThen]
 rw[Oper.upon_value]
 go_wp2
 rw[run_callFunc_extern Tryz.func166 (by kernel_rfl) (by kernel_rfl) (by kernel_rfl) (e:=Extern.AbiNoEscape.same) (by kernel_rfl)]
 rw[Lib.run_noEscape]
 simp only[Result.andThen]
 rw[Oper.upon_value]
 go_wp2
 rw[Lib.run_from_unsafe w ⟨b,0,none⟩ Tryz.underlying226 Tryz.underlying140 hj hsh hlies]
 simp only[Result.andThen]
 rw[Oper.upon_value]
 go_wp2
 go_end0
 exact ⟨rfl,rfl⟩
theorem afb (T n:Nat) (hlies:liesAt Tryz.prog Tryz.prog.depth T (n / Tryz.prog.cellsOf T) 0 143 1=true) (hn:0<n):abP Tryz.prog 135 T n:=
 ⟨⟨_,Tryz.func135,rfl,rfl⟩,fun b vs w hw hs=>⟨fun h0=>akF T n b hlies hn w (cell_of hw h0) (by rw[ahh hw,hs]) (alj hw),fun h0=>amY b w (cell_of hw h0)⟩⟩
theorem aeZ:abP Tryz.prog 135 143 2:=afb _ _ (by kernel_rfl) (by decide)
theorem anS:abP Tryz.prog 135 202 3:=afb _ _ (by kernel_rfl) (by decide)
set_option maxRecDepth 100000 in
theorem ahQ (T n:Nat):anT Tryz.prog 84 T n 5:=by
 refine ⟨⟨_,Tryz.func84,rfl,rfl⟩,fun b vs w g cap cur l hw hs h1 hg hnc hcm hcs hcell h0=>?_⟩
 have hl0:l.length≠0:=by simpa using h0
 have c1:w.drew.cell? ⟨b,1,none⟩=some (.slice (some ⟨g,0,none⟩) l.length cap):=cell_of (w:=w.drew) hw h1
 have hSD:(Builtin.unsafeSliceData_ #[141] 206 #[.slice (some ⟨g,0,none⟩) l.length cap]).run Tryz.prog w.drew=.ok (.pointer (some ⟨g,0,none⟩)) w.drew:=
  Lib.run_unsafeSliceData_row _ _ _ _ _ _ (by omega)
 have hUS:(Builtin.unsafeString_ #[206,3] 9 #[.pointer (some ⟨g,0,none⟩),.int .i64 l.length]).run Tryz.prog w.drew=.ok (.string ⟨l.toArray⟩) (w.drew.freeze ⟨g,0,none⟩ l.length):=by
  refine Lib.run_unsafeString_row w.drew 206 3 9 5 Tryz.underlying206 (by kernel_rfl) g cur.size (ahh (w:=w.drew) hg) l h0 (by omega) (by unfold maxLen at hcm;omega) ?_
  intro j x hx
  rw[Addr.add_lit]
  exact cell_of (w:=w.drew) hg (by rw[aip];exact hcell j x hx)
 have mixed:=mixed
 go_enter Tryz.func84,Tryz.ntmps84
 go_wp2
 go_region_o
 all_goals (go_wp2;go_ret;exact ⟨rfl,rfl⟩)
end Go.Sx.Pe
namespace Go.Sx.Pe
open Go Go.Proofs Go.Sx.Pn
def om (l:List UInt8):Ob:=.row 5 1 l.length (fun k=>[cP (l.getD k 0)])
def aqa:SV:=.p false (.val .nilIface)
theorem mV {a b:List UInt8} {n:Nat} {f g:Nat→List PV} (hn:n=a.length) (hf:∀k,k<a.length→f k=[cP (a.getD k 0)]) (hg:∀k,k<b.length→g k=[cP (b.getD k 0)]):∀k,k<(a++b).length→bQ n f g k=[cP ((a++b).getD k 0)]:=by
 intro k hk
 subst hn
 unfold bQ
 by_cases h:k<a.length
 ·rw[if_pos h,hf k h,aaI,aaI,afl h]
 ·have hb:k-a.length<b.length:=by rw[aaG] at hk;omega
  rw[if_neg h,hg _ hb,aaI,aaI,afN (by omega)]
theorem one_byte {c:UInt8}:∀k,k<[c].length→bg 1 [cP c] k=[cP ([c].getD k 0)]:=by
 intro k hk
 have hk:k<1:=hk
 obtain rfl:k=0:=by omega
 rfl
theorem uw (l:List UInt8):∀k,jX (strOf l) k=[cP (l.getD k 0)]:=by
 intro k
 show [PV.val (.int .u8 ((strOf l).data.getD k 0).toNat)]=_
 have:(strOf l).data.getD k 0=l.getD k 0:=by
  show l.toArray.getD k 0=_
  simp[aek]
 rw[this];rfl
theorem af2 (l:List UInt8):(strOf l).size=l.length:=by
 show l.toArray.size=_
 simp
def adr:Bool→SV
 | true=>.own 0 0
 | false=>.p false (.val (.pointer none))
def bld (T:Nat) (rest:List SV) (st:Bool:=true):Ob:=.cells T (adr st :: .row 1 :: rest)
abbrev NM := List (List UInt8)
def wbG (T:Nat) (rest:NM→List SV):qy:={ A:=Bool×NM×List UInt8×UInt8,fix:=1,args:=fun a=>[.own 0 0,cA a.2.2.2],objs:=fun a=>[bld T (rest a.2.1) a.1,om a.2.2.1],pre:=fun a=>a.2.2.1.length≤1000000,res:=fun _=>aqa,objs':=fun a=>[bld T (rest a.2.1),om (a.2.2.1++[a.2.2.2])],inl:=[135] }
def wsG (T:Nat) (rest:NM→List SV):qy:={ A:=Bool×NM×List UInt8×List UInt8,fix:=1,args:=fun a=>[.own 0 0,sA a.2.2.2],objs:=fun a=>[bld T (rest a.2.1) a.1,om a.2.2.1],pre:=fun a=>a.2.2.1.length≤1000000∧a.2.2.2.length≤1000000,res:=fun a=>.tup [iA a.2.2.2.length,aqa],objs':=fun a=>[bld T (rest a.2.1),om (a.2.2.1++a.2.2.2)],inl:=[135] }
def noR:NM→List SV:=fun _=>[]
def nmR:NM→List SV:=fun l=>[ssA l]
theorem sS:jI Tryz.prog 78 (wsG 143 noR):=by
 refine oU (Tb:=tab) mixed aB Tryz.func78 rfl rfl ?_
 rintro ⟨st,a⟩ hpre
 refine ai (ai rfl (ai rfl rfl)) ?_
 have hl:a.2.1.length≤1000000:=hpre.1
 have hl2:a.2.2.length≤1000000:=hpre.2
 have hz:=af2 a.2.2
 cases st with
 | true=>
  refine rZ aeZ rfl rfl rfl (.inl rfl) ?_
  refine ai (ai (ai rfl rfl) (ai (by show a.2.1.length+_≤_;rw[hz];unfold maxLen;omega) (by show a.2.1.length+_≤_;rw[hz];omega))) ?_
  refine ei [0,2] (ai (ai rfl (ai rfl rfl)) (ai ?_ ?_))
  ·exact (ai (iE (by simp only[zz,reduceCtorEq];rfl)) rfl)
  ·refine (ai (ai rfl (ai (ai rfl rfl) rfl)) (ai rfl (ai rfl (ai ?_ ?_))))
   ·show a.2.1.length+(strOf a.2.2).size=(a.2.1++a.2.2).length
    rw[hz,aaG]
   ·exact mV rfl (fun _ _=>rfl) (fun k _=>uw _ k)
 | false=>
  refine rZ aeZ rfl rfl rfl (.inr ⟨_,rfl⟩) ?_
  refine ai (ai (ai rfl rfl) (ai (by show a.2.1.length+_≤_;rw[hz];unfold maxLen;omega) (by show a.2.1.length+_≤_;rw[hz];omega))) ?_
  refine ei [0,2] (ai (ai rfl (ai rfl rfl)) (ai ?_ ?_))
  ·exact (ai (iE (by simp only[zz,reduceCtorEq];rfl)) rfl)
  ·refine (ai (ai rfl (ai (ai rfl rfl) rfl)) (ai rfl (ai rfl (ai ?_ ?_))))
   ·show a.2.1.length+(strOf a.2.2).size=(a.2.1++a.2.2).length
    rw[hz,aaG]
   ·exact mV rfl (fun _ _=>rfl) (fun k _=>uw _ k)
theorem agm:jI Tryz.prog 78 (wsG 202 nmR):=by
 refine oU (Tb:=tab) mixed aB Tryz.func78 rfl rfl ?_
 rintro ⟨st,a⟩ hpre
 refine ai (ai rfl (ai rfl rfl)) ?_
 have hl:a.2.1.length≤1000000:=hpre.1
 have hl2:a.2.2.length≤1000000:=hpre.2
 have hz:=af2 a.2.2
 cases st with
 | true=>
  refine rZ anS rfl rfl rfl (.inl rfl) ?_
  refine ai (ai (ai rfl rfl) (ai (by show a.2.1.length+_≤_;rw[hz];unfold maxLen;omega) (by show a.2.1.length+_≤_;rw[hz];omega))) ?_
  refine ei [0,2] (ai (ai rfl (ai rfl rfl)) (ai ?_ ?_))
  ·exact (ai (iE (by simp only[zz,reduceCtorEq];rfl)) rfl)
  ·refine (ai (ai rfl (ai (ai rfl rfl) (ai rfl (ai rfl (fun _ _=>rfl))))) (ai rfl (ai rfl (ai ?_ ?_))))
   ·show a.2.1.length+(strOf a.2.2).size=(a.2.1++a.2.2).length
    rw[hz,aaG]
   ·exact mV rfl (fun _ _=>rfl) (fun k _=>uw _ k)
 | false=>
  refine rZ anS rfl rfl rfl (.inr ⟨_,rfl⟩) ?_
  refine ai (ai (ai rfl rfl) (ai (by show a.2.1.length+_≤_;rw[hz];unfold maxLen;omega) (by show a.2.1.length+_≤_;rw[hz];omega))) ?_
  refine ei [0,2] (ai (ai rfl (ai rfl rfl)) (ai ?_ ?_))
  ·exact (ai (iE (by simp only[zz,reduceCtorEq];rfl)) rfl)
  ·refine (ai (ai rfl (ai (ai rfl rfl) (ai rfl (ai rfl (fun _ _=>rfl))))) (ai rfl (ai rfl (ai ?_ ?_))))
   ·show a.2.1.length+(strOf a.2.2).size=(a.2.1++a.2.2).length
    rw[hz,aaG]
   ·exact mV rfl (fun _ _=>rfl) (fun k _=>uw _ k)
def arI (T:Nat) (rest:NM→List SV):qy:={ A:=NM×List UInt8,fix:=1,args:=fun a=>[.own 0 0],objs:=fun a=>[bld T (rest a.1),om a.2],pre:=fun a=>True,res:=fun a=>iA a.2.length,objs':=fun a=>[bld T (rest a.1),om a.2] }
theorem aod:jI Tryz.prog 142 (arI 202 nmR):=by
 refine oU (Tb:=tab) mixed aB Tryz.func142 rfl rfl ?_
 rintro (a:NM×List UInt8) hpre
 refine ai (ai rfl (ai rfl rfl)) ?_
 refine ei [0,1] (ai (ai rfl (ai rfl rfl)) (ai ?_ ?_))
 ·exact rfl
 ·exact (ai (ai rfl (ai (ai rfl rfl) (ai rfl (ai rfl (fun _ _=>rfl))))) (ai rfl (ai rfl (ai rfl (fun _ _=>rfl)))))
theorem acZ:jI Tryz.prog 81 (wbG 143 noR):=by
 refine oU (Tb:=tab) mixed aB Tryz.func81 rfl rfl ?_
 rintro ⟨st,a⟩ hpre
 refine ai (ai rfl (ai rfl rfl)) ?_
 have hl:a.2.1.length≤1000000:=hpre
 cases st with
 | true=>
  refine rZ aeZ rfl rfl rfl (.inl rfl) ?_
  refine ai (mxL (n:=a.2.1.length+1) (by omega) (by decide)) ?_
  refine ai (lt1 rfl) ?_
  refine ei [0,3] (ai (ai rfl (ai rfl rfl)) (ai ?_ ?_))
  ·exact rfl
  ·refine (ai (ai rfl (ai (ai rfl rfl) rfl)) (ai rfl (ai rfl (ai ?_ ?_))))
   ·show a.2.1.length+1=(a.2.1++[a.2.2]).length
    simp
   ·exact mV rfl (fun _ _=>rfl) one_byte
 | false=>
  refine rZ aeZ rfl rfl rfl (.inr ⟨_,rfl⟩) ?_
  refine ai (mxL (n:=a.2.1.length+1) (by omega) (by decide)) ?_
  refine ai (lt1 rfl) ?_
  refine ei [0,3] (ai (ai rfl (ai rfl rfl)) (ai ?_ ?_))
  ·exact rfl
  ·refine (ai (ai rfl (ai (ai rfl rfl) rfl)) (ai rfl (ai rfl (ai ?_ ?_))))
   ·show a.2.1.length+1=(a.2.1++[a.2.2]).length
    simp
   ·exact mV rfl (fun _ _=>rfl) one_byte
def jd (sep:List UInt8):List (List UInt8)→List UInt8
 | []=>[]
 | [x]=>x
 | x :: y :: l=>x++(sep++jd sep (y :: l))
theorem acR (sep x:List UInt8):∀l:List (List UInt8),jd sep (l++[x])=if l=[] then x else jd sep l++(sep++x)
 | []=>rfl
 | [y]=>by rw[if_neg (by simp)];rfl
 | y :: z :: l=>by
  rw[if_neg (by simp)]
  show y++(sep++jd sep (z :: l++[x]))=y++(sep++jd sep (z :: l))++(sep++x)
  rw[acR sep x (z :: l),if_neg (by simp)]
  simp
def zq (o:Int):List UInt8:=if o=4 then [32,124,32] else [32,38,32]
def adI (b:Bool) (t:List UInt8):List UInt8:=if b then 40 :: (t++[41]) else t
def brA (o x:Int):Bool:=decide (x=4)||(decide (x=3)&&decide (o≠4))
mutual
def d9 (nm:NM):Ex→List UInt8
 | .node o i l=>if o=0 then [if i=0 then 48 else 49] else if o=1 then nm.getD i.toNat [] else if o=2 then 33 :: (arE nm o l).headD [] else jd (zq o) (arE nm o l)
def arE (nm:NM) (o:Int):List Ex→List (List UInt8)
 | []=>[]
 | x :: l=>adI (brA o x.op) (d9 nm x) :: arE nm o l
end
def lF (nm:NM) (o:Int) (x:Ex):List UInt8:=adI (brA o x.op) (d9 nm x)
theorem ah4 (nm:NM) (o:Int):∀l:List Ex,arE nm o l=l.map (lF nm o)
 | []=>by rw[arE];rfl
 | x :: l=>by rw[arE,ah4 nm o l];rfl
theorem qp (nm:NM) (x:Ex):d9 nm x=if x.op=0 then [if x.idx=0 then 48 else 49] else if x.op=1 then nm.getD x.idx.toNat [] else if x.op=2 then 33 :: (x.args.map (lF nm x.op)).headD [] else jd (zq x.op) (x.args.map (lF nm x.op)):=by
 obtain ⟨o,i,l⟩:=x;rw[d9,ah4]
def wrB (o out:Int):Bool:=(decide (o=3)||decide (o=4))&&(decide (0≤out)&&(decide (o=4)||decide (out≠4)))
def oO (nm:NM) (x:Ex) (out:Int):List UInt8:=adI (wrB x.op out) (d9 nm x)
theorem aiK (nm:NM) (x:Ex) {o:Int} (h:0≤o):oO nm x o=lF nm o x:=by
 unfold oO lF
 have:wrB x.op o=brA o x.op:=by
  unfold wrB brA
  rw[decide_eq_true h,ah3]
  by_cases h3:x.op=3
  ·rw[h3];simp
  ·by_cases h4:x.op=4
   ·rw[h4];simp
   ·rw[decide_eq_false h3,decide_eq_false h4];rfl
 rw[this]
theorem vR (b:Bool) (t:List UInt8):(adI b t).length≤t.length+2:=by unfold adI;split<;>simp
def abx (nm:NM):Prop:=∀k,(nm.getD k []).length≤100
theorem zf (sep:List UInt8):∀l:List (List UInt8),(jd sep l).length≤(l.map fun t=>t.length+sep.length).sum
 | []=>by simp[jd]
 | [x]=>by simp[jd]
 | x :: y :: l=>by
  have:=zf sep (y :: l)
  simp only[jd,aaG,anY,atg] at this ⊢
  omega
theorem agk (o:Int):(zq o).length=3:=by unfold zq;split<;>rfl
theorem abG {nm:NM} {o:Int}:∀(l:List Ex),(∀x∈l,(d9 nm x).length+5≤110*x.size)→((l.map (lF nm o)).map fun t=>t.length+3).sum≤110*sizes l
 | [],_=>by simp
 | x :: l,h=>by
  have h1:=h x (by simp)
  have h2:=abG (nm:=nm) (o:=o) l fun y hy=>h y (by simp[hy])
  have h3:=vR (brA o x.op) (d9 nm x)
  rw[sizes]
  simp only[anY,atg] at h2 ⊢
  unfold lF at h2 ⊢
  omega
theorem abp {nm:NM} (hnm:abx nm):∀(n:Nat) (x:Ex),x.size≤n→(d9 nm x).length+5≤110*x.size
 | 0,x,h=>by have:=size_pos x;omega
 | n+1,x,h=>by
  have hsz:=x.size_eq
  have ih:∀y∈x.args,(d9 nm y).length+5≤110*y.size:=fun y hy=>abp hnm n y (by have:=lI hy;omega)
  have h4:=abG (nm:=nm) (o:=x.op) x.args ih
  rw[qp]
  split
  ·simp;omega
  ·split
   ·have:=hnm x.idx.toNat;omega
   ·split
    ·cases hc:x.args with
     | nil=>simp;omega
     | cons y l=>
      rw[hc,sizes] at hsz
      have h1:=ih y (by rw[hc];simp)
      have h3:=vR (brA x.op y.op) (d9 nm y)
      simp only[anY,List.headD_cons,aiC]
      unfold lF
      omega
    ·have h5:=zf (zq x.op) (x.args.map (lF nm x.op))
     rw[agk] at h5
     omega
def jy (nm:NM) (base sep:List UInt8) (o:Int) (l:List Ex) (k:Nat):List UInt8:=base++jd sep ((l.take k).map (lF nm o))
theorem uP (nm:NM) (base sep:List UInt8) (o:Int) (l:List Ex):jy nm base sep o l 0=base:=by unfold jy;simp[jd]
theorem am0 {nm:NM} {base sep:List UInt8} {o:Int} {l:List Ex} (h:0<l.length):jy nm base sep o l 1=base++lF nm o (l.getD 0 dS):=by
 unfold jy;rw[aS dS h];rfl
theorem ako {nm:NM} {base sep:List UInt8} {o:Int} {l:List Ex} {k:Nat} (h:k+1<l.length):jy nm base sep o l (k+1+1)=jy nm base sep o l (k+1)++sep++lF nm o (l.getD (k+1) dS):=by
 unfold jy
 have hne:(l.take (k+1)).map (lF nm o)≠[]:=by
  cases l with
  | nil=>simp at h
  | cons y l=>simp
 rw[aS dS h,arA,List.map_singleton,acR,if_neg hne]
 simp
theorem anb (nm:NM) (base sep:List UInt8) (o:Int) (l:List Ex):jy nm base sep o l l.length=base++jd sep (l.map (lF nm o)):=by unfold jy;rw[agN]
theorem acv (sep:List UInt8):∀l:List (List UInt8),l≠[]→(jd sep l).length+sep.length≤(l.map fun t=>t.length+sep.length).sum
 | [],h=>absurd rfl h
 | [x],_=>by simp[jd]
 | x :: y :: l,_=>by
  have:=acv sep (y :: l) (by simp)
  simp only[jd,aaG,anY,atg] at this ⊢
  omega
theorem amU {nm:NM} (hnm:abx nm) {base sep:List UInt8} (hsep:sep.length=3) {o:Int} {l:List Ex} {k:Nat} (hk:k≤l.length):(jy nm base sep o l k).length+(if k=0 then 0 else 3)≤base.length+110*sizes (l.take k):=by
 have h4:=abG (nm:=nm) (o:=o) (l.take k) fun x _=>abp hnm x.size x (agv _)
 unfold jy
 rw[aaG]
 cases k with
 | zero=>simp[jd,sizes]
 | succ k=>
  have hne:(l.take (k+1)).map (lF nm o)≠[]:=by
   cases l with
   | nil=>simp at hk
   | cons y l=>simp
  have h5:=acv sep _ hne
  rw[hsep] at h5
  rw[if_neg (by omega)]
  omega
structure WrA where
 st:Bool
 nm:NM
 bs:List UInt8
 x:Ex
 out:Int
def ajy (a:WrA):Prop:=l8 a.nm.length a.x∧a.x.size≤256∧abx a.nm∧a.nm.length≤256∧a.bs.length+110*a.x.size≤500000
def wrG (n:Nat):qy:={ A:=WrA,fix:=1,args:=fun a=>[.own 0 0,uF a.x,iA a.out],objs:=fun a=>[bld 202 (nmR a.nm) a.st,om a.bs],pre:=fun a=>ajy a∧a.x.size≤n,res:=fun _=>.tup [],objs':=fun a=>[bld 202 (nmR a.nm),om (a.bs++oO a.nm a.x a.out)],inl:=[141,81,78] }
def arM (st:Bool):Nat→SV
 | 0=>adr st
 | _+1=>.own 0 0
theorem ajY (c:UInt8) (h:iO c=true):gU c=true:=by
 unfold iO dU jv sW at h
 unfold gU gu
 simp only[apX,afF,decide_eq_true_eq] at h ⊢
 omega
theorem ahM (c:UInt8) (h:jv c=true):gu c=true:=by
 unfold jv at h
 unfold gu
 simp only[apX,afF,decide_eq_true_eq] at h ⊢
 omega
theorem aj6 {s:List UInt8} (h:dN s=0):s.length≤24∧resE s=false∧jC s=true:=by
 unfold dN at h
 split at h
 ·cases h
 rename_i h1
 split at h
 ·cases h
 rename_i h2
 split at h
 ·rename_i h3
  simp only[apX,not_or,aqb,Bool.not_eq_true,Bool.not_eq_false'] at h2
  obtain ⟨⟨h4,h5⟩,h6⟩:=h2
  refine ⟨by omega,h6,?_⟩
  unfold jC
  rw[alM.2 fun c hc=>ajY c (alM.1 h3 c hc),h4,ahM _ (by simpa using h5)];rfl
 ·cases h
def aaA (b:Bool) (s:List UInt8):Bool:=decide (s.length≤24)&&(jC s&&(resE s==b))
theorem aeH {b:Bool} {s:List UInt8} (h:aaA b s=true):s.length≤24∧jC s=true∧resE s=b:=by
 unfold aaA at h
 simp only[afF,decide_eq_true_eq,beq_iff_eq] at h
 exact ⟨h.1,h.2.1,h.2.2⟩
theorem amh {n:Nat} (h:n≤6):(jl n).all (aaA true)=true∧(jl n).Nodup∧(jl n).all (fun s=>s.getD 0 0 != 121)=true:=by
 have:∀n:Fin 7,(jl n.1).all (aaA true)=true∧(jl n.1).Nodup∧(jl n.1).all (fun s=>s.getD 0 0 != 121)=true:=by decide +kernel
 exact this ⟨n,by omega⟩
theorem anj {n:Nat} (h:n≤24):(nC n).all (aaA true)=true∧(nC n).Nodup∧(nC n).all (fun s=>s.getD 0 0==121)=true:=by
 have:∀n:Fin 25,(nC n.1).all (aaA true)=true∧(nC n.1).Nodup∧(nC n.1).all (fun s=>s.getD 0 0==121)=true:=by decide +kernel
 exact this ⟨n,by omega⟩
theorem aiT {α:Type} [BEq α] [LawfulBEq α] {x:α} {l:List α}:l.any (fun y=>x==y)=false↔x∉l:=by
 rw[asx]
 constructor
 ·intro h hx;exact h x hx (by simp)
 ·intro h y hy e;exact h (by rw[beq_iff_eq.1 e];exact hy)
theorem ajJ {α:Type} {l:List α} {k:Nat} {d:α} (hn:l.Nodup) (hk:k<l.length):l.getD k d∉l.take k:=by
 have h1:(l.take (k+1)).Nodup:=hn.sublist (List.take_sublist _ _)
 rw[aS d hk,asN] at h1
 intro hx
 exact h1.2.2 _ hx _ (ag4.2 rfl) rfl
theorem aeL {α:Type} {d:α}:∀{l:List α},(∀k,k<l.length→l.getD k d∉l.take k)→l.Nodup:=by
 intro l h
 rw[List.Nodup,asX]
 intro i j hi hj hij e
 refine h j hj ?_
 have e2:l.getD j d=l[j]:=by rw[aaI,aaQ hj];rfl
 rw[e2,←e]
 exact List.mem_iff_getElem.2 ⟨i,by rw[aiN];omega,by simp⟩
theorem ahn {l:List (List UInt8)} (h:dK l=0):(∀s∈l,s.length≤24∧resE s=false∧jC s=true)∧l.Nodup:=by
 unfold dK at h
 split at h
 ·cases h
 have h1:=ng h
 have key:∀k,k<l.length→dN (l.getD k [])=0∧l.getD k []∉l.take k:=fun k hk=>by
  have h2:=h1 k hk
  unfold rG at h2
  split at h2
  ·rename_i h3;exact absurd h2 h3
  rename_i h3
  split at h2
  ·cases h2
  rename_i h4
  exact ⟨arn.1 h3,aiT.1 (ar6.2 h4)⟩
 refine ⟨fun s hs=>?_,aeL (d:=[]) fun k hk=>(key k hk).2⟩
 obtain ⟨k,hk,rfl⟩:=apT hs
 have:=(key k hk).1
 rw[aaI,aaQ hk] at this
 exact aj6 this
theorem qN {c:aQ} (h:bE c=0):(∀s∈dO c,s.length≤24∧jC s=true)∧(dO c).Nodup∧((dO c).length:Int)=nX c∧(dO c).length≤52:=by
 obtain ⟨h1,h2,h3,_⟩:=iG h
 have hi:=ahn h2
 have hil:=rM h2
 obtain ⟨a1,a2,a3⟩:=amh (n:=c.act.toNat) (by omega)
 obtain ⟨b1,b2,b3⟩:=anj (n:=c.sts.length) (by omega)
 have A:∀s∈jl c.act.toNat,s.length≤24∧jC s=true∧resE s=true:=fun s hs=>aeH (alM.1 a1 s hs)
 have B:∀s∈nC c.sts.length,s.length≤24∧jC s=true∧resE s=true:=fun s hs=>aeH (alM.1 b1 s hs)
 refine ⟨fun s hs=>?_,?_,?_,?_⟩
 ·unfold dO at hs
  simp only[aia] at hs
  rcases hs with (hs | hs) | hs
  ·exact ⟨(A s hs).1,(A s hs).2.1⟩
  ·exact ⟨(hi.1 s hs).1,(hi.1 s hs).2.2⟩
  ·exact ⟨(B s hs).1,(B s hs).2.1⟩
 ·unfold dO
  rw[asN,asN]
  refine ⟨⟨a2,hi.2,fun x hx y hy e=>?_⟩,b2,fun x hx y hy e=>?_⟩
  ·subst e;have:=(A x hx).2.2;rw[(hi.1 x hy).2.1] at this;cases this
  ·subst e
   rcases aia.1 hx with hx | hx
   ·have p:=alM.1 a3 x hx
    have q:=alM.1 b3 x hy
    rw[beq_iff_eq] at q
    rw[q] at p;cases p
   ·have:=(B x hy).2.2;rw[(hi.1 x hx).2.1] at this;cases this
 ·unfold dO nX
  rw[aaG,aaG,aaj,aaB];omega
 ·unfold dO
  rw[aaG,aaG,aaj,aaB];omega
theorem ai8 {c:aQ} (h:bE c=0):jZ (dO c)=0:=by
 obtain ⟨h1,h2,_,h3⟩:=qN h
 unfold jZ
 rw[if_neg (by omega)]
 refine fT fun k hk=>?_
 have hm:(dO c).getD k []∈dO c:=acI (bI [] hk)
 have:=h1 _ hm
 unfold pO
 rw[if_neg (by rw[this.2];decide),if_neg (by omega),if_neg]
 rw[aiT.2 (ajJ h2 hk)];decide
theorem abT {nm:NM} {o:Int}:∀(l:List Ex),(∀x∈l,(d9 nm x).length+5≤34*x.size)→((l.map (lF nm o)).map fun t=>t.length+3).sum≤34*sizes l
 | [],_=>by simp
 | x :: l,h=>by
  have h1:=h x (by simp)
  have h2:=abT (nm:=nm) (o:=o) l fun y hy=>h y (by simp[hy])
  have h3:=vR (brA o x.op) (d9 nm x)
  rw[sizes]
  simp only[anY,atg] at h2 ⊢
  unfold lF at h2 ⊢
  omega
theorem ac2 {nm:NM} (hnm:∀k,(nm.getD k []).length≤24):∀(n:Nat) (x:Ex),x.size≤n→(d9 nm x).length+5≤34*x.size
 | 0,x,h=>by have:=size_pos x;omega
 | n+1,x,h=>by
  have hsz:=x.size_eq
  have ih:∀y∈x.args,(d9 nm y).length+5≤34*y.size:=fun y hy=>ac2 hnm n y (by have:=lI hy;omega)
  have h4:=abT (nm:=nm) (o:=x.op) x.args ih
  rw[qp]
  split
  ·simp;omega
  ·split
   ·have:=hnm x.idx.toNat;omega
   ·split
    ·cases hc:x.args with
     | nil=>simp;omega
     | cons y l=>
      rw[hc,sizes] at hsz
      have h1:=ih y (by rw[hc];simp)
      have h3:=vR (brA x.op y.op) (d9 nm y)
      simp only[anY,List.headD_cons,aiC]
      unfold lF
      omega
    ·have h5:=zf (zq x.op) (x.args.map (lF nm x.op))
     rw[agk] at h5
     omega
theorem af5 {c:aQ} (h:bE c=0) (k:Nat):((dO c).getD k []).length≤24:=by
 rcases arp k (dO c).length with hk | hk
 ·exact ((qN h).1 _ (acI (bI [] hk))).1
 ·rw[aaI,arx hk];simp
theorem qh {a b:ByteArray} {l m:List UInt8} (ha:a=strOf l) (hb:b=strOf m) (h:l.length+m.length≤9223372036854775807):(((a.size+b.size:Nat)):Int)≤9223372036854775807:=by
 subst ha hb;rw[dI,dI];omega
def stepW:List UInt8:=[115,116,101,112,32]
def iR (l:List Sk):List UInt8:=l.flatMap fun y=>32 :: nU y
def tX (w:Int):List UInt8:=if 0<w then 32 :: dec w.toNat else []
def gH (k:Nat):List UInt8:=(stepW++dec k)++[58]
def lnK (k:Nat) (x:Stp):List UInt8:=((gH k++iR x.st)++tX x.wt)++[10]
def bK (l:List Stp):Nat→List UInt8
 | 0=>[]
 | k+1=>bK l k++lnK k (l.getD k st0)
def lnT (nm:NM) (t:jK):List UInt8:=(((((inT t.fr++[32,62,32])++inT t.to)++[58,32])++d9 nm t.wh)++[10])
def nG (nm:NM) (l:List jK):Nat→List UInt8
 | 0=>[]
 | k+1=>nG nm l k++lnT nm (l.getD k aH)
def ajm (c:aQ):List UInt8:=bK c.sts c.sts.length++nG (dO c) c.trs c.trs.length
def uH (c:aQ):PV:=.tup [sP (if bE c=0 then ajm c else []),iP (bE c)]
theorem afy:∀(j n:Nat),n<10 ^ j→(adM n).length≤j
 | 0,n,h=>by
  have:n=0:=by rw[Nat.pow_zero] at h;omega
  subst this;simp[adM]
 | j+1,n,h=>by
  rw[aky]
  split
  ·simp
  ·have:=afy j (n / 10) (by rw[Nat.div_lt_iff_lt_mul (by decide)];rw[Nat.pow_succ] at h;exact h)
   rw[aaG,List.length_singleton];omega
theorem abA {n:Nat} (h:n≤1000000):(dec n).length≤7:=by
 by_cases h0:n=0
 ·subst h0;have:=vH (n:=0) (by decide);omega
 ·have:=afy 7 n (by show n<10 ^ 7;omega)
  unfold adM at this
  rw[if_neg h0] at this;exact this
theorem adj (l:List Sk):(iR l).length=3*l.length:=by
 induction l with
 | nil=>rfl
 | cons x l ih=>
  show ((32 :: nU x)++iR l).length=_
  rw[aaG,ih]
  simp[nU];omega
theorem ao7 {w:Int} (h:w≤1000000):(tX w).length≤8:=by
 unfold tX
 split
 ·have:=abA (n:=w.toNat) (by omega)
  rw[aiC];omega
 ·simp
theorem akI {n:Int} {l:List Int} (h0:∀x∈l,0≤x∧x<n) (h1:∀k,0<k→k<l.length→l.getD (k-1) 0<l.getD k 0):(l.length:Int)≤max n 0:=by
 have key:∀k,k<l.length→(k:Int)≤l.getD k 0:=by
  intro k
  induction k with
  | zero=>intro hk;exact (h0 _ (acI (bI 0 hk))).1
  | succ k ih=>
   intro hk
   have:=h1 (k+1) (by omega) hk
   have:=ih (by omega)
   simp only[Nat.add_sub_cancel] at *
   omega
 rcases aql l.length with h | h
 ·omega
 ·have h2:=key (l.length-1) (by omega)
  have h3:=(h0 _ (acI (bI 0 (show l.length-1<l.length by omega)))).2
  omega
theorem agx {n:Nat} {l:List Int} (h:gq n l=0) (hn:n≤24):l.length≤24:=by
 have h0:=(aau h hn).2.1
 unfold gq at h
 split at h
 ·cases h
 have h1:=ng h
 have:=akI (n:=(n:Int)) (l:=l) h0 fun k hk hl=>by
  have h2:=h1 k hl
  unfold l5 at h2
  split at h2
  ·cases h2
  split at h2
  ·cases h2
  ·rename_i h3;omega
 omega
theorem aoh {act:Int} {x:Stp} (ha:1≤act∧act≤6) (h:eP act x=0):x.st.length≤6∧okS 6 x.st∧0≤x.wt∧x.wt≤1000000:=by
 unfold eP at h
 split at h
 ·rename_i h1;exact absurd h h1
 rename_i h1
 split at h
 ·cases h
 rename_i h2
 have h3:=ng (arn.1 h1)
 have hk:∀k,k<x.st.length→(0≤(x.st.getD k bJ).1∧(x.st.getD k bJ).1<act)∧(0<k→(x.st.getD (k-1) bJ).1<(x.st.getD k bJ).1):=fun k hk=>by
  have h4:=h3 k hk
  unfold jg at h4
  split at h4
  ·cases h4
  split at h4
  ·cases h4
  ·rename_i h5 h6;exact ⟨by omega,fun h7=>by omega⟩
 have hs:okS 6 x.st:=fun y hy=>by
  obtain ⟨k,hk1,rfl⟩:=apT hy
  have:=(hk k hk1).1
  rw[aaI,aaQ hk1] at this
  have this:0≤x.st[k].1∧x.st[k].1<act:=this
  omega
 refine ⟨?_,hs,by omega,by omega⟩
 have gm:∀k,k<x.st.length→(x.st.map (·.1)).getD k 0=(x.st.getD k bJ).1:=fun k hk1=>by
  rw[aaI,aaI,alr,aaQ hk1];rfl
 have:=akI (n:=6) (l:=x.st.map (·.1)) (fun y hy=>by
  obtain ⟨z,hz,rfl⟩:=arq.1 hy
  exact hs z hz) fun k hk0 hkl=>by
   rw[anB] at hkl
   rw[gm k hkl,gm (k-1) (by omega)]
   exact (hk k hkl).2 hk0
 rw[anB] at this
 omega
theorem afB {c:aQ} (h:bE c=0) {k:Nat} (hk:k<c.sts.length):(c.sts.getD k st0).st.length≤6∧okS 6 (c.sts.getD k st0).st∧0≤(c.sts.getD k st0).wt∧(c.sts.getD k st0).wt≤1000000:=by
 obtain ⟨h1,_,_,_,h5,_⟩:=iG h
 exact aoh h1 (h5 k hk)
theorem adz {k:Nat} (h:k<100):(gH k).length≤8:=by
 have:=vH h
 unfold gH stepW
 simp only[aaG,aiC,anV];omega
theorem apk {k:Nat} {x:Stp} (h:k<100) (h1:x.st.length≤6) (h2:x.wt≤1000000):(lnK k x).length≤35:=by
 have h3:=adz h
 have h4:=adj x.st
 have h5:=ao7 h2
 unfold lnK
 simp only[aaG,aiC,anV];omega
theorem afZ {c:aQ} (h:bE c=0):∀{k:Nat},k≤c.sts.length→(bK c.sts k).length≤35*k
 | 0,_=>by simp[bK]
 | k+1,hk=>by
  have h1:=afB h (k:=k) (by omega)
  have h2:=(iG h).2.2.1
  have h3:=apk (k:=k) (by omega) h1.1 h1.2.2.2
  have h4:=afZ h (k:=k) (by omega)
  rw[bK,aaG];omega
theorem aiH {c:aQ} (h:bE c=0) {k:Nat} (hk:k<c.trs.length):((c.trs.getD k aH).fr.length≤24∧(c.trs.getD k aH).to.length≤24)∧(c.trs.getD k aH).to≠[]∧(c.trs.getD k aH).wh.size≤256∧l8 (dO c).length (c.trs.getD k aH).wh:=by
 obtain ⟨_,_,h3,_,_,h6⟩:=iG h
 have h7:=h6 k hk
 have hw:=(mH h hk).2.2
 unfold iD at h7
 split at h7
 ·rename_i h8;exact absurd h7 h8
 rename_i h8
 split at h7
 ·rename_i h9;exact absurd h7 h9
 rename_i h9
 have h9:=arn.1 h9
 have hn:=(qN h).2.2.1
 obtain ⟨_,h10,h11⟩:=aaR.1 hw
 refine ⟨⟨agx (arn.1 h8) h3.2,agx h9 h3.2⟩,?_,h10.1,by rw[hn];exact h11⟩
 have:=(aau h9 h3.2).2.2
 intro e
 rw[e] at this;simp at this
theorem anF {c:aQ} (h:bE c=0):abx (dO c):=fun k=>als (af5 h k) (by decide)
theorem wW {n:Nat} {l:List Int} (h:iK n l) (hn:n≤24):iK 100 l:=fun x hx=>by have:=h x hx;omega
theorem ah5 {c:aQ} (h:bE c=0) {k:Nat} (hk:k<c.trs.length):((inT (c.trs.getD k aH).fr).length≤72∧(inT (c.trs.getD k aH).to).length≤72)∧(d9 (dO c) (c.trs.getD k aH).wh).length≤28160∧(lnT (dO c) (c.trs.getD k aH)).length≤28310:=by
 obtain ⟨h1,h2,h3,h4⟩:=aiH h hk
 have h5:=mH h hk
 have h6:=ac7 (wW h5.1.1 (by decide))
 have h7:=ac7 (wW h5.2.1.1 (by decide))
 have h8:=abp (anF h) _ _ (agv (c.trs.getD k aH).wh.size)
 refine ⟨⟨by omega,by omega⟩,by omega,?_⟩
 unfold lnT
 simp only[aaG,aiC,anV];omega
theorem agI {c:aQ} (h:bE c=0):∀{k:Nat},k≤c.trs.length→(nG (dO c) c.trs k).length≤28310*k
 | 0,_=>by simp[nG]
 | k+1,hk=>by
  have h1:=ah5 h (k:=k) (by omega)
  have h2:=agI h (k:=k) (by omega)
  rw[nG,aaG];omega
def ard:SV:=.p false (.val (.pointer none))
def ar1:Nat→SV
 | 0=>ard
 | _+1=>.own 1 0
def adN (l:List UInt8) (k:Nat):List PV:=[cP (l.getD k 0)]
theorem lS {l m:List UInt8} (h:l=m) {n:Nat}:∀j,j<n→adN l j=adN m j:=fun j _=>by rw[h]
def qm:SV:=.p false (.val (.pointer none))
def zu:SV:=.p false (.val (.slice none 0 0))
theorem afY {P:Program} {f T:Nat} {A:Type} {args:A→List SV} {rest:A→List SV} {pre:A→Prop} {res:A→SV} {objs':A→List Ob}
  (h:jI P f { A:=A,fix:=1,args:=args,objs:=fun a=>[.cells T (qm :: .row 1 :: rest a),om []],pre:=pre,res:=res,objs':=objs' }) :
  jI P f { A:=A,fix:=1,args:=args,objs:=fun a=>[.cells T (qm :: zu :: rest a)],pre:=pre,res:=res,objs':=objs' }:=by
 refine ⟨h.1,fun a hp base E vs w hg H hA=>?_⟩
 have H:bn (yQ w E [.cells T (qm :: zu :: rest a)] base 1) E (iw [.cells T (qm :: zu :: rest a)]) w:=H
 have hA:jR E vs (args a):=hA
 have hn1:∀i,1≤i→E.hd i=none:=fun i hi=>H.new i hi
 obtain ⟨E2,hE2⟩:∃E2:Env,E2={ E with hd:=fun i=>if i=1 then some (.slice none 0 0) else E.hd i }:=⟨_,rfl⟩
 have hd1:E2.hd 1=some (.slice none 0 0):=by rw[hE2];rfl
 have hdn:∀i,i≠1→E2.hd i=E.hd i:=fun i hi=>by rw[hE2];exact if_neg hi
 have hm:E2.mem=E.mem:=by rw[hE2]
 have ht:E2.tm=E.tm:=by rw[hE2]
 have hws:E2.ws=E.ws:=by rw[hE2]
 have hI:E2.I=E.I:=by rw[hE2]
 have hk:E2.k=E.k:=by rw[hE2]
 have hle:E.Le E2:=⟨fun i v hv=>by
  by_cases hi:i=1
  ·subst hi;rw[hn1 1 (agv _)] at hv;cases hv
  ·rw[hdn i hi];exact hv,fun b cs hb=>by rw[hm];exact hb,ht⟩
 have hbl:∀i,i≠1→E2.blk i=E.blk i:=fun i hi=>by unfold Env.blk;rw[hdn i hi]
 have hb1:E2.blk 1=none:=by unfold Env.blk;rw[hd1];rfl
 have hbor:kC E2.hd [.cells T (qm :: .row 1 :: rest a),om []] 0=kC E.hd [.cells T (qm :: zu :: rest a)] 0:=by
  funext b
  refine propext ⟨fun ⟨k,o,_,hk,hb⟩=>?_,fun ⟨k,o,_,hk,hb⟩=>?_⟩
  ·match k with
   | 0=>exact ⟨0,_,agv _,rfl,by rw[←hdn 0 (by decide)];exact hb⟩
   | 1=>rw[hd1] at hb;cases hb
   | k+2=>simp at hk
  ·match k with
   | 0=>exact ⟨0,_,agv _,rfl,by rw[hdn 0 (by decide)];exact hb⟩
   | k+1=>simp at hk
 have hobj:∀i o,(iw [.cells T (qm :: .row 1 :: rest a),om []]).obj i=some o→i=0∧o=.cells T (qm :: .row 1 :: rest a)∨i=1∧o=om []:=fun i o ho=>by
  rw[dQ] at ho
  match i with
  | 0=>cases ho;exact .inl ⟨rfl,rfl⟩
  | 1=>cases ho;exact .inr ⟨rfl,rfl⟩
  | i+2=>simp at ho
 have ob0:(iw [.cells T (qm :: zu :: rest a)]).obj 0=some (.cells T (qm :: zu :: rest a)):=by rw[dQ];rfl
 have HR:bn (yQ w E2 [.cells T (qm :: .row 1 :: rest a),om []] base 1) E2 (iw [.cells T (qm :: .row 1 :: rest a),om []]) w:=by
  refine ⟨fun i o ho=>?_,fun i j o o' b ho ho' hb hb'=>?_,fun i o b ho hb=>?_,fun b cs hb=>H.mem b cs (by rw[←hm];exact hb),fun b cs hb=>hb,fun b cs hb=>.inl hb,fun i hi=>?_,?_,?_,fun k _=>rfl,by show 1≤2;decide,aeu _,by rw[hk];exact H.kk⟩
  ·rcases hobj i o ho with ⟨rfl,rfl⟩ | ⟨rfl,rfl⟩
   ·cases (H.ob 0 _ ob0).mono hle with
    | cells b T vs cs hh hw hl h1 he=>
     refine .cells b T vs _ hh hw hl h1 fun k u s hu hs=>?_
     match k with
     | 0=>exact he 0 u s hu hs
     | 1=>
      cases hs
      have:=he 1 u zu hu rfl
      cases this with
      | p _ _ _ hp=>cases hp;exact .row 1 _ hd1 rfl
     | k+2=>exact he (k+2) u s hu hs
   ·exact .row 5 1 0 _ _ [] (fun _ _=>undef) hd1 ⟨rfl,.inl ⟨rfl,rfl⟩⟩ (aeu _) (fun j hj=>absurd hj (aj9 _)) (fun j _ _ hj=>absurd hj (aj9 _)) (fun j _ _ hj=>absurd hj (aj9 _))
  ·rcases hobj i o ho with ⟨rfl,rfl⟩ | ⟨rfl,rfl⟩
   ·rcases hobj j o' ho' with ⟨rfl,rfl⟩ | ⟨rfl,rfl⟩
    ·rfl
    ·rw[hb1] at hb';cases hb'
   ·rw[hb1] at hb;cases hb
  ·rcases hobj i o ho with ⟨rfl,rfl⟩ | ⟨rfl,rfl⟩
   ·have:=H.own 0 _ b ob0 (by rw[←hbl 0 (by decide)];exact hb)
    unfold Env.mine at this ⊢
    rw[hm,hws,hI];exact this
   ·rw[hb1] at hb;cases hb
  ·have hi:2≤i:=hi
   rw[hdn i (by omega)];exact hn1 i (by omega)
  ·rw[ht];exact H.base
  ·obtain ⟨f1,f2,f3,f4,f5,f6,f7,f8,f9⟩:=H.fr
   refine ⟨f1,f2,f3,by rw[hws];exact f4,by rw[hws];exact f5,by rw[hws];exact f6,by rw[hws,hI];exact f7,by rw[hws,hI];exact f8,?_⟩
   obtain ⟨g1,g2,g3⟩:=f9
   exact ⟨by rw[hk];exact g1,by rw[hI];exact g2.trans hbor.symm,by rw[hws];exact g3⟩
 refine (h.2 a hp base E2 vs w (fun p hp=>by rw[hm];exact hg p hp) HR ⟨hA.1,fun k u s hu hs=>(hA.2 k u s hu hs).mono hle⟩).mono fun e w' ⟨v,E',he,hv,R⟩=>⟨v,E',he,hv,?_⟩
 obtain ⟨r1,r2,r3,r4,r5,r6,r7,r8,⟨f1,f2,f3,f4,f5,f6,f7,f8,g1,g2,g3⟩,r10,r11,r12,r13⟩:=R
 refine ⟨r1,r2,r3,r4,fun b cs hb=>r5 b cs (by show E2.mem b=some cs;rw[hm];exact hb),fun b cs hb=>(r6 b cs hb).imp (fun hb=>by show E.mem b=some cs;rw[←hm];exact hb) id,r7,r8,⟨f1,f2,f3,f4,f5,f6,f7,f8,g1,g2.trans hbor,g3⟩,fun k hk=>(r10 k hk).trans (hdn k (by have hk:k<1:=hk;omega)),r11,r12,r13⟩
theorem ank {sep:List UInt8} {l:List (List UInt8)} (hs:sep≠[]) (h:2≤l.length):jd sep l≠[]:=by
 match l with
 | x :: y :: l=>
  intro e
  have:(jd sep (x :: y :: l)).length=0:=by rw[e];rfl
  simp only[jd,aaG] at this
  have:sep.length=0:=by omega
  exact hs (apC.1 this)
theorem ano {nm:NM} {x:Ex} (hg:l8 nm.length x) (hn:∀s∈nm,s≠[]):d9 nm x≠[]:=by
 obtain ⟨hn0,_⟩:=(vZ _ _).1 hg
 obtain ⟨ho,hle,hi⟩:=rP hn0
 rw[qp]
 split
 ·simp
 rename_i h0
 split
 ·rename_i h1
  have ht:wZ x.op nm.length=nm.length-1:=by unfold wZ;rw[if_neg h0,if_pos h1]
  rw[ht] at hi
  exact hn _ (acI (bI [] (show x.idx.toNat<nm.length by omega)))
 rename_i h1
 split
 ·simp
 ·rename_i h2
  have:pI x.op=2:=by unfold pI;rw[if_neg h2,if_pos (by omega)]
  exact ank (by unfold zq;split<;>simp) (by rw[anB];omega)
theorem apb {nm:NM} {x:Ex} {out:Int} (h:out<0):oO nm x out=d9 nm x:=by
 unfold oO wrB
 rw[decide_eq_false (show ¬0≤out by omega),anZ,ap2];rfl
def wrC (Q:WrA→Prop):qy:={ wrG 0 with pre:=fun a=>ajy a∧Q a }
theorem arW:jI Tryz.prog 141 (wrC fun a=>a.st=true∧a.x.op=1):=by
 refine oU (Tb:=tab) mixed aB Tryz.func141 rfl rfl ?_
 rintro ⟨st,nm,bs,x,out⟩ hpre
 refine ai (ai rfl (ai rfl rfl)) ?_
 obtain ⟨⟨hg,hs,hnm,hnl,hlen⟩,hst,hQ⟩:=hpre
 obtain rfl:st=true:=hst
 have hg:l8 nm.length x:=hg
 have hnm:abx nm:=hnm
 have hlen:bs.length+110*x.size≤500000:=hlen
 obtain ⟨hn0,hga⟩:=(vZ _ _).1 hg
 obtain ⟨ho,hle,hi⟩:=rP hn0
 have hA:=qp nm x
 have hQ:x.op=1:=hQ
 refine ah (p:=x.op=0) (gV (by omega)) (fun h0=>?_) (fun h0=>?_)
 ·exact absurd h0 (by omega)
 rw[if_neg h0] at hA
 refine ah (p:=x.op=1) (gV (by omega)) (fun h1=>?_) (fun h1=>?_)
 ·rw[if_pos h1] at hA
  have hnk:(nm.getD x.idx.toNat []).length≤100:=hnm _
  have ht:wZ x.op nm.length=nm.length-1:=by rw[h1];rfl
  rw[ht] at hi
  have hW:oO nm x out=nm.getD x.idx.toNat []:=by
   unfold oO wrB;rw[hA,h1];rfl
  refine ei (.one 0 (.one 1 (.one 2 (.one 3 (.one 4 (.one 5 (.one 6 (.one 7 (.one 8 (.one 9 (.one 10 (.wr 11 .done)))))))))))) (ai (by kernel_rfl) ?_)
  refine ai (ai hi.1 (by show x.idx<(nm.length:Int);omega)) ?_
  refine ai rfl ?_
  refine eO (agm) ((true,nm,bs,nm.getD x.idx.toNat [])) [0,1] (a4 (ai rfl rfl)) (Or.inl rfl) (by exact (ai (ai rfl rfl) rfl)) (by exact (ai (ai rfl (ai (ai rfl rfl) (ai rfl (ai rfl (fun _ _=>rfl))))) (ai rfl (ai rfl (ai rfl (fun _ _=>rfl)))))) (⟨by show bs.length≤1000000;omega,by show (nm.getD x.idx.toNat []).length≤1000000;exact als hnk (by decide)⟩) ?_
  refine ei [0,3] (ai (ai rfl (ai rfl rfl)) (ai (by exact trivial) ?_))
  refine (ai (ai rfl (ai (ai rfl rfl) (ai rfl (ai rfl (fun _ _=>rfl))))) (ai rfl (ai rfl (ai ?_ ?_))))
  ·exact congrArg List.length (congrArg (fun t=>bs++t) hW.symm)
  ·exact fun k _=>congrArg (fun l=>[cP (l.getD k 0)]) (congrArg (fun t=>bs++t) hW.symm)
 exact absurd hQ h1
theorem am3:jI Tryz.prog 141 (wrC fun a=>a.st=false∧a.x.op=1):=by
 refine oU (Tb:=tab) mixed aB Tryz.func141 rfl rfl ?_
 rintro ⟨st,nm,bs,x,out⟩ hpre
 refine ai (ai rfl (ai rfl rfl)) ?_
 obtain ⟨⟨hg,hs,hnm,hnl,hlen⟩,hst,hQ⟩:=hpre
 obtain rfl:st=false:=hst
 have hg:l8 nm.length x:=hg
 have hnm:abx nm:=hnm
 have hlen:bs.length+110*x.size≤500000:=hlen
 obtain ⟨hn0,hga⟩:=(vZ _ _).1 hg
 obtain ⟨ho,hle,hi⟩:=rP hn0
 have hA:=qp nm x
 have hQ:x.op=1:=hQ
 refine ah (p:=x.op=0) (gV (by omega)) (fun h0=>?_) (fun h0=>?_)
 ·exact absurd h0 (by omega)
 rw[if_neg h0] at hA
 refine ah (p:=x.op=1) (gV (by omega)) (fun h1=>?_) (fun h1=>?_)
 ·rw[if_pos h1] at hA
  have hnk:(nm.getD x.idx.toNat []).length≤100:=hnm _
  have ht:wZ x.op nm.length=nm.length-1:=by rw[h1];rfl
  rw[ht] at hi
  have hW:oO nm x out=nm.getD x.idx.toNat []:=by
   unfold oO wrB;rw[hA,h1];rfl
  refine ei (.one 0 (.one 1 (.one 2 (.one 3 (.one 4 (.one 5 (.one 6 (.one 7 (.one 8 (.one 9 (.one 10 (.wr 11 .done)))))))))))) (ai (by kernel_rfl) ?_)
  refine ai (ai hi.1 (by show x.idx<(nm.length:Int);omega)) ?_
  refine ai rfl ?_
  refine eO (agm) ((false,nm,bs,nm.getD x.idx.toNat [])) [0,1] (a4 (ai rfl rfl)) (Or.inl rfl) (by exact (ai (ai rfl rfl) rfl)) (by exact (ai (ai rfl (ai rfl (ai rfl (ai rfl (fun _ _=>rfl))))) (ai rfl (ai rfl (ai rfl (fun _ _=>rfl)))))) (⟨by show bs.length≤1000000;omega,by show (nm.getD x.idx.toNat []).length≤1000000;exact als hnk (by decide)⟩) ?_
  refine ei [0,3] (ai (ai rfl (ai rfl rfl)) (ai (by exact trivial) ?_))
  refine (ai (ai rfl (ai (ai rfl rfl) (ai rfl (ai rfl (fun _ _=>rfl))))) (ai rfl (ai rfl (ai ?_ ?_))))
  ·exact congrArg List.length (congrArg (fun t=>bs++t) hW.symm)
  ·exact fun k _=>congrArg (fun l=>[cP (l.getD k 0)]) (congrArg (fun t=>bs++t) hW.symm)
 exact absurd hQ h1
theorem arZ:jI Tryz.prog 141 (wrC fun a=>a.st=false∧(a.x.op=3∧a.out<0)∧∀y∈a.x.args,y.op=1):=by
 refine oU (Tb:=tab) mixed aB Tryz.func141 rfl rfl ?_
 rintro ⟨st,nm,bs,x,out⟩ hpre
 refine ai (ai rfl (ai rfl rfl)) ?_
 obtain ⟨⟨hg,hs,hnm,hnl,hlen⟩,hst,hQ,hv⟩:=hpre
 obtain rfl:st=false:=hst
 have hv:∀y∈x.args,y.op=1:=hv
 have hg:l8 nm.length x:=hg
 have hs:x.size≤256:=hs
 have hnm:abx nm:=hnm
 have hnl:nm.length≤256:=hnl
 have hlen:bs.length+110*x.size≤500000:=hlen
 have hsp:=size_pos x
 have hal:=wJ x
 have hsz:=x.size_eq
 obtain ⟨hn0,hga⟩:=(vZ _ _).1 hg
 obtain ⟨ho,hle,hi⟩:=rP hn0
 have hA:=qp nm x
 have hQ:x.op=3∧out<0:=hQ
 refine ah (p:=x.op=0) (gV (by omega)) (fun h0=>?_) (fun h0=>?_)
 ·exact absurd h0 (by omega)
 rw[if_neg h0] at hA
 refine ah (p:=x.op=1) (gV (by omega)) (fun h1=>?_) (fun h1=>?_)
 ·exact absurd h1 (by omega)
 rw[if_neg h1] at hA
 refine ah (p:=x.op=2) (gV (by omega)) (fun h2=>?_) (fun h2=>?_)
 ·exact absurd h2 (by omega)
 rw[if_neg h2] at hA
 have hl2:2≤x.args.length:=by
  have:pI x.op=2:=by unfold pI;rw[if_neg h2,if_pos (by omega)]
  omega
 have hW:oO nm x out=d9 nm x:=by
  unfold oO wrB;rw[decide_eq_false (show ¬0≤out by omega)];simp[adI]
 refine ah (p:=0≤out) (cu (by omega)) (fun h3=>?_) (fun h3=>?_)
 ·exact absurd h3 (by omega)
 refine ah (p:=x.op=4) (gV (by omega)) (fun h4=>?_) (fun h4=>?_)
 ·exact absurd h4 (by omega)
 ·refine ei (bF.inv { X:=Nat,up:=fun k=>[(71,.s (iA k))],uo:=fun k=>[⟨0,202,[.s (arM false k),.rw 5 1 (jy nm (bs) [32,38,32] x.op x.args k).length (fun j=>[cP ((jy nm (bs) [32,38,32] x.op x.args k).getD j 0)]),.s (ssA nm)]⟩],inv:=fun k=>k≤x.args.length∧(True),meas:=fun k=>x.args.length-k,x0:=0 }) ?_
  refine ai (ai (ai (by exact (a4 (ai rfl rfl))) (ai ?_ ?_)) rfl) (ai (ai (aeu _) ?_) ?_)
  ·exact (ai (ai (fun _=>rfl) (iE (by simp only[zz,reduceCtorEq];rfl))) rfl)
  ·refine (ai (ai (ai (ai nof rfl) rfl) (ai (ai rfl (ai rfl (ai ?_ ?_))) (ai (ai nof (ai rfl (fun _ _=>rfl))) rfl))) trivial)
   ·exact congrArg List.length (uP nm (bs) [32,38,32] x.op x.args).symm
   ·exact fun j _=>congrArg (fun l=>[cP (l.getD j 0)]) (uP nm (bs) [32,38,32] x.op x.args).symm
  ·trivial
  intro (k:Nat) ⟨hk,_⟩
  have hpl:=amU (nm:=nm) (base:=bs) (sep:=[32,38,32]) (o:=x.op) hnm rfl hk
  cases k with
  | zero=>
   have hk0:0<x.args.length:=by omega
   refine ah (p:=0<x.args.length) (au (by dsimp only;omega)) (fun h5=>?_) (fun h5=>?_)
   ·refine ai (ai (aa1 _) (iN (n:=x.args.length) (by omega))) (ai rfl ?_)
    have hy:x.args.getD 0 dS∈x.args:=acI (wH hk0)
    have hms:=lI hy
    have hb0:=congrArg List.length (uP nm (bs) [32,38,32] x.op x.args)
    have hB:(bs).length≤bs.length+1:=by simp
    refine eO (am3) (⟨false,nm,jy nm (bs) [32,38,32] x.op x.args 0,x.args.getD 0 dS,x.op⟩) [0,3] (a4 (ai rfl rfl)) (Or.inl rfl) (by exact (ai (ai rfl rfl) (ai (ai (iE (by simp only[zz,reduceCtorEq])) (ai (iE (by simp only[zz,reduceCtorEq])) (ai rfl (exE _)))) rfl))) (by exact (ai (ai rfl (ai rfl (ai rfl (ai rfl (fun _ _=>rfl))))) (ai rfl (ai rfl (ai rfl (fun _ _=>rfl)))))) (ai ⟨hga _ hy,by show (x.args.getD 0 dS).size≤256;omega,hnm,hnl,by show (jy nm (bs) [32,38,32] x.op x.args 0).length+110*(x.args.getD 0 dS).size≤_;omega⟩ ⟨rfl,hv _ hy⟩) ?_
    have eN:jy nm (bs) [32,38,32] x.op x.args 0++oO nm (x.args.getD 0 dS) x.op=jy nm (bs) [32,38,32] x.op x.args (0+1):=by
     rw[aiK nm _ ho.1,uP,am0 hk0]
    refine ei (0+1) (ai (ai rfl rfl) (ai (ai (ai rfl (ai (ai rfl rfl) (ai (ai rfl rfl) (ai (ai (ai (fun _=>rfl) (aO (by omega))) rfl) (ai (ai (ai (ai rfl rfl) rfl) (ai (ai rfl (ai rfl (ai ?_ ?_))) (ai (ai nof (ai rfl (fun _ _=>rfl))) rfl))) trivial))))) rfl) (ai (ai (iL (by omega)) trivial) (iM (by omega)))))
    ·exact congrArg List.length eN
    ·exact fun j _=>congrArg (fun l=>[cP (l.getD j 0)]) eN
   ·exact absurd hk0 h5
  | succ k=>
   refine ah (p:=k+1<x.args.length) (au (by dsimp only;omega)) (fun h5=>?_) (fun h5=>?_)
   ·refine ai (ai (aa1 _) (iN (n:=x.args.length) (by omega))) (ai rfl ?_)
    have hy:x.args.getD (k+1) dS∈x.args:=acI (wH h5)
    have hms:=lI hy
    have hss:=wu h5
    have hst:=acO x.args (k+1+1)
    have hB:(bs).length≤bs.length+1:=by simp
    rw[if_neg (by omega)] at hpl
    refine ah (p:=0<k+1) (au (by omega)) (fun h6=>?_) (fun h6=>?_)
    ·refine eO (agm) ((true,nm,jy nm (bs) [32,38,32] x.op x.args (k+1),[32,38,32])) [0,3] (a4 (ai rfl rfl)) (Or.inl rfl) (by exact (ai (ai rfl rfl) rfl)) (by exact (ai (ai rfl (ai (ai rfl rfl) (ai rfl (ai rfl (fun _ _=>rfl))))) (ai rfl (ai rfl (ai rfl (fun _ _=>rfl)))))) (⟨by show (jy nm (bs) [32,38,32] x.op x.args (k+1)).length≤1000000;omega,by show ([32,38,32]:List UInt8).length≤1000000;simp⟩) ?_
     refine eO (arW) (⟨true,nm,jy nm (bs) [32,38,32] x.op x.args (k+1)++[32,38,32],x.args.getD (k+1) dS,x.op⟩) [0,5] (a4 (ai rfl rfl)) (Or.inl rfl) (by exact (ai (ai rfl rfl) (ai (ai (iE (by simp only[zz,reduceCtorEq])) (ai (iE (by simp only[zz,reduceCtorEq])) (ai rfl (exE _)))) rfl))) (by exact (ai (ai rfl (ai (ai rfl rfl) (ai rfl (ai rfl (fun _ _=>rfl))))) (ai rfl (ai rfl (ai rfl (fun _ _=>rfl)))))) (ai ⟨hga _ hy,by show (x.args.getD (k+1) dS).size≤256;omega,hnm,hnl,by show (jy nm (bs) [32,38,32] x.op x.args (k+1)++[32,38,32]).length+110*(x.args.getD (k+1) dS).size≤_;rw[aaG];show (jy nm (bs) [32,38,32] x.op x.args (k+1)).length+3+110*(x.args.getD (k+1) dS).size≤_;omega⟩ ⟨rfl,hv _ hy⟩) ?_
     have eN:jy nm (bs) [32,38,32] x.op x.args (k+1)++[32,38,32]++oO nm (x.args.getD (k+1) dS) x.op=jy nm (bs) [32,38,32] x.op x.args (k+1+1):=by
      rw[aiK nm _ ho.1,ako h5]
     refine ei ((k+1)+1) (ai (ai rfl rfl) (ai (ai (ai rfl (ai (ai rfl rfl) (ai (ai rfl rfl) (ai (ai (ai (fun _=>rfl) (aO (by omega))) rfl) (ai (ai (ai (ai rfl rfl) rfl) (ai (ai rfl (ai rfl (ai ?_ ?_))) (ai (ai nof (ai rfl (fun _ _=>rfl))) rfl))) trivial))))) rfl) (ai (ai (iL (by omega)) trivial) (iM (by omega)))))
     ·exact congrArg List.length eN
     ·exact fun j _=>congrArg (fun l=>[cP (l.getD j 0)]) eN
    ·exact absurd (Nat.succ_pos k) h6
   ·have hke:k+1=x.args.length:=by omega
    have eT:jy nm (bs) [32,38,32] x.op x.args (k+1)=bs++d9 nm x:=by
     rw[hke,anb,hA];unfold zq;rw[if_neg h4]
    refine ei [0,3] (ai (ai rfl (ai rfl rfl)) (ai (by exact trivial) ?_))
    refine (ai (ai rfl (ai (ai rfl rfl) (ai rfl (ai rfl (fun _ _=>rfl))))) (ai rfl (ai rfl (ai ?_ ?_))))
    ·exact congrArg List.length (eT.trans (congrArg (fun t=>bs++t) hW.symm))
    ·exact fun k _=>congrArg (fun l=>[cP (l.getD k 0)]) (eT.trans (congrArg (fun t=>bs++t) hW.symm))
def abI (x:Ex):Prop:=x.op=1∨x.op=3∧∀y∈x.args,y.op=1
theorem ak9:jI Tryz.prog 141 (wrC fun a=>a.st=false∧a.out<0∧abI a.x):=
 ⟨am3.1,fun a hp base E vs w hg hh hA=>by
  obtain ⟨h1,h2,h3,h4⟩:=hp
  rcases h4 with h4 | ⟨h4,h5⟩
  ·exact am3.2 a ⟨h1,h2,h4⟩ base E vs w hg hh hA
  ·exact arZ.2 a ⟨h1,h2,⟨h4,h3⟩,h5⟩ base E vs w hg hh hA⟩
def apW (a:NM×Ex×Int):Prop:=ajy ⟨false,a.1,[],a.2.1,a.2.2⟩∧a.2.2<0∧abI a.2.1
theorem aje:jI Tryz.prog 141 { A:=NM×Ex×Int,fix:=1,args:=fun a=>[.own 0 0,uF a.2.1,iA a.2.2],objs:=fun a=>[.cells 202 (qm :: zu :: nmR a.1)],pre:=apW,res:=fun _=>.tup [],objs':=fun a=>[bld 202 (nmR a.1),om ([]++oO a.1 a.2.1 a.2.2)] }:=
 afY (T:=202) (rest:=fun a:NM×Ex×Int=>nmR a.1) ⟨ak9.1,fun a hp=>ak9.2 ⟨false,a.1,[],a.2.1,a.2.2⟩ ⟨hp.1,rfl,hp.2.1,hp.2.2⟩⟩
def ahW (a:Ex×NM):Prop:=jZ a.2=0∧dM a.1 a.2.length=0∧(∀k,(a.2.getD k []).length≤100)∧(∀s∈a.2,s≠[])∧a.1.size≤256∧(d9 a.2 a.1).length≤4096∧abI a.1
theorem ajp:aK Tryz.prog 82 (bR (fun a:Ex×NM=>[uF a.1,ssA a.2]) ahW (fun a=>.tup [sP (d9 a.2 a.1),iP 0])):=by
 refine iY [141,142,84] ?_
 refine aX (Tb:=tab) mixed aB Tryz.func82 rfl rfl ?_
 rintro ⟨x,nm⟩ hpre
 refine ai (ai rfl (ai rfl rfl)) ?_
 obtain ⟨h1,h2,h3,h4,h5,h6,h7⟩:=hpre
 have h1:jZ nm=0:=h1
 have h2:dM x nm.length=0:=h2
 have h3:∀k,(nm.getD k []).length≤100:=h3
 have h4:∀s∈nm,s≠[]:=h4
 have h5:x.size≤256:=h5
 have h6:(d9 nm x).length≤4096:=h6
 obtain ⟨hn,_,hg⟩:=aaR.1 h2
 have hnl:∀s∈nm,s.length≤1000000:=fun s hs=>by
  obtain ⟨k,hk,rfl⟩:=apT hs
  have:=h3 k
  rw[aaI,aaQ hk] at this
  have this:(nm[k]).length≤100:=this
  omega
 refine ei _ (ai (amI) (ei (nm) (ei [] (ai (a4 (ai (fun _=>Or.inl rfl) (ai nof (Or.inl rfl)))) (ai (by exact (ai rfl (fun _ _=>rfl))) (ai trivial (ai (hnl) ?_)))))))
 refine bD (p:=jZ nm=0) (bU (by omega)) (fun g1=>?_) (fun g1=>?_)
 ·exact absurd h1 g1
 refine ei _ (ai (agJ) (ei ((x,(nm.length:Int))) (ei [] (ai (a4 (ai (fun _=>Or.inl rfl) (ai nof (Or.inl rfl)))) (ai (by exact (ai (ai rfl (ai rfl (ai rfl (fun _ _=>rfl)))) rfl)) (ai trivial (ai ((by show x.size≤1000000;omega)) ?_)))))))
 refine bD (p:=dM x nm.length=0) (bU (by dsimp only;omega)) (fun g2=>?_) (fun g2=>?_)
 ·exact absurd h2 g2
 refine eO (aje) ((nm,x,-1)) [1] (a4 (ai rfl rfl)) (Or.inl rfl) (by exact (ai (ai rfl rfl) (ai (ai rfl (ai rfl (ai rfl (fun _ _=>rfl)))) rfl))) (by exact (ai rfl (ai rfl (ai rfl (ai rfl (fun _ _=>rfl)))))) (⟨⟨hg,h5,h3,by show nm.length≤256;omega,by show 0+110*x.size≤500000;omega⟩,(by show (-1:Int)<0;decide),h7⟩) ?_
 have eW:([]:List UInt8)++oO nm x (-1)=d9 nm x:=by rw[apb (by decide)];rfl
 refine eO (aod) ((nm,[]++oO nm x (-1))) [1,2] (a4 (ai rfl rfl)) (Or.inl rfl) (by exact (ai rfl rfl)) (by exact (ai (ai rfl (ai (ai rfl rfl) (ai rfl (ai rfl (fun _ _=>rfl))))) (ai rfl (ai rfl (ai rfl (fun _ _=>rfl)))))) (trivial) ?_
 refine ah (p:=4096<(([]:List UInt8)++oO nm x (-1)).length) (au (by dsimp only;omega)) (fun g3=>?_) (fun g3=>?_)
 ·rw[eW] at g3;exact absurd h6 (by omega)
 refine alm (ahQ 202 3) rfl rfl rfl rfl ([]++oO nm x (-1)) rfl (by rw[eW];exact ano hg h4) (fun k _=>rfl) ?_
 refine ai (ai (fun _=>(by exact (ai trivial trivial))) ?_) trivial
 show ak _ (PV.tup [sP (d9 nm x),iP 0])
 rw[show d9 nm x=[]++oO nm x (-1) from eW.symm]
 exact (ai rfl rfl)
def an9 (c:aQ):Prop:=jr c∧(bE c=0→∀t∈c.trs,t.wh.size≤120∧abI t.wh)
theorem amQ {c:aQ} (h:bE c=0) (h2:∀t∈c.trs,t.wh.size≤120∧abI t.wh) {k:Nat} (hk:k<c.trs.length):ahW ((c.trs.getD k aH).wh,dO c):=by
 have hn:=(qN h).2.2.1
 have hs:=h2 _ (acI (bI aH hk))
 refine ⟨ai8 h,?_,anF h,fun s hm e=>?_,by show (c.trs.getD k aH).wh.size≤256;omega,?_,hs.2⟩
 ·show dM (c.trs.getD k aH).wh ((dO c).length:Int)=0
  rw[hn];exact (mH h hk).2.2
 ·have:=((qN h).1 s hm).2
  rw[e] at this;exact absurd this (by decide)
 ·have:=ac2 (af5 h) _ _ (agv (c.trs.getD k aH).wh.size)
  show (d9 (dO c) (c.trs.getD k aH).wh).length≤4096
  omega
set_option maxHeartbeats 4000000 in
theorem acF:aK Tryz.prog 24 (fnG (fun c:aQ=>[kP c]) an9 uH):=by
 refine iY [78,81,84] ?_
 refine aX (Tb:=tab) mixed aB Tryz.func24 rfl rfl ?_
 rintro (c:aQ) hpre
 refine ai (ai rfl (ai rfl rfl)) ?_
 obtain ⟨ho,h40⟩:=hpre
 have ho:jr c:=ho
 refine ei _ (ai (ak3) (ei (c) (ei [] (ai (a4 (ai (fun _=>Or.inl rfl) (ai nof (Or.inl rfl)))) (ai (by exact (ai rfl (ai (ai rfl (fun _ _=>rfl)) (ai (ai rfl (fun _ _=>rfl)) (ai rfl (fun _ _=>rfl)))))) (ai trivial (ai (ho) ?_)))))))
 refine bD (p:=bE c=0) (bU (by omega)) (fun h1=>?_) (fun h1=>?_)
 ·refine ai (ai (fun _=>(by exact (ai trivial trivial))) ?_) trivial
  show ak _ (uH c)
  rw[uH,if_neg h1]
  exact (ai rfl rfl)
 have hc:bE c=0:=h1
 have h40:∀t∈c.trs,t.wh.size≤120∧abI t.wh:=h40 hc
 obtain ⟨_,_,hs24,ht32,_⟩:=iG hc
 refine ei (bF.inv { X:=Nat,up:=fun k=>[(24,.s (iA k))],uo:=fun k=>[⟨1,143,[.s (ar1 k),.rw 5 1 (bK c.sts k).length (adN (bK c.sts k))]⟩],inv:=fun k=>k≤c.sts.length∧(True),meas:=fun k=>c.sts.length-k,x0:=0 }) ?_
 refine ai (ai (ai (by exact (a4 (ai rfl rfl))) (ai ?_ ?_)) rfl) (ai (ai (aeu _) ?_) ?_)
 ·exact (ai (ai (fun _=>rfl) (iE (by simp only[zz,reduceCtorEq];rfl))) rfl)
 ·exact (ai (ai (ai (ai (fun _=>rfl) rfl) rfl) rfl) trivial)
 ·trivial
 intro (k:Nat) ⟨hk,_⟩
 have hL:=afZ hc hk
 cases k with
 | zero=>
  refine ah (p:=(0:Nat)<c.sts.length) (au (by omega)) (fun h2=>?_) (fun h2=>?_)
  ·refine ai (ai (aa1 _) (iN (n:=c.sts.length) (by omega))) (ai rfl ?_)
   have hd:=vH (n:=(0:Nat)) (by omega)
   have hh:=adz (k:=(0:Nat)) (by omega)
   obtain ⟨g1,g2,g3,g4⟩:=afB hc h2
   refine ei _ (ai (vX) (ei ((0:Nat)) (ei [] (ai (a4 (ai (fun _=>Or.inl rfl) (ai nof (Or.inl rfl)))) (ai (by exact rfl) (ai trivial (ai ((by show (0:Nat)<100;omega)) ?_)))))))
   refine ai (qh (l:=stepW) (m:=dec ((0:Nat))) rfl rfl (by show 5+_≤_;omega)) (ai (qh (l:=stepW++dec ((0:Nat))) (m:=[58]) (eH _ _) rfl (by rw[aaG];show 5+_+1≤_;omega)) ?_)
   refine eO (sS) ((false,[],bK c.sts ((0:Nat)),gH ((0:Nat)))) [1,2] (a4 (ai rfl rfl)) (Or.inl rfl) ?_ (by exact (ai (ai rfl (ai rfl rfl)) (ai rfl (ai rfl (ai rfl (fun _ _=>rfl)))))) (⟨by show (bK c.sts ((0:Nat))).length≤1000000;omega,by show (gH ((0:Nat))).length≤1000000;omega⟩) ?_
   ·exact (ai (ai rfl rfl) rfl)
   refine ei (bF.inv { X:=Nat,up:=fun j=>[(37,.s (iA j))],uo:=fun j=>[⟨1,143,[.s (.own 1 0),.rw 5 1 ((bK c.sts ((0:Nat))++gH ((0:Nat)))++iR ((c.sts.getD ((0:Nat)) st0).st.take j)).length (adN ((bK c.sts ((0:Nat))++gH ((0:Nat)))++iR ((c.sts.getD ((0:Nat)) st0).st.take j)))]⟩],inv:=fun j=>j≤(c.sts.getD ((0:Nat)) st0).st.length∧(True),meas:=fun j=>(c.sts.getD ((0:Nat)) st0).st.length-j,x0:=0 }) ?_
   refine ai (ai (ai (by exact (a4 (ai rfl rfl))) (ai ?_ ?_)) rfl) (ai (ai (aeu _) ?_) ?_)
   ·exact (ai (ai (fun _=>rfl) (iE (by simp only[zz,reduceCtorEq];rfl))) rfl)
   ·refine (ai (ai (ai (ai rfl rfl) rfl) (ai rfl (ai rfl (ai ?_ ?_)))) trivial)
    ·show (bK c.sts ((0:Nat))++gH ((0:Nat))).length=((bK c.sts ((0:Nat))++gH ((0:Nat)))++[]).length
     rw[aqr]
    ·exact lS (by show _=_++[];rw[aqr])
   ·trivial
   intro (j:Nat) ⟨hj,_⟩
   have hT:=adj ((c.sts.getD ((0:Nat)) st0).st.take j)
   rw[aiN] at hT
   refine ah (p:=j<(c.sts.getD ((0:Nat)) st0).st.length) (by simp only[zz,reduceCtorEq];omega) (fun h3=>?_) (fun h3=>?_)
   ·refine ai (ai (aa1 _) (iN (n:=(c.sts.getD ((0:Nat)) st0).st.length) (by omega))) (ai rfl ?_)
    have hw:(nU ((c.sts.getD ((0:Nat)) st0).st.getD j bJ)).length=2:=rfl
    refine ei _ (ai (agH) (ei ((c.sts.getD ((0:Nat)) st0).st.getD j bJ) (ei [] (ai (a4 (ai (fun _=>Or.inl rfl) (ai nof (Or.inl rfl)))) (ai (by exact (ai (iE (by simp only[zz,reduceCtorEq])) rfl)) (ai trivial (ai (vN g2 h3) ?_)))))))
    refine ai (qh (l:=[32]) (m:=nU ((c.sts.getD ((0:Nat)) st0).st.getD j bJ)) rfl rfl (by rw[hw];decide)) ?_
    refine eO (sS) ((true,[],(bK c.sts ((0:Nat))++gH ((0:Nat)))++iR ((c.sts.getD ((0:Nat)) st0).st.take j),[32]++nU ((c.sts.getD ((0:Nat)) st0).st.getD j bJ))) [1,5] (a4 (ai rfl rfl)) (Or.inl rfl) ?_ (by exact (ai (ai rfl (ai (ai rfl rfl) rfl)) (ai rfl (ai rfl (ai rfl (fun _ _=>rfl)))))) (⟨by show ((bK c.sts ((0:Nat))++gH ((0:Nat)))++iR ((c.sts.getD ((0:Nat)) st0).st.take j)).length≤1000000;simp only[aaG,aiC,anV];omega,by show ([32]++nU ((c.sts.getD ((0:Nat)) st0).st.getD j bJ)).length≤1000000;rw[aaG,hw];decide⟩) ?_
    ·exact (ai (ai rfl rfl) rfl)
    have eN:((bK c.sts ((0:Nat))++gH ((0:Nat)))++iR ((c.sts.getD ((0:Nat)) st0).st.take j))++([32]++nU ((c.sts.getD ((0:Nat)) st0).st.getD j bJ))=(bK c.sts ((0:Nat))++gH ((0:Nat)))++iR ((c.sts.getD ((0:Nat)) st0).st.take (j+1)):=by
     rw[aS bJ h3]
     unfold iR
     rw[List.flatMap_append]
     simp
    refine ei (j+1) (ai (ai rfl rfl) (ai (ai (ai rfl (ai (ai rfl rfl) (ai (ai rfl rfl) (ai (ai (ai (fun _=>rfl) (aO (by omega))) rfl) (ai (ai (ai (ai rfl rfl) rfl) (ai rfl (ai rfl (ai ?_ ?_)))) trivial))))) rfl) (ai (ai (iL (by omega)) trivial) (iM (by omega)))))
    ·exact congrArg List.length eN
    ·exact lS eN
   obtain rfl:j=(c.sts.getD ((0:Nat)) st0).st.length:=by omega
   have et:(c.sts.getD ((0:Nat)) st0).st.take (c.sts.getD ((0:Nat)) st0).st.length=(c.sts.getD ((0:Nat)) st0).st:=agN
   rw[et] at hT
   refine ah (p:=0<(c.sts.getD ((0:Nat)) st0).wt) (au Iff.rfl) (fun h4=>?_) (fun h4=>?_)
   ·obtain ⟨w,hw⟩:∃w:Nat,(c.sts.getD ((0:Nat)) st0).wt=(w:Int):=⟨(c.sts.getD ((0:Nat)) st0).wt.toNat,by omega⟩
    have hd7:=abA (n:=w) (by omega)
    have e0:tX (c.sts.getD ((0:Nat)) st0).wt=[32]++dec w:=by unfold tX;rw[if_pos h4,hw];rfl
    refine ei _ (ai (agT) (ei (w) (ei [] (ai (a4 (ai (fun _=>Or.inl rfl) (ai nof (Or.inr rfl)))) (ai ?_ (ai (by exact trivial) (ai ((by show w≤1000000;omega)) ?_)))))))
    ·exact (iE (by simp only[zz,reduceCtorEq];omega))
    refine ai (qh (l:=[32]) (m:=dec w) rfl rfl (by show 1+_≤_;omega)) ?_
    refine eO (sS) ((true,[],(bK c.sts ((0:Nat))++gH ((0:Nat)))++iR ((c.sts.getD ((0:Nat)) st0).st.take (c.sts.getD ((0:Nat)) st0).st.length),[32]++dec w)) [1,5] (a4 (ai rfl rfl)) (Or.inl rfl) ?_ (by exact (ai (ai rfl (ai (ai rfl rfl) rfl)) (ai rfl (ai rfl (ai rfl (fun _ _=>rfl)))))) (⟨by show ((bK c.sts ((0:Nat))++gH ((0:Nat)))++iR ((c.sts.getD ((0:Nat)) st0).st.take (c.sts.getD ((0:Nat)) st0).st.length)).length≤1000000;rw[et];simp only[aaG,aiC,anV];omega,by show ([32]++dec w).length≤1000000;rw[aaG];show 1+_≤_;omega⟩) ?_
    ·exact (ai (ai rfl rfl) rfl)
    refine eO (acZ) ((true,[],((bK c.sts ((0:Nat))++gH ((0:Nat)))++iR ((c.sts.getD ((0:Nat)) st0).st.take (c.sts.getD ((0:Nat)) st0).st.length))++([32]++dec w),10)) [1,6] (a4 (ai rfl rfl)) (Or.inl rfl) (by exact (ai (ai rfl rfl) (iE (by simp only[zz,reduceCtorEq];rfl)))) (by exact (ai (ai rfl (ai (ai rfl rfl) rfl)) (ai rfl (ai rfl (ai rfl (fun _ _=>rfl)))))) ((by show (((bK c.sts ((0:Nat))++gH ((0:Nat)))++iR ((c.sts.getD ((0:Nat)) st0).st.take (c.sts.getD ((0:Nat)) st0).st.length))++([32]++dec w)).length≤1000000;rw[et];simp only[aaG,aiC,anV];omega)) ?_
    have eN:(((bK c.sts ((0:Nat))++gH ((0:Nat)))++iR ((c.sts.getD ((0:Nat)) st0).st.take (c.sts.getD ((0:Nat)) st0).st.length))++([32]++dec w))++[10]=bK c.sts ((0:Nat)+1):=by
     show _=bK c.sts ((0:Nat))++((((gH ((0:Nat))++iR (c.sts.getD ((0:Nat)) st0).st)++tX (c.sts.getD ((0:Nat)) st0).wt))++[10])
     rw[et,e0]
     simp only[asf]
    refine ei (((0:Nat))+1) (ai (ai rfl rfl) (ai (ai (ai rfl (ai (ai rfl rfl) (ai (ai rfl rfl) (ai (ai (ai (fun _=>rfl) (aO (by omega))) rfl) (ai (ai (ai (ai rfl rfl) rfl) (ai rfl (ai rfl (ai ?_ ?_)))) trivial))))) rfl) (ai (ai (iL (by omega)) trivial) (iM (by omega)))))
    ·exact congrArg List.length eN
    ·exact lS eN
   ·have e0:tX (c.sts.getD ((0:Nat)) st0).wt=[]:=by unfold tX;rw[if_neg h4]
    refine eO (acZ) ((true,[],(bK c.sts ((0:Nat))++gH ((0:Nat)))++iR ((c.sts.getD ((0:Nat)) st0).st.take (c.sts.getD ((0:Nat)) st0).st.length),10)) [1,5] (a4 (ai rfl rfl)) (Or.inl rfl) (by exact (ai (ai rfl rfl) (iE (by simp only[zz,reduceCtorEq];rfl)))) (by exact (ai (ai rfl (ai (ai rfl rfl) rfl)) (ai rfl (ai rfl (ai rfl (fun _ _=>rfl)))))) ((by show ((bK c.sts ((0:Nat))++gH ((0:Nat)))++iR ((c.sts.getD ((0:Nat)) st0).st.take (c.sts.getD ((0:Nat)) st0).st.length)).length≤1000000;rw[et];simp only[aaG,aiC,anV];omega)) ?_
    have eN:((bK c.sts ((0:Nat))++gH ((0:Nat)))++iR ((c.sts.getD ((0:Nat)) st0).st.take (c.sts.getD ((0:Nat)) st0).st.length))++[10]=bK c.sts ((0:Nat)+1):=by
     show _=bK c.sts ((0:Nat))++((((gH ((0:Nat))++iR (c.sts.getD ((0:Nat)) st0).st)++tX (c.sts.getD ((0:Nat)) st0).wt))++[10])
     rw[et,e0,aqr]
     simp only[asf]
    refine ei (((0:Nat))+1) (ai (ai rfl rfl) (ai (ai (ai rfl (ai (ai rfl rfl) (ai (ai rfl rfl) (ai (ai (ai (fun _=>rfl) (aO (by omega))) rfl) (ai (ai (ai (ai rfl rfl) rfl) (ai rfl (ai rfl (ai ?_ ?_)))) trivial))))) rfl) (ai (ai (iL (by omega)) trivial) (iM (by omega)))))
    ·exact congrArg List.length eN
    ·exact lS eN
  ·exact absurd hs24.1 (by omega)
 | succ k=>
  refine ah (p:=k+1<c.sts.length) (au (by omega)) (fun h2=>?_) (fun h2=>?_)
  ·refine ai (ai (aa1 _) (iN (n:=c.sts.length) (by omega))) (ai rfl ?_)
   have hd:=vH (n:=k+1) (by omega)
   have hh:=adz (k:=k+1) (by omega)
   obtain ⟨g1,g2,g3,g4⟩:=afB hc h2
   refine ei _ (ai (vX) (ei (k+1) (ei [] (ai (a4 (ai (fun _=>Or.inl rfl) (ai nof (Or.inl rfl)))) (ai (by exact rfl) (ai trivial (ai ((by show k+1<100;omega)) ?_)))))))
   refine ai (qh (l:=stepW) (m:=dec (k+1)) rfl rfl (by show 5+_≤_;omega)) (ai (qh (l:=stepW++dec (k+1)) (m:=[58]) (eH _ _) rfl (by rw[aaG];show 5+_+1≤_;omega)) ?_)
   refine eO (sS) ((true,[],bK c.sts (k+1),gH (k+1))) [1,2] (a4 (ai rfl rfl)) (Or.inl rfl) ?_ (by exact (ai (ai rfl (ai (ai rfl rfl) rfl)) (ai rfl (ai rfl (ai rfl (fun _ _=>rfl)))))) (⟨by show (bK c.sts (k+1)).length≤1000000;omega,by show (gH (k+1)).length≤1000000;omega⟩) ?_
   ·exact (ai (ai rfl rfl) rfl)
   refine ei (bF.inv { X:=Nat,up:=fun j=>[(37,.s (iA j))],uo:=fun j=>[⟨1,143,[.s (.own 1 0),.rw 5 1 ((bK c.sts (k+1)++gH (k+1))++iR ((c.sts.getD (k+1) st0).st.take j)).length (adN ((bK c.sts (k+1)++gH (k+1))++iR ((c.sts.getD (k+1) st0).st.take j)))]⟩],inv:=fun j=>j≤(c.sts.getD (k+1) st0).st.length∧(True),meas:=fun j=>(c.sts.getD (k+1) st0).st.length-j,x0:=0 }) ?_
   refine ai (ai (ai (by exact (a4 (ai rfl rfl))) (ai ?_ ?_)) rfl) (ai (ai (aeu _) ?_) ?_)
   ·exact (ai (ai (fun _=>rfl) (iE (by simp only[zz,reduceCtorEq];rfl))) rfl)
   ·refine (ai (ai (ai (ai rfl rfl) rfl) (ai rfl (ai rfl (ai ?_ ?_)))) trivial)
    ·show (bK c.sts (k+1)++gH (k+1)).length=((bK c.sts (k+1)++gH (k+1))++[]).length
     rw[aqr]
    ·exact lS (by show _=_++[];rw[aqr])
   ·trivial
   intro (j:Nat) ⟨hj,_⟩
   have hT:=adj ((c.sts.getD (k+1) st0).st.take j)
   rw[aiN] at hT
   refine ah (p:=j<(c.sts.getD (k+1) st0).st.length) (by simp only[zz,reduceCtorEq];omega) (fun h3=>?_) (fun h3=>?_)
   ·refine ai (ai (aa1 _) (iN (n:=(c.sts.getD (k+1) st0).st.length) (by omega))) (ai rfl ?_)
    have hw:(nU ((c.sts.getD (k+1) st0).st.getD j bJ)).length=2:=rfl
    refine ei _ (ai (agH) (ei ((c.sts.getD (k+1) st0).st.getD j bJ) (ei [] (ai (a4 (ai (fun _=>Or.inl rfl) (ai nof (Or.inl rfl)))) (ai (by exact (ai (iE (by simp only[zz,reduceCtorEq])) rfl)) (ai trivial (ai (vN g2 h3) ?_)))))))
    refine ai (qh (l:=[32]) (m:=nU ((c.sts.getD (k+1) st0).st.getD j bJ)) rfl rfl (by rw[hw];decide)) ?_
    refine eO (sS) ((true,[],(bK c.sts (k+1)++gH (k+1))++iR ((c.sts.getD (k+1) st0).st.take j),[32]++nU ((c.sts.getD (k+1) st0).st.getD j bJ))) [1,5] (a4 (ai rfl rfl)) (Or.inl rfl) ?_ (by exact (ai (ai rfl (ai (ai rfl rfl) rfl)) (ai rfl (ai rfl (ai rfl (fun _ _=>rfl)))))) (⟨by show ((bK c.sts (k+1)++gH (k+1))++iR ((c.sts.getD (k+1) st0).st.take j)).length≤1000000;simp only[aaG,aiC,anV];omega,by show ([32]++nU ((c.sts.getD (k+1) st0).st.getD j bJ)).length≤1000000;rw[aaG,hw];decide⟩) ?_
    ·exact (ai (ai rfl rfl) rfl)
    have eN:((bK c.sts (k+1)++gH (k+1))++iR ((c.sts.getD (k+1) st0).st.take j))++([32]++nU ((c.sts.getD (k+1) st0).st.getD j bJ))=(bK c.sts (k+1)++gH (k+1))++iR ((c.sts.getD (k+1) st0).st.take (j+1)):=by
     rw[aS bJ h3]
     unfold iR
     rw[List.flatMap_append]
     simp
    refine ei (j+1) (ai (ai rfl rfl) (ai (ai (ai rfl (ai (ai rfl rfl) (ai (ai rfl rfl) (ai (ai (ai (fun _=>rfl) (aO (by omega))) rfl) (ai (ai (ai (ai rfl rfl) rfl) (ai rfl (ai rfl (ai ?_ ?_)))) trivial))))) rfl) (ai (ai (iL (by omega)) trivial) (iM (by omega)))))
    ·exact congrArg List.length eN
    ·exact lS eN
   obtain rfl:j=(c.sts.getD (k+1) st0).st.length:=by omega
   have et:(c.sts.getD (k+1) st0).st.take (c.sts.getD (k+1) st0).st.length=(c.sts.getD (k+1) st0).st:=agN
   rw[et] at hT
   refine ah (p:=0<(c.sts.getD (k+1) st0).wt) (au Iff.rfl) (fun h4=>?_) (fun h4=>?_)
   ·obtain ⟨w,hw⟩:∃w:Nat,(c.sts.getD (k+1) st0).wt=(w:Int):=⟨(c.sts.getD (k+1) st0).wt.toNat,by omega⟩
    have hd7:=abA (n:=w) (by omega)
    have e0:tX (c.sts.getD (k+1) st0).wt=[32]++dec w:=by unfold tX;rw[if_pos h4,hw];rfl
    refine ei _ (ai (agT) (ei (w) (ei [] (ai (a4 (ai (fun _=>Or.inl rfl) (ai nof (Or.inr rfl)))) (ai ?_ (ai (by exact trivial) (ai ((by show w≤1000000;omega)) ?_)))))))
    ·exact (iE (by simp only[zz,reduceCtorEq];omega))
    refine ai (qh (l:=[32]) (m:=dec w) rfl rfl (by show 1+_≤_;omega)) ?_
    refine eO (sS) ((true,[],(bK c.sts (k+1)++gH (k+1))++iR ((c.sts.getD (k+1) st0).st.take (c.sts.getD (k+1) st0).st.length),[32]++dec w)) [1,5] (a4 (ai rfl rfl)) (Or.inl rfl) ?_ (by exact (ai (ai rfl (ai (ai rfl rfl) rfl)) (ai rfl (ai rfl (ai rfl (fun _ _=>rfl)))))) (⟨by show ((bK c.sts (k+1)++gH (k+1))++iR ((c.sts.getD (k+1) st0).st.take (c.sts.getD (k+1) st0).st.length)).length≤1000000;rw[et];simp only[aaG,aiC,anV];omega,by show ([32]++dec w).length≤1000000;rw[aaG];show 1+_≤_;omega⟩) ?_
    ·exact (ai (ai rfl rfl) rfl)
    refine eO (acZ) ((true,[],((bK c.sts (k+1)++gH (k+1))++iR ((c.sts.getD (k+1) st0).st.take (c.sts.getD (k+1) st0).st.length))++([32]++dec w),10)) [1,6] (a4 (ai rfl rfl)) (Or.inl rfl) (by exact (ai (ai rfl rfl) (iE (by simp only[zz,reduceCtorEq];rfl)))) (by exact (ai (ai rfl (ai (ai rfl rfl) rfl)) (ai rfl (ai rfl (ai rfl (fun _ _=>rfl)))))) ((by show (((bK c.sts (k+1)++gH (k+1))++iR ((c.sts.getD (k+1) st0).st.take (c.sts.getD (k+1) st0).st.length))++([32]++dec w)).length≤1000000;rw[et];simp only[aaG,aiC,anV];omega)) ?_
    have eN:(((bK c.sts (k+1)++gH (k+1))++iR ((c.sts.getD (k+1) st0).st.take (c.sts.getD (k+1) st0).st.length))++([32]++dec w))++[10]=bK c.sts (k+1+1):=by
     show _=bK c.sts (k+1)++((((gH (k+1)++iR (c.sts.getD (k+1) st0).st)++tX (c.sts.getD (k+1) st0).wt))++[10])
     rw[et,e0]
     simp only[asf]
    refine ei ((k+1)+1) (ai (ai rfl rfl) (ai (ai (ai rfl (ai (ai rfl rfl) (ai (ai rfl rfl) (ai (ai (ai (fun _=>rfl) (aO (by omega))) rfl) (ai (ai (ai (ai rfl rfl) rfl) (ai rfl (ai rfl (ai ?_ ?_)))) trivial))))) rfl) (ai (ai (iL (by omega)) trivial) (iM (by omega)))))
    ·exact congrArg List.length eN
    ·exact lS eN
   ·have e0:tX (c.sts.getD (k+1) st0).wt=[]:=by unfold tX;rw[if_neg h4]
    refine eO (acZ) ((true,[],(bK c.sts (k+1)++gH (k+1))++iR ((c.sts.getD (k+1) st0).st.take (c.sts.getD (k+1) st0).st.length),10)) [1,5] (a4 (ai rfl rfl)) (Or.inl rfl) (by exact (ai (ai rfl rfl) (iE (by simp only[zz,reduceCtorEq];rfl)))) (by exact (ai (ai rfl (ai (ai rfl rfl) rfl)) (ai rfl (ai rfl (ai rfl (fun _ _=>rfl)))))) ((by show ((bK c.sts (k+1)++gH (k+1))++iR ((c.sts.getD (k+1) st0).st.take (c.sts.getD (k+1) st0).st.length)).length≤1000000;rw[et];simp only[aaG,aiC,anV];omega)) ?_
    have eN:((bK c.sts (k+1)++gH (k+1))++iR ((c.sts.getD (k+1) st0).st.take (c.sts.getD (k+1) st0).st.length))++[10]=bK c.sts (k+1+1):=by
     show _=bK c.sts (k+1)++((((gH (k+1)++iR (c.sts.getD (k+1) st0).st)++tX (c.sts.getD (k+1) st0).wt))++[10])
     rw[et,e0,aqr]
     simp only[asf]
    refine ei ((k+1)+1) (ai (ai rfl rfl) (ai (ai (ai rfl (ai (ai rfl rfl) (ai (ai rfl rfl) (ai (ai (ai (fun _=>rfl) (aO (by omega))) rfl) (ai (ai (ai (ai rfl rfl) rfl) (ai rfl (ai rfl (ai ?_ ?_)))) trivial))))) rfl) (ai (ai (iL (by omega)) trivial) (iM (by omega)))))
    ·exact congrArg List.length eN
    ·exact lS eN
  ·have hkn:k+1=c.sts.length:=by omega
   refine ei (bF.inv { X:=Nat,up:=fun i=>[(66,.s (iA i))],uo:=fun i=>[⟨1,143,[.s (.own 1 0),.rw 5 1 (bK c.sts (k+1)++nG (dO c) c.trs i).length (adN (bK c.sts (k+1)++nG (dO c) c.trs i))]⟩],inv:=fun i=>i≤c.trs.length∧(True),meas:=fun i=>c.trs.length-i,x0:=0 }) ?_
   refine ai (ai (ai (by exact (a4 (ai rfl rfl))) (ai ?_ ?_)) rfl) (ai (ai (aeu _) ?_) ?_)
   ·exact (ai (ai (fun _=>rfl) (iE (by simp only[zz,reduceCtorEq];rfl))) rfl)
   ·refine (ai (ai (ai (ai rfl rfl) rfl) (ai rfl (ai rfl (ai ?_ ?_)))) trivial)
    ·show (bK c.sts (k+1)).length=(bK c.sts (k+1)++[]).length
     rw[aqr]
    ·exact lS (by show _=_++[];rw[aqr])
   ·trivial
   intro (i:Nat) ⟨hi,_⟩
   have hM:=agI hc hi
   refine ah (p:=i<c.trs.length) (au (by omega)) (fun h5=>?_) (fun h5=>?_)
   ·refine ai (ai (aa1 _) (iN (n:=c.trs.length) (by omega))) (ai rfl ?_)
    obtain ⟨⟨q1,q2⟩,q3,q4,q5⟩:=aiH hc h5
    obtain ⟨⟨p1,p2⟩,p3,p4⟩:=ah5 hc h5
    have x1:=wW (mH hc h5).1.1 (by decide)
    have x2:=wW (mH hc h5).2.1.1 (by decide)
    refine ei (.seq [0,1,2,3,4,5,6,7,8,9]) (ai (by kernel_rfl) ?_)
    refine ei _ (ai (aqS) (ei (c) (ei [] (ai (a4 (ai (fun _=>Or.inl rfl) (ai nof (Or.inl rfl)))) (ai (by exact (ai rfl (ai (ai rfl (fun _ _=>rfl)) (ai (ai rfl (fun _ _=>rfl)) (ai rfl (fun _ _=>rfl)))))) (ai trivial (ai (am8 hc) ?_)))))))
    refine ei _ (ai (ajp) (ei (((c.trs.getD i aH).wh,dO c)) (ei [] (ai (a4 (ai (fun _=>Or.inl rfl) (ai nof (Or.inl rfl)))) (ai (by exact (ai (ai (iE (by simp only[zz,reduceCtorEq])) (ai (iE (by simp only[zz,reduceCtorEq])) (ai rfl (fun _ _=>rfl)))) (ai rfl (fun _ _=>rfl)))) (ai trivial (ai (amQ hc h40 h5) ?_)))))))
    refine ei (.one 0 (.one 1 (.one 4 (.one 5 (.one 9 (.one 2 (.one 3 (.one 6 (.one 7 (.one 8 (.one 10 (.one 11 (.wr 12 .done))))))))))))) (ai (by kernel_rfl) ?_)
    refine ei _ (ai (acV) (ei ((c.trs.getD i aH).fr) (ei [] (ai (a4 (ai (fun _=>Or.inl rfl) (ai nof (Or.inl rfl)))) (ai (by exact (ai rfl (fun _ _=>rfl))) (ai trivial (ai (⟨x1,by show (c.trs.getD i aH).fr.length≤1000;omega⟩) ?_)))))))
    refine ai (qh (l:=inT (c.trs.getD i aH).fr) (m:=[32,62,32]) rfl rfl (by show _+3≤_;omega)) ?_
    refine ei _ (ai (acV) (ei ((c.trs.getD i aH).to) (ei [] (ai (a4 (ai (fun _=>Or.inl rfl) (ai nof (Or.inl rfl)))) (ai (by exact (ai rfl (fun _ _=>rfl))) (ai trivial (ai (⟨x2,by show (c.trs.getD i aH).to.length≤1000;omega⟩) ?_)))))))
    have hX2:(strOf (inT (c.trs.getD i aH).fr)++strOf [32,62,32])++strOf (inT (c.trs.getD i aH).to)=strOf ((inT (c.trs.getD i aH).fr++[32,62,32])++inT (c.trs.getD i aH).to):=by rw[eH,eH]
    have hX3:((strOf (inT (c.trs.getD i aH).fr)++strOf [32,62,32])++strOf (inT (c.trs.getD i aH).to))++strOf [58,32]=strOf (((inT (c.trs.getD i aH).fr++[32,62,32])++inT (c.trs.getD i aH).to)++[58,32]):=by rw[hX2,eH]
    have hX4:(((strOf (inT (c.trs.getD i aH).fr)++strOf [32,62,32])++strOf (inT (c.trs.getD i aH).to))++strOf [58,32])++strOf (d9 (dO c) (c.trs.getD i aH).wh)=strOf ((((inT (c.trs.getD i aH).fr++[32,62,32])++inT (c.trs.getD i aH).to)++[58,32])++d9 (dO c) (c.trs.getD i aH).wh):=by rw[hX3,eH]
    have hX5:((((strOf (inT (c.trs.getD i aH).fr)++strOf [32,62,32])++strOf (inT (c.trs.getD i aH).to))++strOf [58,32])++strOf (d9 (dO c) (c.trs.getD i aH).wh))++strOf [10]=strOf (lnT (dO c) (c.trs.getD i aH)):=by rw[hX4,eH];rfl
    refine ai (qh (l:=inT (c.trs.getD i aH).fr++[32,62,32]) (m:=inT (c.trs.getD i aH).to) (eH _ _) rfl (by simp only[aaG,aiC,anV];omega)) ?_
    refine ai (qh (l:=(inT (c.trs.getD i aH).fr++[32,62,32])++inT (c.trs.getD i aH).to) (m:=[58,32]) hX2 rfl (by simp only[aaG,aiC,anV];omega)) ?_
    refine ai (qh (l:=((inT (c.trs.getD i aH).fr++[32,62,32])++inT (c.trs.getD i aH).to)++[58,32]) (m:=d9 (dO c) (c.trs.getD i aH).wh) hX3 rfl (by simp only[aaG,aiC,anV];omega)) ?_
    refine ai (qh (l:=(((inT (c.trs.getD i aH).fr++[32,62,32])++inT (c.trs.getD i aH).to)++[58,32])++d9 (dO c) (c.trs.getD i aH).wh) (m:=[10]) hX4 rfl (by simp only[aaG,aiC,anV];omega)) ?_
    refine eO (sS) ((true,[],bK c.sts (k+1)++nG (dO c) c.trs i,lnT (dO c) (c.trs.getD i aH))) [1,3] (a4 (ai rfl rfl)) (Or.inl rfl) ?_ (by exact (ai (ai rfl (ai (ai rfl rfl) rfl)) (ai rfl (ai rfl (ai rfl (fun _ _=>rfl)))))) (⟨by show (bK c.sts (k+1)++nG (dO c) c.trs i).length≤1000000;rw[aaG];omega,by show (lnT (dO c) (c.trs.getD i aH)).length≤1000000;omega⟩) ?_
    ·exact (ai (ai rfl rfl) rfl)
    have eN:(bK c.sts (k+1)++nG (dO c) c.trs i)++lnT (dO c) (c.trs.getD i aH)=bK c.sts (k+1)++nG (dO c) c.trs (i+1):=by rw[nG,asf]
    refine ei (i+1) (ai (ai rfl rfl) (ai (ai (ai rfl (ai (ai rfl rfl) (ai (ai rfl rfl) (ai (ai (ai (fun _=>rfl) (aO (by omega))) rfl) (ai (ai (ai (ai rfl rfl) rfl) (ai rfl (ai rfl (ai ?_ ?_)))) trivial))))) rfl) (ai (ai (iL (by omega)) trivial) (iM (by omega)))))
    ·exact congrArg List.length eN
    ·exact lS eN
   ·obtain rfl:i=c.trs.length:=by omega
    have hne:bK c.sts (k+1)++nG (dO c) c.trs c.trs.length≠[]:=fun e=>by
     have:=congrArg List.length e
     rw[aaG,bK,aaG] at this
     have h7:0<(lnK k (c.sts.getD k st0)).length:=by unfold lnK;rw[aaG];exact Nat.succ_pos _
     have:(bK c.sts k).length+(lnK k (c.sts.getD k st0)).length+(nG (dO c) c.trs c.trs.length).length=0:=this
     omega
    refine alm (ahQ 143 2) rfl rfl rfl rfl (bK c.sts (k+1)++nG (dO c) c.trs c.trs.length) rfl hne (fun j _=>rfl) ?_
    have eT:ajm c=bK c.sts (k+1)++nG (dO c) c.trs c.trs.length:=by unfold ajm;rw[hkn]
    refine ai (ai (fun _=>(by exact (ai trivial trivial))) ?_) trivial
    show ak _ (uH c)
    rw[uH,if_pos hc,hc,eT]
    exact (ai rfl rfl)
def anH:List (Nat×(List Nat→SV))→Nat→List Nat→SV
 | [],_,_=>.any
 | (k,v) :: l,i,ns=>match k.beq i with
  | true=>v ns
  | false=>anH l i ns
def anE:List (Nat×List Nat)→Nat→List Nat
 | [],_=>[]
 | (k,v) :: l,i=>match k.beq i with
  | true=>v
  | false=>anE l i
def anL:List (Nat×(List Nat→Ob))→Nat→List Nat→Ob
 | [],_,_=>.cells 0 []
 | (k,v) :: l,i,ns=>match k.beq i with
  | true=>v ns
  | false=>anL l i ns
def hd0:List Nat→Nat
 | []=>0
 | n :: _=>n
def yV (l:List Int):PV:=.seq l.length (bg 1 (l.map iP))
def ahc (fr to:List Int) (x:Ex):List PV:=[yV fr,yV to,iP x.op,iP x.idx,.seq x.args.length (exF x.args)]
def fkE:List PV:=ahc [0] [1,2] (pQ true)++ahc [1,2] [0] (pQ true)
def fkF (a:Bool):Nat→List PV:=if a=true then jN (bg 5 fkE) 1 0 [yV [1]] else bg 5 fkE
def jm (a:Bool):PV:=.agg [iP 1,.val (.slice none 0 0),.seq 3 (fun _=>[.val (.slice none 0 0),iP 0]),.seq 2 (fkF a)]
def fkX:SV:=.p true (exP (pQ true))
def fkI (l:List Int):SV:=.p false (yV l)
def fkT (fr to:List Int):SV:=.p false (.agg (ahc fr to (pQ true)))
def fkS:lX where
 l:=[0,1,2,3,4,5,6,7,8,9,10,11]
 own:=[9,11]
 u:=anE [(9,[9]),(10,[9]),(11,[11])]
 f:=anH [(0,fun _=>.p false (.seq 3 (fun _=>[.val (.slice none 0 0),iP 0]))),(1,fun _=>fkI [0]),(2,fun _=>fkI [1,2]),(3,fun _=>fkX),(4,fun _=>fkT [0] [1,2]),
  (5,fun _=>fkI [1,2]),(6,fun _=>fkI [0]),(7,fun _=>fkX),(8,fun _=>fkT [1,2] [0]),(9,fun ns=>.row (hd0 ns)),
  (10,fun ns=>.agg [.p true (iP 1),.p true (.val (.slice none 0 0)),.p false (.seq 3 (fun _=>[.val (.slice none 0 0),iP 0])),.row (hd0 ns)]),(11,fun ns=>.own (hd0 ns) 0)]
 ob:=anL [(9,fun _=>.row 81 5 2 (bg 5 (ahc [0] [1,2] (pQ true)++ahc [1,2] [0] (pQ true)))),
  (11,fun _=>.cells 26 [.p true (iP 0),.p true (.val (.slice none 0 0)),.p true (.val (.slice none 0 0)),.p true (.val (.slice none 0 0))])]
theorem ajK:aK Tryz.prog 58 (jq (fun a:Bool=>[.p false (bP a)]) (fun _=>True) jm):=by
 refine iY [4000006,4000007,4000008,4000011,4000012,4000020] ?_
 refine aX (Tb:=tab) mixed aB Tryz.func58 rfl rfl ?_
 rintro (a:Bool) hpre
 refine ai (ai rfl (ai rfl rfl)) ?_
 refine ei _ (ai (amE) (ei (true) (ei [] (ai (a4 (ai (fun _=>Or.inl rfl) (ai nof (Or.inl rfl)))) (ai (by exact rfl) (ai trivial (ai (trivial) ?_)))))))
 refine ei (.set fkS (.one 12 .done)) (ai (by kernel_rfl) (ai ?_ ?_))
 ·repeat' (first | exact trivial | refine ai ?_ ?_ | exact anQ.mk rfl rfl rfl rfl | intro s | decide)
 refine ai trivial (ai (ai trivial (ai ?_ trivial)) (ai (ai trivial (ai ?_ trivial)) trivial))
 ·refine aZ (b:=a) rfl (fun h=>?_) (fun h=>?_)
  ·refine ai (ai (by decide) (by decide)) (ai (ai (by decide) (by decide)) ?_)
   refine ai (ai (fun h=>absurd (show false=true from h) (by decide)) ?_) trivial
   show ak _ (jm a)
   rw[show jm a=.agg [iP 1,.val (.slice none 0 0),.seq 3 (fun _=>[.val (.slice none 0 0),iP 0]),.seq 2 (jN (bg 5 fkE) 1 0 [yV [1]])] by unfold jm fkF;rw[if_pos h]]
   exact (ai rfl (ai rfl (ai (ai rfl (fun _ _=>rfl)) (ai rfl (fun _ _=>rfl)))))
  ·refine ai (ai (fun h=>absurd (show false=true from h) (by decide)) ?_) trivial
   show ak _ (jm a)
   rw[show jm a=.agg [iP 1,.val (.slice none 0 0),.seq 3 (fun _=>[.val (.slice none 0 0),iP 0]),.seq 2 (bg 5 fkE)] by unfold jm fkF;rw[if_neg (by rw[h];decide)]]
   exact (ai rfl (ai rfl (ai (ai rfl (fun _ _=>rfl)) (ai rfl (fun _ _=>rfl)))))
 ·refine aZ (b:=a) rfl (fun h=>?_) (fun h=>?_)
  ·refine ai (ai (by decide) (by decide)) (ai (ai (by decide) (by decide)) ?_)
   refine ai (ai (fun h=>absurd (show false=true from h) (by decide)) ?_) trivial
   show ak _ (jm a)
   rw[show jm a=.agg [iP 1,.val (.slice none 0 0),.seq 3 (fun _=>[.val (.slice none 0 0),iP 0]),.seq 2 (jN (bg 5 fkE) 1 0 [yV [1]])] by unfold jm fkF;rw[if_pos h]]
   exact (ai rfl (ai rfl (ai (ai rfl (fun _ _=>rfl)) (ai rfl (fun _ _=>rfl)))))
  ·refine ai (ai (fun h=>absurd (show false=true from h) (by decide)) ?_) trivial
   show ak _ (jm a)
   rw[show jm a=.agg [iP 1,.val (.slice none 0 0),.seq 3 (fun _=>[.val (.slice none 0 0),iP 0]),.seq 2 (bg 5 fkE)] by unfold jm fkF;rw[if_neg (by rw[h];decide)]]
   exact (ai rfl (ai rfl (ai (ai rfl (fun _ _=>rfl)) (ai rfl (fun _ _=>rfl)))))
def jM (a:Bool):aQ:=⟨1,[],[⟨[],0⟩,⟨[],0⟩,⟨[],0⟩],[⟨[0],[1,2],pQ true⟩,⟨if a then [1] else [1,2],[0],pQ true⟩]⟩
theorem aon (a:Bool):gN (jm a) (uO (jM a)):=by
 refine vB (bH (.refl _) (bH (.nil _) (bH (gD fun k hk=>?_) (bH (gD fun k hk=>?_) ni))))
 ·match k,hk with
  | 0,_=>exact adJ (.nil _) (.refl _)
  | 1,_=>exact adJ (.nil _) (.refl _)
  | 2,_=>exact adJ (.nil _) (.refl _)
 ·have one:∀x:Int,gN (yV [x]) (l6 [x]):=fun x=>gD fun k hk=>by match k,hk with | 0,_=>exact bM.rfl' _
  have two:∀x y:Int,gN (yV [x,y]) (l6 [x,y]):=fun x y=>gD fun k hk=>by match k,hk with | 0,_=>exact bM.rfl' _ | 1,_=>exact bM.rfl' _
  match k,hk with
  | 0,_=>cases a<;>exact bH (one 0) (bH (two 1 2) (bM.rfl' _))
  | 1,_=>
   cases a
   ·exact bH (two 1 2) (bH (one 0) (bM.rfl' _))
   ·exact bH (one 1) (bH (one 0) (bM.rfl' _))
theorem aiV:aK Tryz.prog 58 (jq (fun a:Bool=>[.p false (bP a)]) (fun _=>True) (fun a=>uO (jM a))):=adK ajK fun a _=>aon a
def three:mg:=⟨2,[⟨[(0,true)],0⟩,⟨[(1,true)],150⟩,⟨[(0,false),(1,false)],0⟩]⟩
def aqx (n:Int) (b:Bool):PV:=.seq 1 (bg 2 [iP n,bP b])
def tu:PV:=.agg [iP 2,.seq 3 (bg 2 [aqx 0 true,iP 0,aqx 1 true,iP 150,.seq 2 (bg 2 [iP 0,bP false,iP 1,bP false]),iP 0])]
theorem akJ:aK Tryz.prog 57 (jq (fun _:Unit=>[]) (fun _=>True) (fun _=>tu)):=by
 refine iY [4000002,4000005,4000009,4000011] ?_
 refine aX (Tb:=tab) mixed aB Tryz.func57 rfl rfl ?_
 rintro (u:Unit) hpre
 refine ai (ai rfl (ai rfl rfl)) ?_
 refine ai (ai (fun h=>absurd (show false=true from h) (by decide)) ?_) trivial
 show ak _ (tu)
 rw[show tu=tu from rfl]
 exact (ai rfl (ai rfl (fun _ _=>rfl)))
theorem alT:gN tu (.agg (sqK three)):=by
 refine vB (bH (.refl _) (bH (gD fun k hk=>?_) ni))
 match k,hk with
 | 0,_=>exact adJ (gD fun k hk=>by match k,hk with | 0,_=>exact bM.rfl' _) (.refl _)
 | 1,_=>exact adJ (gD fun k hk=>by match k,hk with | 0,_=>exact bM.rfl' _) (.refl _)
 | 2,_=>exact adJ (gD fun k hk=>by match k,hk with | 0,_=>exact bM.rfl' _ | 1,_=>exact bM.rfl' _) (.refl _)
theorem amL:aK Tryz.prog 57 (jq (fun _:Unit=>[]) (fun _=>True) (fun _=>.agg (sqK three))):=adK akJ fun _ _=>alT
def vrX (n:Int):Ex:=.node 1 n []
def c3:aQ:=⟨2,[[115,116,97,114,116]],[⟨[],0⟩,⟨[(0,true)],0⟩,⟨[(1,true)],0⟩,⟨[],150⟩,⟨[(0,false),(1,false)],0⟩],
 [⟨[0],[1],vrX 4⟩,⟨[1],[2],vrX 1⟩,⟨[2],[3],vrX 3⟩,⟨[3],[4],vrX 8⟩,⟨[4],[0],.node 3 0 [vrX 0,vrX 2]⟩]⟩
def alZ:List UInt8:=[115,116,101,112,32,48,58,10,115,116,101,112,32,49,58,32,65,43,10,115,116,101,112,32,50,58,32,66,43,10,115,116,101,112,32,51,58,32,49,53,48,10,115,116,101,112,32,52,58,32,65,45,32,66,45,10,48,32,62,32,49,58,32,115,116,97,114,116,10,49,32,62,32,50,58,32,97,49,10,50,32,62,32,51,58,32,98,49,10,51,32,62,32,52,58,32,121,51,10,52,32,62,32,48,58,32,97,48,32,38,32,98,48,10]
theorem aqi:ofC three=c3:=by kernel_rfl
theorem aqU:vK three=0:=by decide +kernel
theorem aqB:bE c3=0:=by decide +kernel
theorem apj:ajm c3=alZ:=by decide +kernel
theorem aqh:iC (gy c3)=[[false,false,false,false,true],[false,false,false,true,false],[false,false,true,false,false],[false,true,false,false,false],[true,false,false,false,false]]:=by decide +kernel
theorem aqk:iC (gy (jM false))=[[false,true,true],[true,false,false]]:=by decide +kernel
theorem ex3:kS c3=0:=by decide +kernel
theorem ar0:kS (jM false)=0:=by decide +kernel
theorem arV:kS (jM true)=0:=by decide +kernel
theorem ap1:jL (jM true)=([0,1,0],true):=by decide +kernel
theorem al7:jr c3∧∀t∈c3.trs,t.wh.size≤120:=by
 refine ⟨⟨fun s hs=>?_,fun t ht=>?_⟩,fun t ht=>?_⟩
 ·have:∀s∈c3.sts,s.st.length≤2:=by decide
  have:=this s hs;omega
 ·have:∀t∈c3.trs,t.fr.length≤2∧t.to.length≤2∧t.wh.size≤10:=by decide +kernel
  have:=this t ht
  exact ⟨by omega,by omega,by omega⟩
 ·have:∀t∈c3.trs,t.wh.size≤10:=by decide +kernel
  have:=this t ht;omega
theorem arN:∀t∈c3.trs,abI t.wh:=by
 intro t ht
 simp only[c3,aiq,List.mem_nil_iff,or_false] at ht
 rcases ht with rfl | rfl | rfl | rfl | rfl
 ·exact .inl rfl
 ·exact .inl rfl
 ·exact .inl rfl
 ·exact .inl rfl
 ·refine .inr ⟨rfl,fun y hy=>?_⟩
  simp only[aiq,List.mem_nil_iff,or_false,Ex.args] at hy
  rcases hy with rfl | rfl<;>rfl
theorem okF (a:Bool):jr (jM a)∧anc (jM a):=by
 have h1:∀a,∀s∈(jM a).sts,s.st.length≤2:=by decide
 have h2:∀a,∀t∈(jM a).trs,t.fr.length≤2∧t.to.length≤2∧t.wh.size≤10:=by decide +kernel
 refine ⟨⟨fun s hs=>?_,fun t ht=>?_⟩,?_⟩
 ·have:=h1 a s hs;omega
 ·have:=h2 a t ht;exact ⟨by omega,by omega,by omega⟩
 ·cases a<;>exact ⟨by decide,by decide⟩
def mF:List (List Bool):=[[false,true,true],[true,false,false]]
section
variable {z : Int} (hz : z = 0)
include hz
theorem apF:aK Tryz.prog 18 (jq (fun _:Unit=>[sqA three]) (fun _=>True) (fun _=>.tup [uO c3,iP z])):=
 jo aeQ three trivial (by show PV.tup [uO (ofC three),iP (vK three)]=_;rw[hz,aqi,aqU])
theorem apN:aK Tryz.prog 24 (fnG (fun _:Unit=>[kP c3]) (fun _=>True) (fun _=>.tup [sP alZ,iP z])):=by
 have h:aK Tryz.prog 24 (fnG (fun _:Unit=>[kP c3]) (fun _=>True) (fun _=>uH c3)):=⟨acF.1,fun _ _ E vs w hg hh hA=>acF.2 c3 ⟨al7.1,fun _ t ht=>⟨al7.2 t ht,arN t ht⟩⟩ E vs w hg hh hA⟩
 have e:uH c3=.tup [sP alZ,iP z]:=by unfold uH;rw[if_pos aqB,aqB,apj,hz]
 rw[e] at h;exact h
theorem aqe:aK Tryz.prog 29 (jq (fun _:Unit=>[kP c3]) (fun _=>True) (fun _=>.tup [bbP [[false,false,false,false,true],[false,false,false,true,false],[false,false,true,false,false],[false,true,false,false,false],[true,false,false,false,false]],iP z])):=
 jo uW c3 al7.1 (by show nY c3=_;unfold nY;rw[hz,aqh,ex3])
theorem aqg:aK Tryz.prog 29 (jq (fun _:Unit=>[kP (jM false)]) (fun _=>True) (fun _=>.tup [bbP mF,iP z])):=
 jo uW (jM false) (okF false).1 (by show nY (jM false)=_;unfold nY;rw[hz,aqk,ar0];rfl)
theorem aqQ:aK Tryz.prog 13 (jq (fun _:Unit=>[kP (jM true)]) (fun _=>True) (fun _=>.tup [bP false,l6 [0,1,0],iP z])):=
 jo aiI (jM true) (okF true).1 (by show tJ (jM true)=_;unfold tJ;rw[if_pos arV,ap1,hz];rfl)
end
def rwM:PV:=.seq 2 (bg 1 [.seq 3 (bg 1 [bP false,bP true,bP true]),.seq 3 (bg 1 [bP true,bP false,bP false])])
theorem aqo:gN rwM (bbP mF):=gD fun k hk=>by
 match k,hk with
 | 0,_=>exact abj (gD fun k hk=>by match k,hk with | 0,_=>exact bM.rfl' _ | 1,_=>exact bM.rfl' _ | 2,_=>exact bM.rfl' _)
 | 1,_=>exact abj (gD fun k hk=>by match k,hk with | 0,_=>exact bM.rfl' _ | 1,_=>exact bM.rfl' _ | 2,_=>exact bM.rfl' _)
theorem smM:acT mF:=⟨by decide,fun m hm=>by
 have:∀m∈mF,m.length≤3:=by decide
 have:=this m hm
 omega⟩
theorem alQ:aK Tryz.prog 33 (bR (fun _:Unit=>[bbA mF,.p false rwM]) (fun _=>True) (fun _=>bP true)):=
 al9 (abO ajz (mF,mF) smM (by show bP (decide (mF=mF))=_;rw[decide_eq_true rfl];rfl)) fun _ _=>⟨.inl rfl,.inr ⟨_,_,rfl,rfl,aqo⟩,trivial⟩
theorem apA:aK Tryz.prog 59 (bR (fun _:Unit=>[isA [0,1,0],isA [0,1,0]]) (fun _=>True) (fun _=>bP true)):=
 abO an6 ([0,1,0],[0,1,0]) (by decide) rfl
def arf:Spec:=fnG (fun _:Unit=>[]) (fun _=>True) (fun _=>bP true)
theorem wY:aK Tryz.prog 12 arf:=by
 refine iY [4000061,4000062,4000063,4000072] ?_
 refine aX (Tb:=tab) mixed aB Tryz.func12 rfl rfl ?_
 rintro ⟨⟩ hpre
 refine ai (ai rfl (ai rfl rfl)) ?_
 obtain ⟨z,hz⟩:∃z:Int,z=0:=⟨0,rfl⟩
 refine ei _ (ai (amL) (ei (()) (ei [] (ai (a4 (ai (fun _=>Or.inl rfl) (ai nof (Or.inl rfl)))) (ai (by exact trivial) (ai trivial (ai (trivial) ?_)))))))
 refine ei _ (ai ((apF hz)) (ei (()) (ei [] (ai (a4 (ai (fun _=>Or.inl rfl) (ai nof (Or.inl rfl)))) (ai (by exact (ai rfl (ai rfl (fun _ _=>rfl)))) (ai trivial (ai (trivial) ?_)))))))
 refine ei _ (ai ((apN hz)) (ei (()) (ei [] (ai (a4 (ai (fun _=>Or.inl rfl) (ai nof (Or.inr rfl)))) (ai (by exact (ai rfl (ai (ai rfl (fun _ _=>rfl)) (ai (ai rfl (fun _ _=>rfl)) (ai rfl (fun _ _=>rfl)))))) (ai trivial (ai (trivial) ?_)))))))
 refine ei _ (ai ((aqe hz)) (ei (()) (ei [] (ai (a4 (ai (fun _=>Or.inl rfl) (ai nof (Or.inl rfl)))) (ai (by exact (ai rfl (ai (ai rfl (fun _ _=>rfl)) (ai (ai rfl (fun _ _=>rfl)) (ai rfl (fun _ _=>rfl)))))) (ai trivial (ai (trivial) ?_)))))))
 refine ei _ (ai (aiV) (ei (false) (ei [] (ai (a4 (ai (fun _=>Or.inl rfl) (ai nof (Or.inl rfl)))) (ai (by exact rfl) (ai trivial (ai (trivial) ?_)))))))
 refine ei _ (ai (vO) (ei (jM false) (ei [] (ai (a4 (ai (fun _=>Or.inl rfl) (ai nof (Or.inl rfl)))) (ai (by exact (ai rfl (ai (ai rfl (fun _ _=>rfl)) (ai (ai rfl (fun _ _=>rfl)) (ai rfl (fun _ _=>rfl)))))) (ai trivial (ai ((okF false).2) ?_)))))))
 refine ei _ (ai ((aqg hz)) (ei (()) (ei [] (ai (a4 (ai (fun _=>Or.inl rfl) (ai nof (Or.inl rfl)))) (ai (by exact (ai rfl (ai (ai rfl (fun _ _=>rfl)) (ai (ai rfl (fun _ _=>rfl)) (ai rfl (fun _ _=>rfl)))))) (ai trivial (ai (trivial) ?_)))))))
 refine ei _ (ai (aiV) (ei (true) (ei [] (ai (a4 (ai (fun _=>Or.inl rfl) (ai nof (Or.inl rfl)))) (ai (by exact rfl) (ai trivial (ai (trivial) ?_)))))))
 refine ei _ (ai (vO) (ei (jM true) (ei [] (ai (a4 (ai (fun _=>Or.inl rfl) (ai nof (Or.inl rfl)))) (ai (by exact (ai rfl (ai (ai rfl (fun _ _=>rfl)) (ai (ai rfl (fun _ _=>rfl)) (ai rfl (fun _ _=>rfl)))))) (ai trivial (ai ((okF true).2) ?_)))))))
 refine ei _ (ai ((aqQ hz)) (ei (()) (ei [] (ai (a4 (ai (fun _=>Or.inl rfl) (ai nof (Or.inl rfl)))) (ai (by exact (ai rfl (ai (ai rfl (fun _ _=>rfl)) (ai (ai rfl (fun _ _=>rfl)) (ai rfl (fun _ _=>rfl)))))) (ai trivial (ai (trivial) ?_)))))))
 refine aZ (b:=true) (by simp only[hz,Int.add_zero,akt];rfl) (fun _=>?_) (fun h=>absurd h (by decide))
 refine ei _ (ai (alQ) (ei (()) (ei [] (ai (a4 (ai (fun _=>Or.inl rfl) (ai nof (Or.inl rfl)))) (ai ?_ (ai trivial (ai ?_ ?_)))))))
 ·exact (ai (ai rfl (fun _ _=>rfl)) (ai rfl (fun _ _=>rfl)))
 ·trivial
 refine ei _ (ai (apA) (ei (()) (ei [] (ai (a4 (ai (fun _=>Or.inl rfl) (ai nof (Or.inl rfl)))) (ai ?_ (ai trivial (ai ?_ ?_)))))))
 ·refine (ai (ai rfl (fun _ _=>rfl)) (ai rfl ?_))
  (intro k hk;have hk:k<3:=hk;match k,hk with | 0,_=>rfl | 1,_=>rfl | 2,_=>rfl)
 ·trivial
 refine ai (ai (fun _=>trivial) ?_) trivial
 exact rfl
def arR:Spec:=fnG (fun c:aQ=>[kP c]) (fun _=>True) (fun _=>bP true)
theorem ae6 {c:aQ} (h:¬kS c=0):iT c=[]:=by
 unfold kS at h
 unfold iT
 split
 ·rename_i h1
  rw[if_pos h1] at h
  cases e:pJ c with
  | none=>rfl
  | some l=>rw[e] at h;exact absurd rfl h
 ·rfl
theorem akk {c:aQ}:acT (iC (gy c)):=by
 refine ⟨?_,fun m hm=>?_⟩
 ·rw[amO]
  unfold gy
  rw[anB]
  by_cases h:kS c=0
  ·have:=(qd h).2.1;omega
  ·have e:iT c=[]:=ae6 h
   rw[e];exact aeu _
 ·have hm:=(qW (gy c)).mem_iff.1 hm
  unfold gy at hm
  obtain ⟨y,hy,rfl⟩:=arq.1 hm
  by_cases h:kS c=0
  ·have h1:=((qd h).1 y hy).1
   obtain ⟨hc,_⟩:=qI h
   have:=(iG hc).2.2.1
   omega
  ·rw[ae6 h] at hy;cases hy
theorem aj1 (c:aQ) (ho:jr c):(ny c).length≤1000000:=by
 unfold ny
 split
 ·rename_i h
  have h1:=abr (nE c) c.trs.length
  obtain ⟨hc,_⟩:=qI h
  have:=(iG hc).2.2.2.1
  omega
 ·exact aeu _
theorem abu {l:List (List Bool)} {m:List Bool}:tY l m=true↔m∈l:=by
 unfold tY
 rw[arw]
 constructor
 ·rintro ⟨x,hx,h⟩;rw[←of_decide_eq_true h];exact hx
 ·exact fun h=>⟨m,h,decide_eq_true rfl⟩
theorem qc {c:aQ} {m:List Bool}:m∈iC (gy c)↔∃y∈iT c,y.1=m:=by
 rw[(qW (gy c)).mem_iff]
 unfold gy
 rw[arq]
theorem alc {c:aQ} (hN:kS c=0) {m:List Bool} (hm:m∈iC (gy c)) {k:Nat} (hk:k<c.trs.length) (hf:bW c k m=true):tY (iC (gy c)) (kr m (gP c k))=true:=by
 obtain ⟨h1,_,_⟩:=agl (qI hN).2
 obtain ⟨y,hy,rfl⟩:=qc.1 hm
 obtain ⟨b,hb,e⟩:=apT hy
 have hg:(iT c).getD b ay=y:=by rw[aaI,aaQ hb,←e];rfl
 have h2:=h1 b hb k hk
 rw[hg] at h2
 obtain ⟨z,hz,e2⟩:=tT.1 (h2 hf)
 exact abu.2 (qc.2 ⟨z,hz,e2⟩)
theorem ahq {c:aQ} (hN:kS c=0):tY (iC (gy c)) (lq c.sts.length)=true:=by
 obtain ⟨_,_,t,ht⟩:=agl (qI hN).2
 refine abu.2 (qc.2 ⟨(lq c.sts.length,[]),?_,rfl⟩)
 rw[ht];exact asR _ (ag4.2 rfl)
def abn (s:sK):Prop:=(!s.2)=decide (s.1.length=0)
theorem ak7 {c:aQ} {y:Mk} {s:sK} {k:Nat} (h:abn s):abn (ig c y s k):=by
 unfold ig
 split
 ·split
  ·unfold abn;simp
  ·exact h
 ·exact h
theorem afQ {c:aQ} {y:Mk} {s:sK} (h:abn s):∀n,abn (cO c y s n)
 | 0=>h
 | n+1=>ak7 (afQ h n)
theorem afs {c:aQ}:∀(l:List Mk) (s:sK),abn s→abn (oN c l s)
 | [],_,h=>h
 | y :: l,s,h=>by
  rw[oN];split
  ·exact h
  ·exact afs l _ (afQ h _)
theorem amV (c:aQ):(!(jL c).2)=decide ((jL c).1.length=0):=afs (iT c) ([],false) rfl
theorem amR {c:aQ} {y:Mk} {s:sK} {k:Nat} (h:(ig c y s k).2=false):s.2=false∧pq c y k=false:=by
 unfold ig at h
 by_cases hb:pq c y k=true
 ·rw[if_pos hb] at h
  split at h
  ·cases h
  ·rename_i h2
   rw[h] at h2;exact absurd rfl h2
 ·rw[if_neg hb] at h
  exact ⟨h,by simpa using hb⟩
theorem ah6 {c:aQ} {y:Mk} {s:sK}:∀{n:Nat},(cO c y s n).2=false→s.2=false∧∀k,k<n→pq c y k=false
 | 0,h=>⟨h,fun k hk=>absurd hk (aj9 _)⟩
 | n+1,h=>by
  obtain ⟨h1,h2⟩:=amR (show (ig c y (cO c y s n) n).2=false from h)
  obtain ⟨h3,h4⟩:=ah6 h1
  refine ⟨h3,fun k hk=>?_⟩
  by_cases e:k<n
  ·exact h4 k e
  ·obtain rfl:k=n:=by omega
   exact h2
theorem ah0 {c:aQ}:∀(l:List Mk) (s:sK),(oN c l s).2=false→s.2=false∧∀y∈l,∀k,k<c.trs.length→pq c y k=false
 | [],_,h=>⟨h,fun y hy=>by cases hy⟩
 | y :: l,s,h=>by
  rw[oN] at h
  split at h
  ·rename_i h2
   rw[h,anZ] at h2;cases h2
  ·obtain ⟨h1,h2⟩:=ah0 l _ h
   obtain ⟨h3,h4⟩:=ah6 h1
   refine ⟨h3,fun z hz=>?_⟩
   rcases aiq.1 hz with rfl | hz
   ·exact h4
   ·exact h2 z hz
theorem aoS {n:Nat} {l:List Int} (h:gq n l=0):∀{j:Nat},j<l.length→∀{i:Nat},i<j→l.getD i 0<l.getD j 0:=by
 unfold gq at h
 split at h
 ·cases h
 have h1:=ng h
 intro j hj
 induction j with
 | zero=>intro i hi;exact absurd hi (aj9 _)
 | succ j ih=>
  intro i hi
  have h2:=h1 (j+1) hj
  unfold l5 at h2
  rw[show j+1-1=j from rfl] at h2
  have h3:l.getD j 0<l.getD (j+1) 0:=by
   split at h2
   ·cases h2
   ·split at h2
    ·cases h2
    ·rename_i h4;omega
  by_cases e:i=j
  ·rw[e];exact h3
  ·have:=ih (by omega) (i:=i) (by omega);omega
theorem aoT {c:aQ} (h:bE c=0) {i:Nat} (hi:i<c.trs.length):gq c.sts.length (gP c i).to=0:=by
 obtain ⟨_,_,_,_,_,h6⟩:=iG h
 have h:=h6 i hi
 unfold iD at h
 split at h
 ·rename_i h1;exact absurd h h1
 split at h
 ·rename_i h2;exact absurd h h2
 rename_i h2
 exact arn.1 h2
theorem ajr {c:aQ} (hc:bE c=0) (hs:(jL c).2=false) {m:List Bool} (hm:m∈iC (gy c)) (hl:m.length=c.sts.length) {k:Nat} (hk:k<c.trs.length) (hf:bW c k m=true) {j:Nat} (hj:j<(gP c k).to.length) :
  gL (bC (bC m (gP c k).fr false) ((gP c k).to.take j) true) ((gP c k).to.getD j 0)=false:=by
 obtain ⟨y,hy,rfl⟩:=qc.1 hm
 have hb:=(ah0 (iT c) ([],false) hs).2 y hy k hk
 unfold pq at hb
 have hf:allM y.1 (gP c k).fr=true:=hf
 rw[hf,ah3] at hb
 obtain ⟨_,g2,_⟩:=mH hc hk
 have hx:(gP c k).to.getD j 0∈(gP c k).to:=acI (bI 0 hj)
 have hr:=g2.2 _ hx
 have hu:lY y.1 (gP c k) ((gP c k).to.getD j 0)=false:=by
  have:=asx.1 hb _ hx
  exact ar6.2 this
 have hi:((gP c k).to.getD j 0).toNat<y.1.length:=by rw[hl];omega
 unfold gL
 rw[ad7 _ _ _ (by rw[dF];exact hi),ad7 _ _ _ hi]
 have h1:(((gP c k).to.take j).any fun x=>x.toNat==((gP c k).to.getD j 0).toNat)=false:=by
  rw[asx]
  intro x hx2 h2
  obtain ⟨i,hi2,rfl⟩:=apT hx2
  rw[aiN] at hi2
  have h3:((gP c k).to.take j)[i]'(by rw[aiN];exact hi2)=(gP c k).to.getD i 0:=by
   rw[List.getElem_take,aaI,aaQ (by omega)];rfl
  rw[h3] at h2
  have h4:=aoS (aoT hc hk) hj (i:=i) (by omega)
  have h5:=g2.2 _ (acI (bI 0 (show i<(gP c k).to.length by omega)))
  have h6:=beq_iff_eq.1 h2
  have h5:0≤(gP c k).to.getD i 0:=h5.1
  omega
 rw[h1,if_neg (by decide)]
 unfold lY at hu
 cases hq:fu (gP c k).fr ((gP c k).to.getD j 0) with
 | true=>
  have:((gP c k).fr.any fun x=>x.toNat==((gP c k).to.getD j 0).toNat)=true:=by
   unfold fu at hq
   obtain ⟨z,hz,h2⟩:=arw.1 hq
   exact arw.2 ⟨z,hz,by rw[eq_of_beq h2];exact beq_self_eq_true _⟩
  rw[this,if_pos rfl]
 | false=>
  rw[hq] at hu
  have hu:gL y.1 ((gP c k).to.getD j 0)=false:=by simpa using hu
  split
  ·rfl
  ·exact hu
theorem aj4 {c:aQ} (hN:kS c=0) {i:Nat} (hi:i<c.trs.length):fu (ny c) i=!((iC (gy c)).any fun m=>bW c i m):=by
 have e:((iC (gy c)).any fun m=>bW c i m)=(iT c).any fun y=>bW c i y.1:=by
  rw[aru,arw,arw]
  constructor
  ·rintro ⟨m,hm,h⟩;obtain ⟨y,hy,rfl⟩:=qc.1 hm;exact ⟨y,hy,h⟩
  ·rintro ⟨y,hy,h⟩;exact ⟨y.1,qc.2 ⟨y,hy,rfl⟩,h⟩
 rw[e]
 have hd:∀n,fu (mh (nE c) n) (i:Int)=(decide (i<n)&&nE c i):=by
  intro n
  induction n with
  | zero=>simp[mh,fu]
  | succ n ih=>
   rw[mh]
   split
   ·rename_i h
    unfold fu at ih ⊢
    rw[asW,ih]
    by_cases e:i=n
    ·subst e;simp[h]
    ·have:decide (i<n+1)=decide (i<n):=by rw[decide_eq_decide];omega
     rw[this]
     have e2:((i:Int)==(n:Int))=false:=by rw[beq_eq_false_iff_ne];omega
     simp[e2]
   ·rename_i h
    rw[ih]
    by_cases e:i=n
    ·subst e
     have:nE c i=false:=by simpa using h
     rw[this];simp
    ·have:decide (i<n+1)=decide (i<n):=by rw[decide_eq_decide];omega
     rw[this]
 unfold ny
 rw[if_pos hN,hd,decide_eq_true hi,ah3];rfl
def qZ (F:List Int) (k:Int):List Int:=if fu F k then F else F++[k]
def vV (F:List Int):MK→Option PV
 | .int j=>if fu F j then some (bP true) else none
 | _=>none
def aqt (F:List Int):Ob:=.map (.int .i64) F.length (vV F)
theorem abd (F:List Int) (k j:Int):fu (qZ F k) j=(fu F j||(j==k)):=by
 unfold qZ
 split
 ·rename_i h
  by_cases e:j=k
  ·subst e;rw[h];simp
  ·rw[beq_eq_false_iff_ne.2 e,ash]
 ·unfold fu;rw[asW,asJ,as9,ash]
theorem ang:vV []=fun _=>none:=funext fun k=>by cases k<;>rfl
theorem anu (F:List Int) (k:Int) (q:MK):nQ (vV F) (.int k) (bP true) q=vV (qZ F k) q:=by
 classical
 unfold nQ
 split
 ·rename_i h;subst h
  show _=if fu (qZ F k) k=true then some (bP true) else none
  rw[abd];simp
 ·rename_i h
  cases q with
  | int j=>
   have e:¬j=k:=fun e=>h (by rw[e])
   show (if fu F j=true then some (bP true) else none)=if fu (qZ F k) j=true then some (bP true) else none
   rw[abd,beq_eq_false_iff_ne.2 e,ash]
  | bools b=>rfl
  | str a=>rfl
theorem alS {F:List Int} {k:Int} (h:vV F (.int k)=none):(qZ F k).length=F.length+1:=by
 unfold qZ
 rw[if_neg,aaG]
 ·rfl
 ·intro e
  have h:(if fu F k=true then some (bP true) else none)=none:=h
  rw[if_pos e] at h;cases h
theorem anv {F:List Int} {k:Int} {d:PV} (h:vV F (.int k)=some d):(qZ F k).length=F.length:=by
 unfold qZ
 rw[if_pos]
 have h:(if fu F k=true then some (bP true) else none)=some d:=h
 cases e:fu F k with
 | true=>rfl
 | false=>rw[e,if_neg (by decide)] at h;cases h
theorem aev (F:List Int) (k:Int) (d:PV) (h:vV F (.int k)=some d):d=bP (fu F k)∧fu F k=true:=by
 have h:(if fu F k=true then some (bP true) else none)=some d:=h
 cases e:fu F k with
 | true=>rw[e,if_pos rfl] at h;cases h;exact ⟨rfl,rfl⟩
 | false=>rw[e,if_neg (by decide)] at h;cases h
theorem aej (F:List Int) (k:Int) (h:vV F (.int k)=none):bP (fu F k)=.val (.bool false)∧fu F k=false:=by
 have h:(if fu F k=true then some (bP true) else none)=none:=h
 cases e:fu F k with
 | true=>rw[e,if_pos rfl] at h;cases h
 | false=>exact ⟨rfl,rfl⟩
def tQ (c:aQ) (m:List Bool) (F:List Int):Nat→List Int
 | 0=>F
 | i+1=>if bW c i m then qZ (tQ c m F i) (i:Int) else tQ c m F i
def fall (c:aQ) (l:List (List Bool)):Nat→List Int
 | 0=>[]
 | a+1=>tQ c (l.getD a []) (fall c l a) c.trs.length
theorem afg (c:aQ) (m:List Bool) (F:List Int) (i:Nat):∀n,fu (tQ c m F n) (i:Int)=(fu F (i:Int)||(decide (i<n)&&bW c i m))
 | 0=>by rw[decide_eq_false (aj9 i),anZ,ash];rfl
 | n+1=>by
  have ih:=afg c m F i n
  rw[tQ]
  split
  ·rename_i h
   rw[abd,ih]
   by_cases e:i=n
   ·subst e;rw[h];simp
   ·have e2:((i:Int)==(n:Int))=false:=beq_eq_false_iff_ne.2 (by omega)
    have e3:decide (i<n+1)=decide (i<n):=by rw[decide_eq_decide];omega
    rw[e2,e3,ash]
  ·rename_i h
   rw[ih]
   by_cases e:i=n
   ·subst e
    have h:bW c i m=false:=by simpa using h
    rw[h,ap2,ap2]
   ·have e3:decide (i<n+1)=decide (i<n):=by rw[decide_eq_decide];omega
    rw[e3]
theorem agU (c:aQ) (l:List (List Bool)) {i:Nat} (hi:i<c.trs.length):∀a,a≤l.length→fu (fall c l a) (i:Int)=(l.take a).any fun m=>bW c i m
 | 0,_=>rfl
 | a+1,h=>by
  rw[fall,afg,agU c l hi a (by omega),decide_eq_true hi,ah3,aS [] (show a<l.length by omega),asW,asJ,as9,ash]
theorem aku {c:aQ} (h:iW c=true) (hc:bE c=0):c.sts.length≤7:=by
 unfold iW at h
 simp only[afF,apX,decide_eq_true_eq] at h
 rcases h.2.2.2.2 with h | h
 ·exact h.1
 ·exact absurd hc h
set_option maxHeartbeats 16000000 in
theorem akN:aK Tryz.prog 7 arR:=by
 refine iY [40] ?_
 refine aX (Tb:=tab) mixed aB Tryz.func7 rfl rfl ?_
 rintro (c:aQ) hpre
 refine ai (ai rfl (ai rfl rfl)) ?_
 refine ei _ (ai (anf) (ei (c) (ei [] (ai (a4 (ai (fun _=>Or.inl rfl) (ai nof (Or.inl rfl)))) (ai (by exact (ai rfl (ai (ai rfl (fun _ _=>rfl)) (ai (ai rfl (fun _ _=>rfl)) (ai rfl (fun _ _=>rfl)))))) (ai trivial (ai (trivial) ?_)))))))
 refine aZ (b:=!iW c) rfl (fun h=>?_) (fun h=>?_)
 ·refine ei _ (ai (wY) (ei (()) (ei [] (ai (a4 (ai (fun _=>Or.inl rfl) (ai nof (Or.inr rfl)))) (ai (by exact trivial) (ai trivial (ai (trivial) ?_)))))))
  refine ai (ai (fun _=>trivial) ?_) trivial
  exact rfl
 have h:iW c=true:=by simpa using h
 obtain ⟨ho,hf,_⟩:=aoA h
 refine ei _ (ai (adk) (ei (c) (ei [] (ai (a4 (ai (fun _=>Or.inl rfl) (ai nof (Or.inl rfl)))) (ai (by exact (ai rfl (ai (ai rfl (fun _ _=>rfl)) (ai (ai rfl (fun _ _=>rfl)) (ai rfl (fun _ _=>rfl)))))) (ai trivial (ai (ho) ?_)))))))
 refine bD (p:=bE c=0) (bU (by omega)) (fun hc=>?_) (fun hc=>?_)
 ·refine ei _ (ai (wY) (ei (()) (ei [] (ai (a4 (ai (fun _=>Or.inl rfl) (ai nof (Or.inr rfl)))) (ai (by exact trivial) (ai trivial (ai (trivial) ?_)))))))
  refine ai (ai (fun _=>trivial) ?_) trivial
  exact rfl
 have h7:=aku h hc
 have hN:=aoG h7 hc
 obtain ⟨_,_,⟨hs0,hs24⟩,h32,_⟩:=iG hc
 obtain ⟨hg,hgl,_⟩:=qd hN
 obtain ⟨z,hz⟩:∃z:Int,z=0:=⟨0,rfl⟩
 refine ei _ (ai (vO) (ei (c) (ei [] (ai (a4 (ai (fun _=>Or.inl rfl) (ai nof (Or.inl rfl)))) (ai (by exact (ai rfl (ai (ai rfl (fun _ _=>rfl)) (ai (ai rfl (fun _ _=>rfl)) (ai rfl (fun _ _=>rfl)))))) (ai trivial (ai (hf) ?_)))))))
 refine ei _ (ai ((jo uW c ho (r:=.tup [bbP (iC (gy c)),iP z]) (by show nY c=_;unfold nY;rw[hN,hz]))) (ei (()) (ei [] (ai (a4 (ai (fun _=>Or.inl rfl) (ai nof (Or.inl rfl)))) (ai (by exact (ai rfl (ai (ai rfl (fun _ _=>rfl)) (ai (ai rfl (fun _ _=>rfl)) (ai rfl (fun _ _=>rfl)))))) (ai trivial (ai (trivial) ?_)))))))
 refine ei _ (ai (vO) (ei (c) (ei [] (ai (a4 (ai (fun _=>Or.inl rfl) (ai nof (Or.inl rfl)))) (ai (by exact (ai rfl (ai (ai rfl (fun _ _=>rfl)) (ai (ai rfl (fun _ _=>rfl)) (ai rfl (fun _ _=>rfl)))))) (ai trivial (ai (hf) ?_)))))))
 refine ei _ (ai ((jo aoR c ho (r:=.tup [l6 (ny c),iP z]) (by show uq c=_;unfold uq;rw[hN,hz]))) (ei (()) (ei [] (ai (a4 (ai (fun _=>Or.inl rfl) (ai nof (Or.inl rfl)))) (ai (by exact (ai rfl (ai (ai rfl (fun _ _=>rfl)) (ai (ai rfl (fun _ _=>rfl)) (ai rfl (fun _ _=>rfl)))))) (ai trivial (ai (trivial) ?_)))))))
 refine ei _ (ai (vO) (ei (c) (ei [] (ai (a4 (ai (fun _=>Or.inl rfl) (ai nof (Or.inl rfl)))) (ai (by exact (ai rfl (ai (ai rfl (fun _ _=>rfl)) (ai (ai rfl (fun _ _=>rfl)) (ai rfl (fun _ _=>rfl)))))) (ai trivial (ai (hf) ?_)))))))
 refine ei _ (ai ((jo aiI c ho (r:=.tup [bP (!(jL c).2),l6 (jL c).1,iP z]) (by show tJ c=_;unfold tJ;rw[if_pos hN,hz]))) (ei (()) (ei [] (ai (a4 (ai (fun _=>Or.inl rfl) (ai nof (Or.inl rfl)))) (ai (by exact (ai rfl (ai (ai rfl (fun _ _=>rfl)) (ai (ai rfl (fun _ _=>rfl)) (ai rfl (fun _ _=>rfl)))))) (ai trivial (ai (trivial) ?_)))))))
 have hmem:=ahq hN
 have hl0:0<(iC (gy c)).length:=List.length_pos_of_mem (abu.1 hmem)
 have hsm:=akk (c:=c)
 have hlen:∀m∈iC (gy c),m.length=c.sts.length:=fun m hm=>by
  obtain ⟨y,hy,rfl⟩:=qc.1 hm
  exact (hg y hy).1
 have hw:((((jL c).1.length:Nat):Int)==0)=!(jL c).2:=by
  rw[amV,aru,beq_iff_eq,decide_eq_true_iff];omega
 have hsaf:=ajr (c:=c) hc
 have hdead:=fun i hi=>aj4 (c:=c) hN (i:=i) hi
 have hhas:=fun m hm k hk hf=>alc (c:=c) hN (m:=m) hm (k:=k) hk hf
 have hds:(ny c).length≤1000000:=aj1 c ho
 generalize iC (gy c)=l at *
 refine aZ (b:=false) (by simp only[hz,Int.add_zero,akt];rfl) (fun h=>absurd h (by decide)) (fun _=>?_)
 refine aZ (b:=false) (by show (!((!(jL c).2)==((((jL c).1.length:Nat):Int)==0)))=false;rw[hw];simp) (fun h=>absurd h (by decide)) (fun _=>?_)
 refine aZ (b:=false) (by show (((l.length:Nat):Int)==0)=false;rw[beq_eq_false_iff_ne];omega) (fun h=>absurd h (by decide)) (fun _=>?_)
 refine ai (ai (aa1 _) (ai (Int.le_refl _) (ai (by show (c.sts.length:Int)≤_;omega) (by show 1*((c.sts.length:Int)).toNat≤_;rw[aqz];omega)))) ?_
 refine ai (ai (by decide) (by show (0:Int)<((((c.sts.length:Int)).toNat:Nat):Int);rw[aqz];omega)) ?_
 refine ai (ai (by show 0<((c.sts.length:Int)).toNat;rw[aqz];exact hs0) (by decide)) ?_
 refine ei _ (ai (ala) (ei ((l,lq c.sts.length)) (ei [1] (ai (ai rfl (ai rfl (ai rfl (ai rfl (ai (fun _=>Or.inl rfl) (ai (fun _=>ai rfl rfl) (Or.inl rfl))))))) (ai ?_ (ai (by exact (ai rfl (ai rfl (fun _ _=>rfl)))) (ai (hsm) ?_)))))))
 ·refine (ai (ai ?_ ?_) (ai rfl rfl))
  ·show ((c.sts.length:Int)).toNat=(lq c.sts.length).length
   unfold lq;rw[aqz,asu,ar9]
  ·intro k hk
   have hk:k<((c.sts.length:Int)).toNat:=hk
   rw[aqz] at hk
   show jN (fun _=>[bP false]) 0 0 [bP true] k=[bP ((lq c.sts.length).getD k false)]
   unfold jN lq
   rw[aaI,asy]
   by_cases e:k=0
   ·subst e;rw[if_pos rfl,if_pos rfl,if_pos (by rw[ar9];exact hs0)];rfl
   ·rw[if_neg e,if_neg (fun h=>e h.symm),asB,if_pos hk];rfl
 refine aZ (b:=false) (by show (!tY l (lq c.sts.length))=false;rw[hmem];rfl) (fun h=>absurd h (by decide)) (fun _=>?_)
 have hl6:l.length≤1000000:=hsm.1
 refine ei (bF.inv { X:=Nat,up:=fun a=>[(83,.s (iA a))],uo:=fun a=>[⟨3,0,[.ob (aqt (fall c l a))]⟩],inv:=fun a=>a≤l.length∧(True),meas:=fun a=>l.length-a,x0:=0 }) ?_
 refine ai (ai (ai (by exact (a4 (ai rfl rfl))) (ai ?_ ?_)) rfl) (ai (ai (aeu _) ?_) ?_)
 ·exact (ai (ai (fun _=>rfl) (iE (by simp only[zz,reduceCtorEq];rfl))) rfl)
 ·refine (ai (ai rfl (ai rfl ?_)) trivial)
  exact fun k=>by show _=vV [] k;rw[ang]
 ·trivial
 intro (a:Nat) ⟨hal,_⟩
 refine ah (p:=a<l.length) (au (by omega)) (fun h1=>?_) (fun h1=>?_)
 ·refine ai (ai (aa1 _) (iN (n:=l.length) (by omega))) (ai rfl ?_)
  have hm:=acI (bI [] h1)
  have hml:=hlen _ hm
  have hfa:fall c l (a+1)=tQ c (l.getD a []) (fall c l a) c.trs.length:=rfl
  refine bD (p:=(l.getD a []).length=c.sts.length) (by simp only[zz,reduceCtorEq];omega) (fun h2=>?_) (fun h2=>?_)
  ·exact absurd hml h2
  refine ei (bF.inv { X:=Nat,up:=fun i=>[(96,.s (iA i))],uo:=fun i=>[⟨3,0,[.ob (aqt (tQ c (l.getD a []) (fall c l a) i))]⟩],inv:=fun i=>i≤c.trs.length∧(True),meas:=fun i=>c.trs.length-i,x0:=0 }) ?_
  refine ai (ai (ai (by exact (a4 (ai rfl rfl))) (ai ?_ ?_)) rfl) (ai (ai (aeu _) ?_) ?_)
  ·exact (ai (ai (fun _=>rfl) (iE (by simp only[zz,reduceCtorEq];rfl))) rfl)
  ·exact (ai (ai rfl (ai rfl (fun _=>rfl))) trivial)
  ·trivial
  intro (i:Nat) ⟨hi,_⟩
  refine ah (p:=i<c.trs.length) (au (by omega)) (fun h3=>?_) (fun h3=>?_)
  ·refine ai (ai (aa1 _) (iN (n:=c.trs.length) (by omega))) (ai rfl ?_)
   obtain ⟨q1,q2,q3⟩:=mH hc h3
   have hto:=aap ho h3
   have hfr:tQ c (l.getD a []) (fall c l a) (i+1)=if bW c i (l.getD a []) then qZ (tQ c (l.getD a []) (fall c l a) i) (i:Int) else tQ c (l.getD a []) (fall c l a) i:=rfl
   refine ei _ (ai (aoK) (ei ((l.getD a [],(c.trs.getD i aH).fr)) (ei [4] (ai (a4 (ai (fun _=>Or.inl rfl) (ai nof (Or.inl rfl)))) (ai (by exact (ai (ai rfl (fun _ _=>rfl)) (ai rfl (ai rfl rfl)))) (ai (by exact (ai rfl (ai rfl (fun _ _=>rfl)))) (ai (⟨by show iK (l.getD a []).length _;rw[hml];exact q1.2,hto.1⟩) ?_)))))))
   refine aZ (b:=!allM (l.getD a []) (c.trs.getD i aH).fr) rfl (fun h4=>?_) (fun h4=>?_)
   ·have h4:bW c i (l.getD a [])=false:=by simpa [bW,gP] using h4
    rw[h4,if_neg (by decide)] at hfr
    refine ei (i+1) (ai (ai rfl rfl) (ai (ai (ai rfl (ai (ai rfl rfl) (ai (ai rfl rfl) (ai (ai (ai (fun _=>rfl) (aO (by omega))) rfl) (ai (ai rfl (ai ?_ ?_)) trivial))))) rfl) (ai (ai (iL (by omega)) trivial) (iM (by omega)))))
    ·rw[hfr]
    ·rw[hfr];exact fun _=>rfl
   have h4:bW c i (l.getD a [])=true:=by simpa [bW,gP] using h4
   rw[h4,if_pos rfl] at hfr
   refine ai rfl (ei (qZ (tQ c (l.getD a []) (fall c l a) i) (i:Int)).length (ai (ai alS (fun _=>anv)) ?_))
   refine eY mixed aB Tryz.func40 rfl rfl ?_
   refine ai rfl ?_
   intro b hb
   refine aY (fun hb0=>?_) (fun hb0=>?_)
   ·have hb1:(l.getD a []).length=0:=hb hb0
    exact absurd hb1 (by omega)
   refine ai (mxL (n:=0+(l.getD a []).length) (by omega) (by decide)) (ai (fun _ _=>rfl) ?_)
   have hf0:(c.trs.getD i aH).fr.length≤1000000:=hto.1
   have ht0:(c.trs.getD i aH).to.length≤1000000:=hto.2.1
   refine ei (bF.inv { X:=Nat,up:=fun j=>[(112,.s (iA j)),(17,bsR (bC (l.getD a []) ((c.trs.getD i aH).fr.take j) false))],uo:=fun j=>[],inv:=fun j=>j≤(c.trs.getD i aH).fr.length∧(True),meas:=fun j=>(c.trs.getD i aH).fr.length-j,x0:=0 }) ?_
   refine ai (ai (ai (by exact (a4 (ai rfl rfl))) (ai ?_ ?_)) rfl) (ai (ai (aeu _) ?_) ?_)
   ·refine (ai (ai (ai (fun _=>rfl) (iE (by simp only[zz,reduceCtorEq];rfl))) rfl) (ai rfl (ai rfl (ai ?_ (fun _ _=>rfl)))))
    exact aip _
   ·exact trivial
   ·trivial
   intro (j:Nat) ⟨hk1,_⟩
   have hsl:(bC (l.getD a []) ((c.trs.getD i aH).fr.take j) false).length=c.sts.length:=(dF _ _ _).trans hml
   refine ah (p:=j<(c.trs.getD i aH).fr.length) (by simp only[zz,reduceCtorEq];omega) (fun h5=>?_) (fun h5=>?_)
   ·refine ai (ai (aa1 _) (iN (n:=(c.trs.getD i aH).fr.length) (by omega))) (ai rfl ?_)
    have hxx:=oL q1.2 h5
    have hxn:((c.trs.getD i aH).fr.getD j 0).toNat<(bC (l.getD a []) ((c.trs.getD i aH).fr.take j) false).length:=by omega
    refine ai (by show 0≤(c.trs.getD i aH).fr.getD j 0∧(c.trs.getD i aH).fr.getD j 0<((bC (l.getD a []) ((c.trs.getD i aH).fr.take j) false).length:Int);rw[hsl];exact hxx) ?_
    refine ai (ai hxn (by decide)) ?_
    refine ei (j+1) (ai (ai rfl rfl) (ai (ai (ai rfl (ai (ai rfl rfl) (ai (ai rfl rfl) (ai (ai (ai (ai (fun _=>rfl) (aO (by omega))) rfl) (ai rfl (ai rfl (ai ?_ ?_)))) trivial)))) rfl) (ai (ai (iL (by omega)) trivial) (iM (by omega)))))
    ·exact (dF _ _ _).trans (dF _ _ _).symm
    ·intro q hq
     show jN (fun w'=>[bP ((bC (l.getD a []) ((c.trs.getD i aH).fr.take j) false).getD w' false)]) ((c.trs.getD i aH).fr.getD j 0).toNat 0 [bP false] q=[bP ((bC (l.getD a []) ((c.trs.getD i aH).fr.take (j+1)) false).getD q false)]
     rw[ade hxn,aS 0 h5,nA]
   have hj1:(c.trs.getD i aH).fr.take j=(c.trs.getD i aH).fr:=asc (by omega)
   have hm2:(bC (l.getD a []) ((c.trs.getD i aH).fr.take j) false).length=c.sts.length:=(dF _ _ _).trans hml
   have hsx:(jL c).2=false→∀q,q<(c.trs.getD i aH).to.length→gL (bC (bC (l.getD a []) ((c.trs.getD i aH).fr.take j) false) ((c.trs.getD i aH).to.take q) true) ((c.trs.getD i aH).to.getD q 0)=false:=fun hs q hq=>by
    rw[hj1]
    exact hsaf hs (m:=l.getD a []) hm hml (k:=i) h3 h4 (j:=q) hq
   refine ei (bF.inv { X:=Nat,up:=fun w=>[(123,.s (iA w)),(17,bsR (bC (bC (l.getD a []) ((c.trs.getD i aH).fr.take j) false) ((c.trs.getD i aH).to.take w) true))],uo:=fun w=>[],inv:=fun w=>w≤(c.trs.getD i aH).to.length∧(True),meas:=fun w=>(c.trs.getD i aH).to.length-w,x0:=0 }) ?_
   refine ai (ai (ai (by exact (a4 (ai rfl rfl))) (ai ?_ ?_)) rfl) (ai (ai (aeu _) ?_) ?_)
   ·exact (ai (ai (ai (fun _=>rfl) (iE (by simp only[zz,reduceCtorEq];rfl))) rfl) (ai rfl (ai rfl (ai rfl (fun _ _=>rfl)))))
    skip
   ·exact trivial
   ·trivial
   intro (w:Nat) ⟨hk1,_⟩
   have hsl:(bC (bC (l.getD a []) ((c.trs.getD i aH).fr.take j) false) ((c.trs.getD i aH).to.take w) true).length=c.sts.length:=(dF _ _ _).trans hm2
   refine ah (p:=w<(c.trs.getD i aH).to.length) (by simp only[zz,reduceCtorEq];omega) (fun h5=>?_) (fun h5=>?_)
   ·refine ai (ai (aa1 _) (iN (n:=(c.trs.getD i aH).to.length) (by omega))) (ai rfl ?_)
    have hxx:=oL q2.2 h5
    have hxn:((c.trs.getD i aH).to.getD w 0).toNat<(bC (bC (l.getD a []) ((c.trs.getD i aH).fr.take j) false) ((c.trs.getD i aH).to.take w) true).length:=by omega
    refine ai (by show 0≤(c.trs.getD i aH).to.getD w 0∧(c.trs.getD i aH).to.getD w 0<((bC (bC (l.getD a []) ((c.trs.getD i aH).fr.take j) false) ((c.trs.getD i aH).to.take w) true).length:Int);rw[hsl];exact hxx) ?_
    refine ai hxn ?_
    refine aZ (b:=(bC (bC (l.getD a []) ((c.trs.getD i aH).fr.take j) false) ((c.trs.getD i aH).to.take w) true).getD ((c.trs.getD i aH).to.getD w 0).toNat false) rfl (fun h6=>?_) (fun h6=>?_)
    ·refine aZ (b:=!(jL c).2) rfl (fun h7=>?_) (fun h7=>?_)
     ·have e:=hsx (by simpa using h7) w h5
      exact absurd (h6.symm.trans e) (by decide)
     refine ai (by show 0≤(c.trs.getD i aH).to.getD w 0∧(c.trs.getD i aH).to.getD w 0<((bC (bC (l.getD a []) ((c.trs.getD i aH).fr.take j) false) ((c.trs.getD i aH).to.take w) true).length:Int);rw[hsl];exact hxx) ?_
     refine ai (ai hxn (by decide)) ?_
     refine ei (w+1) (ai (ai rfl rfl) (ai (ai (ai rfl (ai (ai rfl rfl) (ai (ai rfl rfl) (ai (ai (ai (ai (fun _=>rfl) (aO (by omega))) rfl) (ai rfl (ai rfl (ai ?_ ?_)))) trivial)))) rfl) (ai (ai (iL (by omega)) trivial) (iM (by omega)))))
     ·exact (dF _ _ _).trans (dF _ _ _).symm
     ·intro q hq
      show jN (fun w'=>[bP ((bC (bC (l.getD a []) ((c.trs.getD i aH).fr.take j) false) ((c.trs.getD i aH).to.take w) true).getD w' false)]) ((c.trs.getD i aH).to.getD w 0).toNat 0 [bP true] q=[bP ((bC (bC (l.getD a []) ((c.trs.getD i aH).fr.take j) false) ((c.trs.getD i aH).to.take (w+1)) true).getD q false)]
      rw[ade hxn,aS 0 h5,nA]
    ·refine ai (by show 0≤(c.trs.getD i aH).to.getD w 0∧(c.trs.getD i aH).to.getD w 0<((bC (bC (l.getD a []) ((c.trs.getD i aH).fr.take j) false) ((c.trs.getD i aH).to.take w) true).length:Int);rw[hsl];exact hxx) ?_
     refine ai (ai hxn (by decide)) ?_
     refine ei (w+1) (ai (ai rfl rfl) (ai (ai (ai rfl (ai (ai rfl rfl) (ai (ai rfl rfl) (ai (ai (ai (ai (fun _=>rfl) (aO (by omega))) rfl) (ai rfl (ai rfl (ai ?_ ?_)))) trivial)))) rfl) (ai (ai (iL (by omega)) trivial) (iM (by omega)))))
     ·exact (dF _ _ _).trans (dF _ _ _).symm
     ·intro q hq
      show jN (fun w'=>[bP ((bC (bC (l.getD a []) ((c.trs.getD i aH).fr.take j) false) ((c.trs.getD i aH).to.take w) true).getD w' false)]) ((c.trs.getD i aH).to.getD w 0).toNat 0 [bP true] q=[bP ((bC (bC (l.getD a []) ((c.trs.getD i aH).fr.take j) false) ((c.trs.getD i aH).to.take (w+1)) true).getD q false)]
      rw[ade hxn,aS 0 h5,nA]
   have hh:tY l (bC (bC (l.getD a []) ((c.trs.getD i aH).fr.take j) false) ((c.trs.getD i aH).to.take w) true)=true:=by
    rw[hj1,asc (by omega)]
    exact hhas _ hm i h3 h4
   refine ei _ (ai (ala) (ei ((l,bC (bC (l.getD a []) ((c.trs.getD i aH).fr.take j) false) ((c.trs.getD i aH).to.take w) true)) (ei [1] (ai (ai rfl (ai rfl (ai rfl (ai rfl (ai (fun _=>Or.inl rfl) (ai (fun _=>ai rfl rfl) (Or.inl rfl))))))) (ai (by exact (ai (ai rfl (fun _ _=>rfl)) (ai rfl rfl))) (ai (by exact (ai rfl (ai rfl (fun _ _=>rfl)))) (ai (hsm) ?_)))))))
   refine aZ (b:=false) (by show (!tY l (bC (bC (l.getD a []) ((c.trs.getD i aH).fr.take j) false) ((c.trs.getD i aH).to.take w) true))=false;rw[hh];rfl) (fun h=>absurd h (by decide)) (fun _=>?_)
   refine ei (i+1) (ai (ai rfl rfl) (ai (ai (ai rfl (ai (ai rfl rfl) (ai (ai rfl rfl) (ai (ai (ai (fun _=>rfl) (aO (by omega))) rfl) (ai (ai rfl (ai ?_ ?_)) trivial))))) rfl) (ai (ai (iL (by omega)) trivial) (iM (by omega)))))
   ·rw[hfr]
   ·rw[hfr];exact anu _ _
  ·obtain rfl:i=c.trs.length:=by omega
   refine ei (a+1) (ai (ai rfl rfl) (ai (ai (ai rfl (ai (ai rfl rfl) (ai (ai rfl rfl) (ai (ai (ai (fun _=>rfl) (aO (by omega))) rfl) (ai (ai rfl (ai rfl (fun _=>rfl))) trivial))))) rfl) (ai (ai (iL (by omega)) trivial) (iM (by omega)))))
 ·obtain rfl:a=l.length:=by omega
  have hfin:=fun i hi=>agU c l (i:=i) hi l.length (agv _)
  rw[agN] at hfin
  generalize fall c l l.length=F at *
  refine ei (bF.inv { X:=Nat,up:=fun i=>[(147,.s (iA i))],uo:=fun i=>[],inv:=fun i=>i≤c.trs.length∧(True),meas:=fun i=>c.trs.length-i,x0:=0 }) ?_
  refine ai (ai (ai (by exact (a4 (ai rfl rfl))) (ai (by exact (ai (ai (fun _=>rfl) (iE (by simp only[zz,reduceCtorEq];rfl))) rfl)) (by exact trivial))) rfl) (ai (ai (aeu _) ?_) ?_)
  ·trivial
  intro (i:Nat) ⟨hi,_⟩
  refine ah (p:=i<c.trs.length) (au (by omega)) (fun h1=>?_) (fun h1=>?_)
  ·have e1:=hfin i h1
   have e2:=hdead i h1
   refine ei (.one 0 (.one 1 (.one 3 (.one 4 (.alt 2 (.one 5 (.one 6 .done)) (.alt 5 (.one 2 (.one 6 .done)) .stop)))))) (ai (by kernel_rfl) ?_)
   refine ai ?_ (ai ?_ trivial)
   ·refine ai (ai rfl rfl) (ei (bP (fu F (i:Int))) (ei (fu F (i:Int)) (ai (ai (aev F i) (aej F i)) ?_)))
    refine ei _ (ai (ac8) (ei ((ny c,(i:Int))) (ei [] (ai (a4 (ai (fun _=>Or.inl rfl) (ai nof (Or.inl rfl)))) (ai (by exact (ai (ai rfl (fun _ _=>rfl)) rfl)) (ai trivial (ai (hds) ?_)))))))
    refine aZ (b:=false) (by show (fu F (i:Int)==fu (ny c) (i:Int))=false;rw[e1,e2];cases (l.any fun m=>bW c i m)<;>rfl) (fun h=>absurd h (by decide)) (fun _=>?_)
    refine ei (i+1) (ai (ai rfl rfl) (ai (ai (ai rfl (ai (ai rfl rfl) (ai (ai rfl rfl) (ai (ai (ai (fun _=>rfl) (aO (by omega))) rfl) trivial)))) rfl) (ai (ai (iL (by omega)) trivial) (iM (by omega)))))
   ·refine ei _ (ai (ac8) (ei ((ny c,(i:Int))) (ei [] (ai (a4 (ai (fun _=>Or.inl rfl) (ai nof (Or.inl rfl)))) (ai (by exact (ai (ai rfl (fun _ _=>rfl)) rfl)) (ai trivial (ai (hds) ?_)))))))
    refine ai (ai rfl rfl) (ei (bP (fu F (i:Int))) (ei (fu F (i:Int)) (ai (ai (aev F i) (aej F i)) ?_)))
    refine aZ (b:=false) (by show (fu F (i:Int)==fu (ny c) (i:Int))=false;rw[e1,e2];cases (l.any fun m=>bW c i m)<;>rfl) (fun h=>absurd h (by decide)) (fun _=>?_)
    refine ei (i+1) (ai (ai rfl rfl) (ai (ai (ai rfl (ai (ai rfl rfl) (ai (ai rfl rfl) (ai (ai (ai (fun _=>rfl) (aO (by omega))) rfl) trivial)))) rfl) (ai (ai (iL (by omega)) trivial) (iM (by omega)))))
  ·obtain rfl:i=c.trs.length:=by omega
   refine ei _ (ai (wY) (ei (()) (ei [] (ai (a4 (ai (fun _=>Or.inl rfl) (ai nof (Or.inr rfl)))) (ai (by exact trivial) (ai trivial (ai (trivial) ?_)))))))
   refine ai (ai (fun _=>trivial) ?_) trivial
   exact rfl
end Go.Sx.Pe
namespace Go.Sx.Pe
open Go Go.Proofs Go.Sx.Pn Go.ChangeShapes Go.WideShapes Go.ChangeAt Go.RowKit Go.Deep Go.Lib
theorem aks {H:Type} {enc:TypeId×Value→H} {P:Program} {f:Func} {s:ChangeSpec} {S:List TypeId} (hS:Closed P S) {tb:TypeId} (hb:P.underlying tb=some .bool) (hres:f.resultTypes=#[tb])
  {W W':World} {args:Array Value} {ds:List (DataW H)} {before:List MemPlace} (hW:DataW.Whole enc P f.params.toList s.vars false W args.toList ds [] before) (hv:s.vars=[])
  (hA:DataW.TrodAll enc P W 0 (fun _=>true) true f.params.toList args.toList ds before) (hts:∀t∈f.params.toList,t∈S) (hfn:s.fn H (ds++[])={ results:=[.lit (.bool true)],args:=ds,vars:=[] }) (hg:Below W.heap.size W W') :
  s.post enc P f false true false false W args (.bool true) W':=by
 have hlt:=hW.lt
 have hold:∀p∈before,(fun b=>decide (b<W.heap.size)) p.block=true:=fun p hp=>by simpa using hlt p hp
 have hargs:∀sp:Nat→Bool,(∀p∈before,sp p.block=true)→DataW.TrodAll enc P W' 0 sp true f.params.toList args.toList ds before:=fun sp hsp=>yw hS hg.block hts hA hsp
 have hrt:(Value.bool true).resultList f.resultTypes.size=[.bool true]:=by rw[hres];rfl
 have hr:∀(b:Nat) (sp:Nat→Bool) (hd:Bool),DataW.TrodAll enc P W' b sp hd f.resultTypes.toList ((Value.bool true).resultList f.resultTypes.size) [.lit (.bool true)] []:=fun b sp hd=>by
  rw[hrt,hres];exact trodAll_cons_mk (shut_bool hb true) trodAll_mk0
 refine ⟨ds,[],before,[],before,[],hW,by rw[hfn];exact hr _ _ _,by rw[hfn];exact hargs _ hold,by rw[hfn,hv];rfl,World.keptBut_mono (fun p hp=>⟨hp,.inr (.inl hp)⟩) (hg.frame (·∈before)),fun h=>by cases h⟩
theorem apn:ownKnob Tryz.prog.godebug=none:=by kernel_rfl
theorem aoq {d1 d2 d4 d5:DataW Unit} {n1 n2 n4 n5:String} {W:World} (h:laidMet Tryz.prog [(n1,d1),(n2,d2),("internal/strconv.uint64pow10",Go.Proofs.YteenedbiifampaaGreatDoor.Rows.laid_internal_strconv_uint64pow10),(n4,d4),(n5,d5)] W):∀p∈glP,fM W p.1=some p.2:=by
 have h3:TabIs Tryz.prog W "internal/strconv.uint64pow10" .u64 Lib.pow10Tab:=
  tabIs_of_head (rest:=[(n4,d4),(n5,d5)]) (show Tryz.prog.globalNamed "internal/strconv.uint64pow10"=some 0 by kernel_rfl) (show (Tryz.prog.globals[0]?).map (·.type)=some 275 by kernel_rfl) Tryz.underlying275 Tryz.underlying252 (by kernel_rfl) (by kernel_rfl) (laidMet.tail (laidMet.tail h))
 intro p hp
 rw[ag4.1 hp]
 have h4:World.var? Tryz.prog W "internal/strconv.uint64pow10"=some p10:=h3
 unfold World.var? at h4
 rw[show Tryz.prog.globalNamed "internal/strconv.uint64pow10"=some 0 by kernel_rfl] at h4
 exact h4
def afc (vs:List Value):Obj→Obj
 | .cells _ t frozen=>.cells vs.toArray t frozen
 | o=>o
def u8s (l:List Nat):List Value:=l.map fun n:Nat=>Value.int .u8 (n:Int)
noncomputable def yR (os:Os):World:=
 { World.holding Tryz.prog os ⟨#[],#[],[]⟩ with heap:=((((((World.holding Tryz.prog os ⟨#[],#[],[]⟩).heap.modify 2 (afc (u8s Lib.deBruijn32tab))).modify 3 (afc (u8s Lib.deBruijn64tab))).modify 0 (afc p10.toList)).modify 5 (afc (u8s ([128,191,160,191,128,159,144,191,128,143]++List.replicate 22 0)))).modify 4 (afc (u8s Go.Pinned.utf8FirstZ))) }
theorem apf {E:Env} {v:Value} {d d':PV} (h:aL E v (.p false d)) (e:gN d d'):aL E v (.p false d'):=by
 cases h with | p _ _ _ hp=>exact .p _ _ _ (qY e hp)
theorem lQ {P:Program} {t:TypeId} {fs:Array Field} {n:Nat} {l:List PV} {ts:List TypeId} (hu:P.underlying t=some (.struct fs)) (hts:fs.toList.map (·.type)=ts) (h:Shape P n t l) :
  ∃(n':Nat) (ls:List (List PV)),n=n'+1∧l=ls.flatten∧afE P n' ts ls:=by
 cases n with
 | zero=>exact h.elim
 | succ n=>
  unfold Shape at h;rw[hu] at h
  obtain ⟨ls,rfl,h1,h2⟩:=h
  refine ⟨n,ls,rfl,rfl,adT ts ls (by rw[h1,←hts];simp) fun i t x ht hx=>?_⟩
  subst hts
  simp only[alr,aes,asg] at ht
  obtain ⟨f,hf,rfl⟩:=ht
  exact h2 i f x hf hx
theorem zn {P:Program} {t e:TypeId} {n:Nat} {l:List PV} (hu:P.underlying t=some (.slice e)) (h:Shape P n t l):∃(n' m:Nat) (f:Nat→List PV),n=n'+1∧l=[.seq m f]∧∀j,j<m→Shape P n' e (f j):=by
 cases n with
 | zero=>exact h.elim
 | succ n=>unfold Shape at h;rw[hu] at h;obtain ⟨m,f,h1,h2,h3⟩:=h;exact ⟨n,m,f,rfl,h2,h3⟩
theorem ad9 {α:Type} (d:α) {g:α→List PV} {m:Nat} {f:Nat→List PV} (h:∀j,j<m→∃x,bM (f j) (g x)):∃L:List α,L.length=m∧∀j,j<m→bM (f j) (g (L.getD j d)):=by
 have h1:∀j,∃x:α,j<m→bM (f j) (g x):=fun j=>by
  by_cases hj:j<m
  ·obtain ⟨x,hx⟩:=h j hj;exact ⟨x,fun _=>hx⟩
  ·exact ⟨d,fun h=>absurd h hj⟩
 obtain ⟨c,hc⟩:=Classical.axiomOfChoice h1
 refine ⟨(List.range m).map c,by simp,fun j hj=>?_⟩
 have:((List.range m).map c).getD j d=c j:=by simp[aaI,hj]
 rw[this];exact hc j hj
theorem o7 {α:Type} (d:α) {g:α→List PV} {P:Program} {t e:TypeId} {n:Nat} {l:List PV} (hu:P.underlying t=some (.slice e)) (he:∀k x,k<n→Shape P k e x→∃y,bM x (g y)) (h:Shape P n t l):∃L:List α,bM l [.seq L.length (fun j=>g (L.getD j d))]:=by
 obtain ⟨n',m,f,rfl,rfl,hf⟩:=zn hu h
 obtain ⟨L,rfl,hL⟩:=ad9 d fun j hj=>he n' (f j) (Nat.lt_succ_self _) (hf j hj)
 exact ⟨L,abj (gD hL)⟩
theorem pX:∀{a b c d:List PV},bM a b→bM c d→bM (a++c) (b++d)
 | [],[],_,_,_,h=>h
 | x :: a,y :: b,c,d,h,k=>bH (h.2 0 x y rfl rfl) (pX ⟨by simpa using h.1,fun j s s' hs hs'=>h.2 (j+1) s s' hs hs'⟩ k)
 | [],_ :: _,_,_,h,_=>by have:=h.1;simp at this
 | _ :: _,[],_,_,h,_=>by have:=h.1;simp at this
theorem aeE {a b c a' b' c':List PV} (h1:bM a a') (h2:bM b b') (h3:bM c c'):bM [a,b,c].flatten (a'++(b'++c')):=by
 have:[a,b,c].flatten=a++(b++c):=by simp
 rw[this];exact pX h1 (pX h2 h3)
theorem adU {a b a' b':List PV} (h1:bM a a') (h2:bM b b'):bM [a,b].flatten (a'++b'):=by
 have:[a,b].flatten=a++b:=by simp
 rw[this];exact pX h1 h2
theorem alf {a b c d a' b' c' d':List PV} (h1:bM a a') (h2:bM b b') (h3:bM c c') (h4:bM d d'):bM [a,b,c,d].flatten (a'++(b'++(c'++d'))):=by
 have:[a,b,c,d].flatten=a++(b++(c++d)):=by simp
 rw[this];exact pX h1 (pX h2 (pX h3 h4))
theorem vJ {n:Nat} {l:List PV} (h:Shape Tryz.prog n 3 l):∃m:Int,bM l [iP m]:=by
 obtain ⟨m,_,rfl⟩:=akz Tryz.underlying3 h
 exact ⟨m,bM.rfl' _⟩
theorem aoO {n:Nat} {l:List PV} (h:Shape Tryz.prog n 4 l):∃b:Bool,bM l [bP b]:=by
 obtain ⟨m,rfl⟩:=ajx Tryz.underlying4 h
 exact ⟨m,bM.rfl' _⟩
theorem aqp {n:Nat} {l:List PV} (h:Shape Tryz.prog n 9 l):∃s:List UInt8,bM l [sP s]:=by
 obtain ⟨s,_,rfl⟩:=afe Tryz.underlying9 h
 refine ⟨s.data.toList,bM.of ?_⟩
 have:strOf s.data.toList=s:=by cases s;simp[strOf]
 show _=[PV.val (.string (strOf s.data.toList))]
 rw[this]
theorem aiD {n:Nat} {l:List PV} (h:Shape Tryz.prog n 29 l):∃L:List Int,bM l [l6 L]:=o7 0 (g:=fun x=>[iP x]) Tryz.underlying29 (fun _ _ _ h=>vJ h) h
theorem aof {n:Nat} {l:List PV} (h:Shape Tryz.prog n 22 l):∃L:List (List UInt8),bM l [ssP L]:=o7 [] (g:=fun x=>[sP x]) Tryz.underlying22 (fun _ _ _ h=>aqp h) h
theorem aq8 {n:Nat} {l:List PV} (h:Shape Tryz.prog n 94 l):∃x:Sk,bM l (skK x):=by
 obtain ⟨n',ls,rfl,rfl,h2⟩:=lQ (ts:=[3,4]) Tryz.underlying94 (by decide) h
 match ls,h2 with
 | [a,b],⟨ha,hb,_⟩=>
  obtain ⟨x,hx⟩:=vJ ha
  obtain ⟨y,hy⟩:=aoO hb
  exact ⟨(x,y),adU hx hy⟩
theorem aqA {n:Nat} {l:List PV} (h:Shape Tryz.prog n 87 l):∃L:List Sk,bM l [yX L]:=o7 bJ (g:=skK) Tryz.underlying87 (fun _ _ _ h=>aq8 h) h
theorem apZ {n:Nat} {l:List PV} (h:Shape Tryz.prog n 108 l):∃x:Stp,bM l (stK x):=by
 obtain ⟨n',ls,rfl,rfl,h2⟩:=lQ (ts:=[87,3]) Tryz.underlying108 (by decide) h
 match ls,h2 with
 | [a,b],⟨ha,hb,_⟩=>
  obtain ⟨x,hx⟩:=aqA ha
  obtain ⟨y,hy⟩:=vJ hb
  exact ⟨⟨x,y⟩,adU hx hy⟩
theorem apg {n:Nat} {l:List PV} (h:Shape Tryz.prog n 23 l):∃L:List Stp,bM l [ajM L]:=o7 st0 (g:=stK) Tryz.underlying23 (fun _ _ _ h=>apZ h) h
theorem aeJ {d:PV} {n:Nat} {f g:Nat→List PV} (h:gN d (.seq n f)) (e:∀k,k<n→f k=g k):gN d (.seq n g):=by
 cases h with
 | refl=>exact gD fun k hk=>bM.of (e k hk)
 | nil=>exact .nil _
 | seq _ f0 _ hl he=>exact .seq n f0 g (fun j hj=>by rw[←e j hj];exact hl j hj) fun j k s s' hj hs hs'=>he j k s s' hj hs (by rw[e j hj];exact hs')
theorem amD {L:List Ex} {j:Nat} {x:List PV} (h:bM x (xJ (L.getD j dS))):bM x (exF L j):=by
 match x,h with
 | [p,q,r],⟨hl,h⟩=>
  refine bH (h 0 _ _ rfl rfl) (bH (h 1 _ _ rfl rfl) (abj ?_))
  exact aeJ (h 2 _ _ rfl rfl) fun k hk=>aja _ k hk
 | [],⟨hl,_⟩=>simp[xJ] at hl
 | [_],⟨hl,_⟩=>simp[xJ] at hl
 | [_,_],⟨hl,_⟩=>simp[xJ] at hl
 | _ :: _ :: _ :: _ :: _,⟨hl,_⟩=>simp[xJ] at hl
theorem aq4:∀(n:Nat) (l:List PV),Shape Tryz.prog n 79 l→∃x:Ex,bM l (xJ x):=by
 intro n
 induction n using Nat.strongRecOn with
 | _ n ih=>
  intro l h
  obtain ⟨n',ls,rfl,rfl,h2⟩:=lQ (ts:=[3,3,77]) Tryz.underlying79 (by decide) h
  match ls,h2 with
  | [a,b,c],⟨ha,hb,hc,_⟩=>
   obtain ⟨x,hx⟩:=vJ ha
   obtain ⟨y,hy⟩:=vJ hb
   obtain ⟨n2,m,f,rfl,rfl,hf⟩:=zn Tryz.underlying77 hc
   obtain ⟨L,rfl,hL⟩:=ad9 dS fun j hj=>ih n2 (by omega) (f j) (hf j hj)
   refine ⟨.node x y L,aeE hx hy (abj (gD fun j hj=>?_))⟩
   exact amD (hL j hj)
theorem aqs {n:Nat} {l:List PV} (h:Shape Tryz.prog n 81 l):∃x:jK,bM l (trK x):=by
 obtain ⟨n',ls,rfl,rfl,h2⟩:=lQ (ts:=[29,29,79]) Tryz.underlying81 (by decide) h
 match ls,h2 with
 | [a,b,c],⟨ha,hb,hc,_⟩=>
  obtain ⟨x,hx⟩:=aiD ha
  obtain ⟨y,hy⟩:=aiD hb
  obtain ⟨z,hz⟩:=aq4 _ _ hc
  exact ⟨⟨x,y,z⟩,aeE hx hy hz⟩
theorem aoX {n:Nat} {l:List PV} (h:Shape Tryz.prog n 24 l):∃L:List jK,bM l [ame L]:=o7 aH (g:=trK) Tryz.underlying24 (fun _ _ _ h=>aqs h) h
def acC:List TypeId:=[3,4,9,29,72,22,94,87,95,41,43,108,23,79,77,81,24,26]
theorem xL:Closed Tryz.prog acC:=by
 intro t ht
 simp only[acC,aiq,List.mem_nil_iff,or_false] at ht
 rcases ht with rfl | rfl | rfl | rfl | rfl | rfl | rfl | rfl | rfl | rfl | rfl | rfl | rfl | rfl | rfl | rfl | rfl | rfl<;>kernel_rfl
section
variable {w : World} {r : Reach} {b : Nat} {v : Value} {n : Nat} {l : List PV}
theorem akA (hv:Value.okWide Tryz.prog w r b 26 v) (hs:Shape Tryz.prog n 26 l) (hr:Rel (fM w) v.cells.toList l):∃c:aQ,aL (E0 w) v (kP c):=by
 obtain ⟨cs,hc⟩:=akm Tryz.underlying26 hv
 have hS:=apx hc hr
 obtain ⟨n',ls,rfl,rfl,h2⟩:=lQ (ts:=[3,22,23,24]) Tryz.underlying26 (by decide) hs
 match ls,h2 with
 | [a,b,c,d],⟨ha,hb,hc,hd,_⟩=>
  obtain ⟨x,hx⟩:=vJ ha
  obtain ⟨y,hy⟩:=aof hb
  obtain ⟨z,hz⟩:=apg hc
  obtain ⟨u,hu⟩:=aoX hd
  exact ⟨⟨x,y,z,u⟩,apf hS (vB (alf hx hy hz hu))⟩
end
end Go.Sx.Pe
namespace Go.Proofs.YteenedbiifampaaGreatDoor.chartLeads
open Go.ChangeShapes Go.WideShapes Go.ChangeAt Go.RowKit Go.Joins Go.Deep Go.Sx Go.Sx.Pn Go.Sx.Pe
set_option maxRecDepth 100000 in
theorem contract (H:Type) (enc:TypeId×Value→H) (W:World) (base:Nat) (args:Array Value) (ds gs:List (DataW H)) (before:List MemPlace)
  (hval:∀(j:Nat) t v,Tryz.f7.params[j]?=some t→args[j]?=some v→Value.okWide Tryz.prog W .any base t v)
  (hW:DataW.Whole enc Tryz.prog Tryz.f7.params.toList Rows.chartLeadsSpec.vars false W args.toList ds gs before) (hL:laidMetH Tryz.prog Rows.chartLeadsRow.laid W) :
  Calls Tryz.prog 7 args W fun e W'=>∃v,e=.returned v∧Rows.chartLeadsSpec.post enc Tryz.prog Tryz.f7 false true false false W args v W':=by
 have hW':=hW
 obtain ⟨p,q,hA0,hV,rfl,hfz,hnd⟩:=hW
 obtain ⟨rfl,rfl⟩:=trodVars_none hV
 have hA:DataW.TrodAll enc Tryz.prog W 0 (fun _=>true) true Tryz.f7.params.toList args.toList ds p:=hA0
 have hA1:=hA
 rw[Tryz.params7] at hA hval
 clear hA0
 obtain ⟨v0,vs0,d0,ds0,p0,q0,hargs0,rfl,rfl,⟨fu0,h0⟩,r0⟩:=trodAll_cons hA
 obtain ⟨rfl,rfl,rfl⟩:=trodAll_nil r0
 obtain rfl:args=#[v0]:=by cases args;simp_all
 obtain ⟨l0,s0,e0⟩:=afx xL fu0 26 _ _ (by decide) h0
 obtain ⟨a0,S0⟩:=akA (hval 0 _ v0 rfl rfl) s0 e0
 simp only[aqr] at hW' hA1
 refine (afo akN a0 trivial W (aoq hL) _ (ajh (vs:=[v0]) (ai S0 trivial))).mono fun e W' ⟨he,hg⟩=>?_
 subst he
 exact ⟨_,rfl,aks xL Tryz.underlying4 (by kernel_rfl) hW' rfl hA1 (by rw[Tryz.params7];decide) rfl hg⟩
theorem laid_met (os:Os):laidMet Tryz.prog Rows.chartLeadsRow.laid ((yR os).forCall (fun _ _=>0) ⟨#[],#[.agg #[.int .i64 0,.slice none 0 0,.slice none 0 0,.slice none 0 0]],[]⟩).memory:=
 laidMet_of_run' 8 (by kernel_rfl) (by kernel_rfl)
theorem reads (os:Os) {H:Type} (enc:TypeId×Value→H):∃places,DataW.whole enc Tryz.prog ((yR os).forCall (fun _ _=>0) ⟨#[],#[.agg #[.int .i64 0,.slice none 0 0,.slice none 0 0,.slice none 0 0]],[]⟩).memory Tryz.f7.params.toList Rows.chartLeadsSpec.vars false (Array.toList (α:=Value) #[.agg #[.int .i64 0,.slice none 0 0,.slice none 0 0,.slice none 0 0]]) 8=some ([.agg [.lit (.int .i64 0),.nil,.nil,.nil]],[],places):=
 ⟨[],by kernel_rfl⟩
set_option maxRecDepth 100000 in
theorem lifted (os:Os) (started:os.Started) (H:Type) (enc:TypeId×Value→H) (F:Stop.Interp) :
  ReturnsInHanded {} Tryz.checked os 7 .any ((OpenSpec.ofChange Rows.chartLeadsSpec).preRow enc Tryz.prog Tryz.f7 Rows.chartLeadsRow.domain false Rows.chartLeadsRow.laid) (((OpenSpec.ofChange Rows.chartLeadsSpec).at F).post enc Tryz.prog Tryz.f7 false true false false):=by
 obtain ⟨places,hx⟩:=reads os enc
 refine returnsInHanded_of_row (C:=Tryz.checked) (s:=OpenSpec.ofChange Rows.chartLeadsSpec) apn started (by kernel_rfl) Tryz.func7
  (witness_row_at (enc:=enc) (C:=Tryz.checked) false (yR os) #[.agg #[.int .i64 0,.slice none 0 0,.slice none 0 0,.slice none 0 0]] rfl (by kernel_rfl) (by kernel_rfl) (by kernel_rfl)
   (OpenSpec.preRow_of_cond 8 hx (by kernel_rfl) (fun k hk=>by cases hk) (by kernel_rfl) (laid_met os))) ?_
 intro W base args ds gs before hval hW _ _ _ hL _ _
 exact contract H enc W base args ds gs before hval hW hL
theorem facts:joinedFacts Tryz.pinned.checked.prog 7 Tryz.f7 (OpenSpec.ofChange Rows.chartLeadsSpec).bare Rows.chartLeadsRow=true:=by kernel_rfl
theorem named:Tryz.pinned.checked.prog.funcNamed Rows.chartLeadsRow.func=some 7:=by kernel_rfl
theorem inst:Tryz.f7.isInstance Tryz.pinned.checked.prog Rows.chartLeadsRow.origin Rows.chartLeadsRow.targs:=of_decide_eq_true (by kernel_rfl)
theorem wrap:Tryz.f7.isWrapper Tryz.pinned.checked.prog Rows.chartLeadsRow.wrapper Rows.chartLeadsRow.mainSum:=by unfold Func.isWrapper;first | (rw[if_pos (by decide +kernel)];kernel_rfl) | (rw[if_neg (by decide +kernel)];exact ⟨rfl,rfl⟩)
theorem said:Rows.ChartLeadsSaid:=
 OpenClaim.holds_of_cond 7 Tryz.f7 rfl rfl rfl rfl rfl rfl rfl ⟨rfl,rfl,rfl,rfl,rfl⟩ rfl rfl rfl rfl rfl named Tryz.func7 facts inst wrap
  (fun os started H enc _ F=>by rw[OpenClaim.pre_eq_preRow];exact lifted os started H enc F)
theorem plain (f:FuncId) (fn:Func) (hf:Tryz.pinned.checked.prog.funcNamed "pneumatic/pneumaticlaw35.ChartLeads"=some f) (hfn:Tryz.pinned.checked.prog.funcs[f]?=some fn) :
  false=Tryz.pinned.checked.prog.looks []∧∀(j:Nat) t,fn.params[j]?=some t→Tryz.pinned.checked.prog.wantsStandIn t=false:=by
 obtain rfl:f=7:=Option.some.inj ((show Tryz.prog.funcNamed "pneumatic/pneumaticlaw35.ChartLeads"=some 7 by kernel_rfl).symm.trans hf) |>.symm
 obtain rfl:fn=Tryz.f7:=(Option.some.inj (Tryz.func7.symm.trans hfn)).symm
 refine ⟨by kernel_rfl,fun j t ht=>?_⟩
 rw[Tryz.params7] at ht
 have hm:∀t∈#[26],Tryz.prog.wantsStandIn t=false:=by decide +kernel
 exact hm t (asH ht)
theorem card:Rows.ChartLeadsCardSaid:=
 Claim7.holds_tied_plain_at .later [] _ _ _ _ said (fun _ h=>by cases h) (by kernel_rfl) (fun _ h=>by cases h) chartLeads_row_tie rfl ⟨rfl,rfl⟩ (by kernel_rfl) rfl plain (by kernel_rfl)
end Go.Proofs.YteenedbiifampaaGreatDoor.chartLeads
