/- The card of ChartGuards: for every input the law answers true, and its arguments read as they did. -/
import Derived.Test.YteenedbiifampaaGreatDoorG6
set_option maxHeartbeats 1000000
set_option maxRecDepth 4000
set_option linter.unusedSimpArgs false
set_option linter.unusedVariables false
set_option linter.unusedSectionVars false
namespace Go.Sx.Pe
open Go Go.Proofs Go.Sx.Pn
set_option maxHeartbeats 4000000 in
theorem acF:aL Tryz.prog 24 (fnG (fun c:aS=>[jH c]) an1 uJ):=by
 refine jG [78,81,84] ?_
 refine aX (Tb:=tab) mixed aB Tryz.func24 rfl rfl ?_
 rintro (c:aS) hpre
 refine ai (ai rfl (ai rfl rfl)) ?_
 obtain ⟨ho,h40⟩:=hpre
 have ho:je c:=ho
 refine ei _ (ai (ak8) (ei (c) (ei [] (ai (a4 (ai (fun _=>Or.inl rfl) (ai nof (Or.inl rfl)))) (ai (by exact (ai rfl (ai (ai rfl (fun _ _=>rfl)) (ai (ai rfl (fun _ _=>rfl)) (ai rfl (fun _ _=>rfl)))))) (ai trivial (ai (ho) ?_)))))))
 refine bE (p:=bD c=0) (bT (by omega)) (fun h1=>?_) (fun h1=>?_)
 ·refine ai (ai (fun _=>(by exact (ai trivial trivial))) ?_) trivial
  show ak _ (uJ c)
  rw[uJ,if_neg h1]
  exact (ai rfl rfl)
 have hc:bD c=0:=h1
 have h40:∀t∈c.trs,t.wh.size≤120∧abk t.wh:=h40 hc
 obtain ⟨_,_,hs24,ht32,_⟩:=jg hc
 refine ei (bC.inv { X:=Nat,up:=fun k=>[(24,.s (iA k))],uo:=fun k=>[⟨1,143,[.s (arw k),.rw 5 1 (bK c.sts k).length (ac3 (bK c.sts k))]⟩],inv:=fun k=>k≤c.sts.length∧(True),meas:=fun k=>c.sts.length-k,x0:=0 }) ?_
 refine ai (ai (ai (by exact (a4 (ai rfl rfl))) (ai ?_ ?_)) rfl) (ai (ai (abY _) ?_) ?_)
 ·exact (ai (ai (fun _=>rfl) (iE (by simp only[zz,reduceCtorEq];rfl))) rfl)
 ·exact (ai (ai (ai (ai (fun _=>rfl) rfl) rfl) rfl) trivial)
 ·trivial
 intro (k:Nat) ⟨hk,_⟩
 have hL:=ag6 hc hk
 cases k with
 | zero=>
  refine ah (p:=(0:Nat)<c.sts.length) (au (by omega)) (fun h2=>?_) (fun h2=>?_)
  ·refine ai (ai (aaI _) (iN (n:=c.sts.length) (by omega))) (ai rfl ?_)
   have hd:=uZ (n:=(0:Nat)) (by omega)
   have hh:=ada (k:=(0:Nat)) (by omega)
   obtain ⟨g1,g2,g3,g4⟩:=agT hc h2
   refine ei _ (ai (wU) (ei ((0:Nat)) (ei [] (ai (a4 (ai (fun _=>Or.inl rfl) (ai nof (Or.inl rfl)))) (ai (by exact rfl) (ai trivial (ai ((by show (0:Nat)<100;omega)) ?_)))))))
   refine ai (p8 (l:=stepW) (m:=dec ((0:Nat))) rfl rfl (by show 5+_≤_;omega)) (ai (p8 (l:=stepW++dec ((0:Nat))) (m:=[58]) (eD _ _) rfl (by rw[aaA];show 5+_+1≤_;omega)) ?_)
   refine eB (sM) ((false,[],bK c.sts ((0:Nat)),gJ ((0:Nat)))) [1,2] (a4 (ai rfl rfl)) (Or.inl rfl) ?_ (by exact (ai (ai rfl (ai rfl rfl)) (ai rfl (ai rfl (ai rfl (fun _ _=>rfl)))))) (⟨by show (bK c.sts ((0:Nat))).length≤1000000;omega,by show (gJ ((0:Nat))).length≤1000000;omega⟩) ?_
   ·exact (ai (ai rfl rfl) rfl)
   refine ei (bC.inv { X:=Nat,up:=fun j=>[(37,.s (iA j))],uo:=fun j=>[⟨1,143,[.s (.own 1 0),.rw 5 1 ((bK c.sts ((0:Nat))++gJ ((0:Nat)))++iJ ((c.sts.getD ((0:Nat)) st0).st.take j)).length (ac3 ((bK c.sts ((0:Nat))++gJ ((0:Nat)))++iJ ((c.sts.getD ((0:Nat)) st0).st.take j)))]⟩],inv:=fun j=>j≤(c.sts.getD ((0:Nat)) st0).st.length∧(True),meas:=fun j=>(c.sts.getD ((0:Nat)) st0).st.length-j,x0:=0 }) ?_
   refine ai (ai (ai (by exact (a4 (ai rfl rfl))) (ai ?_ ?_)) rfl) (ai (ai (abY _) ?_) ?_)
   ·exact (ai (ai (fun _=>rfl) (iE (by simp only[zz,reduceCtorEq];rfl))) rfl)
   ·refine (ai (ai (ai (ai rfl rfl) rfl) (ai rfl (ai rfl (ai ?_ ?_)))) trivial)
    ·show (bK c.sts ((0:Nat))++gJ ((0:Nat))).length=((bK c.sts ((0:Nat))++gJ ((0:Nat)))++[]).length
     rw[apT]
    ·exact lU (by show _=_++[];rw[apT])
   ·trivial
   intro (j:Nat) ⟨hj,_⟩
   have hT:=adl ((c.sts.getD ((0:Nat)) st0).st.take j)
   rw[aiq] at hT
   refine ah (p:=j<(c.sts.getD ((0:Nat)) st0).st.length) (by simp only[zz,reduceCtorEq];omega) (fun h3=>?_) (fun h3=>?_)
   ·refine ai (ai (aaI _) (iN (n:=(c.sts.getD ((0:Nat)) st0).st.length) (by omega))) (ai rfl ?_)
    have hw:(nP ((c.sts.getD ((0:Nat)) st0).st.getD j bI)).length=2:=rfl
    refine ei _ (ai (af2) (ei ((c.sts.getD ((0:Nat)) st0).st.getD j bI) (ei [] (ai (a4 (ai (fun _=>Or.inl rfl) (ai nof (Or.inl rfl)))) (ai (by exact (ai (iE (by simp only[zz,reduceCtorEq])) rfl)) (ai trivial (ai (u6 g2 h3) ?_)))))))
    refine ai (p8 (l:=[32]) (m:=nP ((c.sts.getD ((0:Nat)) st0).st.getD j bI)) rfl rfl (by rw[hw];decide)) ?_
    refine eB (sM) ((true,[],(bK c.sts ((0:Nat))++gJ ((0:Nat)))++iJ ((c.sts.getD ((0:Nat)) st0).st.take j),[32]++nP ((c.sts.getD ((0:Nat)) st0).st.getD j bI))) [1,5] (a4 (ai rfl rfl)) (Or.inl rfl) ?_ (by exact (ai (ai rfl (ai (ai rfl rfl) rfl)) (ai rfl (ai rfl (ai rfl (fun _ _=>rfl)))))) (⟨by show ((bK c.sts ((0:Nat))++gJ ((0:Nat)))++iJ ((c.sts.getD ((0:Nat)) st0).st.take j)).length≤1000000;simp only[aaA,aik,anl];omega,by show ([32]++nP ((c.sts.getD ((0:Nat)) st0).st.getD j bI)).length≤1000000;rw[aaA,hw];decide⟩) ?_
    ·exact (ai (ai rfl rfl) rfl)
    have eN:((bK c.sts ((0:Nat))++gJ ((0:Nat)))++iJ ((c.sts.getD ((0:Nat)) st0).st.take j))++([32]++nP ((c.sts.getD ((0:Nat)) st0).st.getD j bI))=(bK c.sts ((0:Nat))++gJ ((0:Nat)))++iJ ((c.sts.getD ((0:Nat)) st0).st.take (j+1)):=by
     rw[aP bI h3]
     unfold iJ
     rw[List.flatMap_append]
     simp
    refine ei (j+1) (ai (ai rfl rfl) (ai (ai (ai rfl (ai (ai rfl rfl) (ai (ai rfl rfl) (ai (ai (ai (fun _=>rfl) (aO (by omega))) rfl) (ai (ai (ai (ai rfl rfl) rfl) (ai rfl (ai rfl (ai ?_ ?_)))) trivial))))) rfl) (ai (ai (iL (by omega)) trivial) (iM (by omega)))))
    ·exact congrArg List.length eN
    ·exact lU eN
   obtain rfl:j=(c.sts.getD ((0:Nat)) st0).st.length:=by omega
   have et:(c.sts.getD ((0:Nat)) st0).st.take (c.sts.getD ((0:Nat)) st0).st.length=(c.sts.getD ((0:Nat)) st0).st:=afj
   rw[et] at hT
   refine ah (p:=0<(c.sts.getD ((0:Nat)) st0).wt) (au Iff.rfl) (fun h4=>?_) (fun h4=>?_)
   ·obtain ⟨w,hw⟩:∃w:Nat,(c.sts.getD ((0:Nat)) st0).wt=(w:Int):=⟨(c.sts.getD ((0:Nat)) st0).wt.toNat,by omega⟩
    have hd7:=aa9 (n:=w) (by omega)
    have e0:sH (c.sts.getD ((0:Nat)) st0).wt=[32]++dec w:=by unfold sH;rw[if_pos h4,hw];rfl
    refine ei _ (ai (afD) (ei (w) (ei [] (ai (a4 (ai (fun _=>Or.inl rfl) (ai nof (Or.inr rfl)))) (ai ?_ (ai (by exact trivial) (ai ((by show w≤1000000;omega)) ?_)))))))
    ·exact (iE (by simp only[zz,reduceCtorEq];omega))
    refine ai (p8 (l:=[32]) (m:=dec w) rfl rfl (by show 1+_≤_;omega)) ?_
    refine eB (sM) ((true,[],(bK c.sts ((0:Nat))++gJ ((0:Nat)))++iJ ((c.sts.getD ((0:Nat)) st0).st.take (c.sts.getD ((0:Nat)) st0).st.length),[32]++dec w)) [1,5] (a4 (ai rfl rfl)) (Or.inl rfl) ?_ (by exact (ai (ai rfl (ai (ai rfl rfl) rfl)) (ai rfl (ai rfl (ai rfl (fun _ _=>rfl)))))) (⟨by show ((bK c.sts ((0:Nat))++gJ ((0:Nat)))++iJ ((c.sts.getD ((0:Nat)) st0).st.take (c.sts.getD ((0:Nat)) st0).st.length)).length≤1000000;rw[et];simp only[aaA,aik,anl];omega,by show ([32]++dec w).length≤1000000;rw[aaA];show 1+_≤_;omega⟩) ?_
    ·exact (ai (ai rfl rfl) rfl)
    refine eB (acd) ((true,[],((bK c.sts ((0:Nat))++gJ ((0:Nat)))++iJ ((c.sts.getD ((0:Nat)) st0).st.take (c.sts.getD ((0:Nat)) st0).st.length))++([32]++dec w),10)) [1,6] (a4 (ai rfl rfl)) (Or.inl rfl) (by exact (ai (ai rfl rfl) (iE (by simp only[zz,reduceCtorEq];rfl)))) (by exact (ai (ai rfl (ai (ai rfl rfl) rfl)) (ai rfl (ai rfl (ai rfl (fun _ _=>rfl)))))) ((by show (((bK c.sts ((0:Nat))++gJ ((0:Nat)))++iJ ((c.sts.getD ((0:Nat)) st0).st.take (c.sts.getD ((0:Nat)) st0).st.length))++([32]++dec w)).length≤1000000;rw[et];simp only[aaA,aik,anl];omega)) ?_
    have eN:(((bK c.sts ((0:Nat))++gJ ((0:Nat)))++iJ ((c.sts.getD ((0:Nat)) st0).st.take (c.sts.getD ((0:Nat)) st0).st.length))++([32]++dec w))++[10]=bK c.sts ((0:Nat)+1):=by
     show _=bK c.sts ((0:Nat))++((((gJ ((0:Nat))++iJ (c.sts.getD ((0:Nat)) st0).st)++sH (c.sts.getD ((0:Nat)) st0).wt))++[10])
     rw[et,e0]
     simp only[arW]
    refine ei (((0:Nat))+1) (ai (ai rfl rfl) (ai (ai (ai rfl (ai (ai rfl rfl) (ai (ai rfl rfl) (ai (ai (ai (fun _=>rfl) (aO (by omega))) rfl) (ai (ai (ai (ai rfl rfl) rfl) (ai rfl (ai rfl (ai ?_ ?_)))) trivial))))) rfl) (ai (ai (iL (by omega)) trivial) (iM (by omega)))))
    ·exact congrArg List.length eN
    ·exact lU eN
   ·have e0:sH (c.sts.getD ((0:Nat)) st0).wt=[]:=by unfold sH;rw[if_neg h4]
    refine eB (acd) ((true,[],(bK c.sts ((0:Nat))++gJ ((0:Nat)))++iJ ((c.sts.getD ((0:Nat)) st0).st.take (c.sts.getD ((0:Nat)) st0).st.length),10)) [1,5] (a4 (ai rfl rfl)) (Or.inl rfl) (by exact (ai (ai rfl rfl) (iE (by simp only[zz,reduceCtorEq];rfl)))) (by exact (ai (ai rfl (ai (ai rfl rfl) rfl)) (ai rfl (ai rfl (ai rfl (fun _ _=>rfl)))))) ((by show ((bK c.sts ((0:Nat))++gJ ((0:Nat)))++iJ ((c.sts.getD ((0:Nat)) st0).st.take (c.sts.getD ((0:Nat)) st0).st.length)).length≤1000000;rw[et];simp only[aaA,aik,anl];omega)) ?_
    have eN:((bK c.sts ((0:Nat))++gJ ((0:Nat)))++iJ ((c.sts.getD ((0:Nat)) st0).st.take (c.sts.getD ((0:Nat)) st0).st.length))++[10]=bK c.sts ((0:Nat)+1):=by
     show _=bK c.sts ((0:Nat))++((((gJ ((0:Nat))++iJ (c.sts.getD ((0:Nat)) st0).st)++sH (c.sts.getD ((0:Nat)) st0).wt))++[10])
     rw[et,e0,apT]
     simp only[arW]
    refine ei (((0:Nat))+1) (ai (ai rfl rfl) (ai (ai (ai rfl (ai (ai rfl rfl) (ai (ai rfl rfl) (ai (ai (ai (fun _=>rfl) (aO (by omega))) rfl) (ai (ai (ai (ai rfl rfl) rfl) (ai rfl (ai rfl (ai ?_ ?_)))) trivial))))) rfl) (ai (ai (iL (by omega)) trivial) (iM (by omega)))))
    ·exact congrArg List.length eN
    ·exact lU eN
  ·exact absurd hs24.1 (by omega)
 | succ k=>
  refine ah (p:=k+1<c.sts.length) (au (by omega)) (fun h2=>?_) (fun h2=>?_)
  ·refine ai (ai (aaI _) (iN (n:=c.sts.length) (by omega))) (ai rfl ?_)
   have hd:=uZ (n:=k+1) (by omega)
   have hh:=ada (k:=k+1) (by omega)
   obtain ⟨g1,g2,g3,g4⟩:=agT hc h2
   refine ei _ (ai (wU) (ei (k+1) (ei [] (ai (a4 (ai (fun _=>Or.inl rfl) (ai nof (Or.inl rfl)))) (ai (by exact rfl) (ai trivial (ai ((by show k+1<100;omega)) ?_)))))))
   refine ai (p8 (l:=stepW) (m:=dec (k+1)) rfl rfl (by show 5+_≤_;omega)) (ai (p8 (l:=stepW++dec (k+1)) (m:=[58]) (eD _ _) rfl (by rw[aaA];show 5+_+1≤_;omega)) ?_)
   refine eB (sM) ((true,[],bK c.sts (k+1),gJ (k+1))) [1,2] (a4 (ai rfl rfl)) (Or.inl rfl) ?_ (by exact (ai (ai rfl (ai (ai rfl rfl) rfl)) (ai rfl (ai rfl (ai rfl (fun _ _=>rfl)))))) (⟨by show (bK c.sts (k+1)).length≤1000000;omega,by show (gJ (k+1)).length≤1000000;omega⟩) ?_
   ·exact (ai (ai rfl rfl) rfl)
   refine ei (bC.inv { X:=Nat,up:=fun j=>[(37,.s (iA j))],uo:=fun j=>[⟨1,143,[.s (.own 1 0),.rw 5 1 ((bK c.sts (k+1)++gJ (k+1))++iJ ((c.sts.getD (k+1) st0).st.take j)).length (ac3 ((bK c.sts (k+1)++gJ (k+1))++iJ ((c.sts.getD (k+1) st0).st.take j)))]⟩],inv:=fun j=>j≤(c.sts.getD (k+1) st0).st.length∧(True),meas:=fun j=>(c.sts.getD (k+1) st0).st.length-j,x0:=0 }) ?_
   refine ai (ai (ai (by exact (a4 (ai rfl rfl))) (ai ?_ ?_)) rfl) (ai (ai (abY _) ?_) ?_)
   ·exact (ai (ai (fun _=>rfl) (iE (by simp only[zz,reduceCtorEq];rfl))) rfl)
   ·refine (ai (ai (ai (ai rfl rfl) rfl) (ai rfl (ai rfl (ai ?_ ?_)))) trivial)
    ·show (bK c.sts (k+1)++gJ (k+1)).length=((bK c.sts (k+1)++gJ (k+1))++[]).length
     rw[apT]
    ·exact lU (by show _=_++[];rw[apT])
   ·trivial
   intro (j:Nat) ⟨hj,_⟩
   have hT:=adl ((c.sts.getD (k+1) st0).st.take j)
   rw[aiq] at hT
   refine ah (p:=j<(c.sts.getD (k+1) st0).st.length) (by simp only[zz,reduceCtorEq];omega) (fun h3=>?_) (fun h3=>?_)
   ·refine ai (ai (aaI _) (iN (n:=(c.sts.getD (k+1) st0).st.length) (by omega))) (ai rfl ?_)
    have hw:(nP ((c.sts.getD (k+1) st0).st.getD j bI)).length=2:=rfl
    refine ei _ (ai (af2) (ei ((c.sts.getD (k+1) st0).st.getD j bI) (ei [] (ai (a4 (ai (fun _=>Or.inl rfl) (ai nof (Or.inl rfl)))) (ai (by exact (ai (iE (by simp only[zz,reduceCtorEq])) rfl)) (ai trivial (ai (u6 g2 h3) ?_)))))))
    refine ai (p8 (l:=[32]) (m:=nP ((c.sts.getD (k+1) st0).st.getD j bI)) rfl rfl (by rw[hw];decide)) ?_
    refine eB (sM) ((true,[],(bK c.sts (k+1)++gJ (k+1))++iJ ((c.sts.getD (k+1) st0).st.take j),[32]++nP ((c.sts.getD (k+1) st0).st.getD j bI))) [1,5] (a4 (ai rfl rfl)) (Or.inl rfl) ?_ (by exact (ai (ai rfl (ai (ai rfl rfl) rfl)) (ai rfl (ai rfl (ai rfl (fun _ _=>rfl)))))) (⟨by show ((bK c.sts (k+1)++gJ (k+1))++iJ ((c.sts.getD (k+1) st0).st.take j)).length≤1000000;simp only[aaA,aik,anl];omega,by show ([32]++nP ((c.sts.getD (k+1) st0).st.getD j bI)).length≤1000000;rw[aaA,hw];decide⟩) ?_
    ·exact (ai (ai rfl rfl) rfl)
    have eN:((bK c.sts (k+1)++gJ (k+1))++iJ ((c.sts.getD (k+1) st0).st.take j))++([32]++nP ((c.sts.getD (k+1) st0).st.getD j bI))=(bK c.sts (k+1)++gJ (k+1))++iJ ((c.sts.getD (k+1) st0).st.take (j+1)):=by
     rw[aP bI h3]
     unfold iJ
     rw[List.flatMap_append]
     simp
    refine ei (j+1) (ai (ai rfl rfl) (ai (ai (ai rfl (ai (ai rfl rfl) (ai (ai rfl rfl) (ai (ai (ai (fun _=>rfl) (aO (by omega))) rfl) (ai (ai (ai (ai rfl rfl) rfl) (ai rfl (ai rfl (ai ?_ ?_)))) trivial))))) rfl) (ai (ai (iL (by omega)) trivial) (iM (by omega)))))
    ·exact congrArg List.length eN
    ·exact lU eN
   obtain rfl:j=(c.sts.getD (k+1) st0).st.length:=by omega
   have et:(c.sts.getD (k+1) st0).st.take (c.sts.getD (k+1) st0).st.length=(c.sts.getD (k+1) st0).st:=afj
   rw[et] at hT
   refine ah (p:=0<(c.sts.getD (k+1) st0).wt) (au Iff.rfl) (fun h4=>?_) (fun h4=>?_)
   ·obtain ⟨w,hw⟩:∃w:Nat,(c.sts.getD (k+1) st0).wt=(w:Int):=⟨(c.sts.getD (k+1) st0).wt.toNat,by omega⟩
    have hd7:=aa9 (n:=w) (by omega)
    have e0:sH (c.sts.getD (k+1) st0).wt=[32]++dec w:=by unfold sH;rw[if_pos h4,hw];rfl
    refine ei _ (ai (afD) (ei (w) (ei [] (ai (a4 (ai (fun _=>Or.inl rfl) (ai nof (Or.inr rfl)))) (ai ?_ (ai (by exact trivial) (ai ((by show w≤1000000;omega)) ?_)))))))
    ·exact (iE (by simp only[zz,reduceCtorEq];omega))
    refine ai (p8 (l:=[32]) (m:=dec w) rfl rfl (by show 1+_≤_;omega)) ?_
    refine eB (sM) ((true,[],(bK c.sts (k+1)++gJ (k+1))++iJ ((c.sts.getD (k+1) st0).st.take (c.sts.getD (k+1) st0).st.length),[32]++dec w)) [1,5] (a4 (ai rfl rfl)) (Or.inl rfl) ?_ (by exact (ai (ai rfl (ai (ai rfl rfl) rfl)) (ai rfl (ai rfl (ai rfl (fun _ _=>rfl)))))) (⟨by show ((bK c.sts (k+1)++gJ (k+1))++iJ ((c.sts.getD (k+1) st0).st.take (c.sts.getD (k+1) st0).st.length)).length≤1000000;rw[et];simp only[aaA,aik,anl];omega,by show ([32]++dec w).length≤1000000;rw[aaA];show 1+_≤_;omega⟩) ?_
    ·exact (ai (ai rfl rfl) rfl)
    refine eB (acd) ((true,[],((bK c.sts (k+1)++gJ (k+1))++iJ ((c.sts.getD (k+1) st0).st.take (c.sts.getD (k+1) st0).st.length))++([32]++dec w),10)) [1,6] (a4 (ai rfl rfl)) (Or.inl rfl) (by exact (ai (ai rfl rfl) (iE (by simp only[zz,reduceCtorEq];rfl)))) (by exact (ai (ai rfl (ai (ai rfl rfl) rfl)) (ai rfl (ai rfl (ai rfl (fun _ _=>rfl)))))) ((by show (((bK c.sts (k+1)++gJ (k+1))++iJ ((c.sts.getD (k+1) st0).st.take (c.sts.getD (k+1) st0).st.length))++([32]++dec w)).length≤1000000;rw[et];simp only[aaA,aik,anl];omega)) ?_
    have eN:(((bK c.sts (k+1)++gJ (k+1))++iJ ((c.sts.getD (k+1) st0).st.take (c.sts.getD (k+1) st0).st.length))++([32]++dec w))++[10]=bK c.sts (k+1+1):=by
     show _=bK c.sts (k+1)++((((gJ (k+1)++iJ (c.sts.getD (k+1) st0).st)++sH (c.sts.getD (k+1) st0).wt))++[10])
     rw[et,e0]
     simp only[arW]
    refine ei ((k+1)+1) (ai (ai rfl rfl) (ai (ai (ai rfl (ai (ai rfl rfl) (ai (ai rfl rfl) (ai (ai (ai (fun _=>rfl) (aO (by omega))) rfl) (ai (ai (ai (ai rfl rfl) rfl) (ai rfl (ai rfl (ai ?_ ?_)))) trivial))))) rfl) (ai (ai (iL (by omega)) trivial) (iM (by omega)))))
    ·exact congrArg List.length eN
    ·exact lU eN
   ·have e0:sH (c.sts.getD (k+1) st0).wt=[]:=by unfold sH;rw[if_neg h4]
    refine eB (acd) ((true,[],(bK c.sts (k+1)++gJ (k+1))++iJ ((c.sts.getD (k+1) st0).st.take (c.sts.getD (k+1) st0).st.length),10)) [1,5] (a4 (ai rfl rfl)) (Or.inl rfl) (by exact (ai (ai rfl rfl) (iE (by simp only[zz,reduceCtorEq];rfl)))) (by exact (ai (ai rfl (ai (ai rfl rfl) rfl)) (ai rfl (ai rfl (ai rfl (fun _ _=>rfl)))))) ((by show ((bK c.sts (k+1)++gJ (k+1))++iJ ((c.sts.getD (k+1) st0).st.take (c.sts.getD (k+1) st0).st.length)).length≤1000000;rw[et];simp only[aaA,aik,anl];omega)) ?_
    have eN:((bK c.sts (k+1)++gJ (k+1))++iJ ((c.sts.getD (k+1) st0).st.take (c.sts.getD (k+1) st0).st.length))++[10]=bK c.sts (k+1+1):=by
     show _=bK c.sts (k+1)++((((gJ (k+1)++iJ (c.sts.getD (k+1) st0).st)++sH (c.sts.getD (k+1) st0).wt))++[10])
     rw[et,e0,apT]
     simp only[arW]
    refine ei ((k+1)+1) (ai (ai rfl rfl) (ai (ai (ai rfl (ai (ai rfl rfl) (ai (ai rfl rfl) (ai (ai (ai (fun _=>rfl) (aO (by omega))) rfl) (ai (ai (ai (ai rfl rfl) rfl) (ai rfl (ai rfl (ai ?_ ?_)))) trivial))))) rfl) (ai (ai (iL (by omega)) trivial) (iM (by omega)))))
    ·exact congrArg List.length eN
    ·exact lU eN
  ·have hkn:k+1=c.sts.length:=by omega
   refine ei (bC.inv { X:=Nat,up:=fun i=>[(66,.s (iA i))],uo:=fun i=>[⟨1,143,[.s (.own 1 0),.rw 5 1 (bK c.sts (k+1)++nA (dP c) c.trs i).length (ac3 (bK c.sts (k+1)++nA (dP c) c.trs i))]⟩],inv:=fun i=>i≤c.trs.length∧(True),meas:=fun i=>c.trs.length-i,x0:=0 }) ?_
   refine ai (ai (ai (by exact (a4 (ai rfl rfl))) (ai ?_ ?_)) rfl) (ai (ai (abY _) ?_) ?_)
   ·exact (ai (ai (fun _=>rfl) (iE (by simp only[zz,reduceCtorEq];rfl))) rfl)
   ·refine (ai (ai (ai (ai rfl rfl) rfl) (ai rfl (ai rfl (ai ?_ ?_)))) trivial)
    ·show (bK c.sts (k+1)).length=(bK c.sts (k+1)++[]).length
     rw[apT]
    ·exact lU (by show _=_++[];rw[apT])
   ·trivial
   intro (i:Nat) ⟨hi,_⟩
   have hM:=af0 hc hi
   refine ah (p:=i<c.trs.length) (au (by omega)) (fun h5=>?_) (fun h5=>?_)
   ·refine ai (ai (aaI _) (iN (n:=c.trs.length) (by omega))) (ai rfl ?_)
    obtain ⟨⟨q1,q2⟩,q3,q4,q5⟩:=aie hc h5
    obtain ⟨⟨p1,p2⟩,p3,p4⟩:=air hc h5
    have x1:=wJ (kS hc h5).1.1 (by decide)
    have x2:=wJ (kS hc h5).2.1.1 (by decide)
    refine ei (.seq [0,1,2,3,4,5,6,7,8,9]) (ai (by kernel_rfl) ?_)
    refine ei _ (ai (apu) (ei (c) (ei [] (ai (a4 (ai (fun _=>Or.inl rfl) (ai nof (Or.inl rfl)))) (ai (by exact (ai rfl (ai (ai rfl (fun _ _=>rfl)) (ai (ai rfl (fun _ _=>rfl)) (ai rfl (fun _ _=>rfl)))))) (ai trivial (ai (amA hc) ?_)))))))
    refine ei _ (ai (aiZ) (ei (((c.trs.getD i aM).wh,dP c)) (ei [] (ai (a4 (ai (fun _=>Or.inl rfl) (ai nof (Or.inl rfl)))) (ai (by exact (ai (ai (iE (by simp only[zz,reduceCtorEq])) (ai (iE (by simp only[zz,reduceCtorEq])) (ai rfl (fun _ _=>rfl)))) (ai rfl (fun _ _=>rfl)))) (ai trivial (ai (amW hc h40 h5) ?_)))))))
    refine ei (.one 0 (.one 1 (.one 4 (.one 5 (.one 9 (.one 2 (.one 3 (.one 6 (.one 7 (.one 8 (.one 10 (.one 11 (.wr 12 .done))))))))))))) (ai (by kernel_rfl) ?_)
    refine ei _ (ai (abX) (ei ((c.trs.getD i aM).fr) (ei [] (ai (a4 (ai (fun _=>Or.inl rfl) (ai nof (Or.inl rfl)))) (ai (by exact (ai rfl (fun _ _=>rfl))) (ai trivial (ai (⟨x1,by show (c.trs.getD i aM).fr.length≤1000;omega⟩) ?_)))))))
    refine ai (p8 (l:=inT (c.trs.getD i aM).fr) (m:=[32,62,32]) rfl rfl (by show _+3≤_;omega)) ?_
    refine ei _ (ai (abX) (ei ((c.trs.getD i aM).to) (ei [] (ai (a4 (ai (fun _=>Or.inl rfl) (ai nof (Or.inl rfl)))) (ai (by exact (ai rfl (fun _ _=>rfl))) (ai trivial (ai (⟨x2,by show (c.trs.getD i aM).to.length≤1000;omega⟩) ?_)))))))
    have hX2:(strOf (inT (c.trs.getD i aM).fr)++strOf [32,62,32])++strOf (inT (c.trs.getD i aM).to)=strOf ((inT (c.trs.getD i aM).fr++[32,62,32])++inT (c.trs.getD i aM).to):=by rw[eD,eD]
    have hX3:((strOf (inT (c.trs.getD i aM).fr)++strOf [32,62,32])++strOf (inT (c.trs.getD i aM).to))++strOf [58,32]=strOf (((inT (c.trs.getD i aM).fr++[32,62,32])++inT (c.trs.getD i aM).to)++[58,32]):=by rw[hX2,eD]
    have hX4:(((strOf (inT (c.trs.getD i aM).fr)++strOf [32,62,32])++strOf (inT (c.trs.getD i aM).to))++strOf [58,32])++strOf (dY (dP c) (c.trs.getD i aM).wh)=strOf ((((inT (c.trs.getD i aM).fr++[32,62,32])++inT (c.trs.getD i aM).to)++[58,32])++dY (dP c) (c.trs.getD i aM).wh):=by rw[hX3,eD]
    have hX5:((((strOf (inT (c.trs.getD i aM).fr)++strOf [32,62,32])++strOf (inT (c.trs.getD i aM).to))++strOf [58,32])++strOf (dY (dP c) (c.trs.getD i aM).wh))++strOf [10]=strOf (lnT (dP c) (c.trs.getD i aM)):=by rw[hX4,eD];rfl
    refine ai (p8 (l:=inT (c.trs.getD i aM).fr++[32,62,32]) (m:=inT (c.trs.getD i aM).to) (eD _ _) rfl (by simp only[aaA,aik,anl];omega)) ?_
    refine ai (p8 (l:=(inT (c.trs.getD i aM).fr++[32,62,32])++inT (c.trs.getD i aM).to) (m:=[58,32]) hX2 rfl (by simp only[aaA,aik,anl];omega)) ?_
    refine ai (p8 (l:=((inT (c.trs.getD i aM).fr++[32,62,32])++inT (c.trs.getD i aM).to)++[58,32]) (m:=dY (dP c) (c.trs.getD i aM).wh) hX3 rfl (by simp only[aaA,aik,anl];omega)) ?_
    refine ai (p8 (l:=(((inT (c.trs.getD i aM).fr++[32,62,32])++inT (c.trs.getD i aM).to)++[58,32])++dY (dP c) (c.trs.getD i aM).wh) (m:=[10]) hX4 rfl (by simp only[aaA,aik,anl];omega)) ?_
    refine eB (sM) ((true,[],bK c.sts (k+1)++nA (dP c) c.trs i,lnT (dP c) (c.trs.getD i aM))) [1,3] (a4 (ai rfl rfl)) (Or.inl rfl) ?_ (by exact (ai (ai rfl (ai (ai rfl rfl) rfl)) (ai rfl (ai rfl (ai rfl (fun _ _=>rfl)))))) (⟨by show (bK c.sts (k+1)++nA (dP c) c.trs i).length≤1000000;rw[aaA];omega,by show (lnT (dP c) (c.trs.getD i aM)).length≤1000000;omega⟩) ?_
    ·exact (ai (ai rfl rfl) rfl)
    have eN:(bK c.sts (k+1)++nA (dP c) c.trs i)++lnT (dP c) (c.trs.getD i aM)=bK c.sts (k+1)++nA (dP c) c.trs (i+1):=by rw[nA,arW]
    refine ei (i+1) (ai (ai rfl rfl) (ai (ai (ai rfl (ai (ai rfl rfl) (ai (ai rfl rfl) (ai (ai (ai (fun _=>rfl) (aO (by omega))) rfl) (ai (ai (ai (ai rfl rfl) rfl) (ai rfl (ai rfl (ai ?_ ?_)))) trivial))))) rfl) (ai (ai (iL (by omega)) trivial) (iM (by omega)))))
    ·exact congrArg List.length eN
    ·exact lU eN
   ·obtain rfl:i=c.trs.length:=by omega
    have hne:bK c.sts (k+1)++nA (dP c) c.trs c.trs.length≠[]:=fun e=>by
     have:=congrArg List.length e
     rw[aaA,bK,aaA] at this
     have h7:0<(lnK k (c.sts.getD k st0)).length:=by unfold lnK;rw[aaA];exact Nat.succ_pos _
     have:(bK c.sts k).length+(lnK k (c.sts.getD k st0)).length+(nA (dP c) c.trs c.trs.length).length=0:=this
     omega
    refine alq (aiJ 143 2) rfl rfl rfl rfl (bK c.sts (k+1)++nA (dP c) c.trs c.trs.length) rfl hne (fun j _=>rfl) ?_
    have eT:ajf c=bK c.sts (k+1)++nA (dP c) c.trs c.trs.length:=by unfold ajf;rw[hkn]
    refine ai (ai (fun _=>(by exact (ai trivial trivial))) ?_) trivial
    show ak _ (uJ c)
    rw[uJ,if_pos hc,hc,eT]
    exact (ai rfl rfl)
def ank:List (Nat×(List Nat→SV))→Nat→List Nat→SV
 | [],_,_=>.any
 | (k,v) :: l,i,ns=>match k.beq i with
  | true=>v ns
  | false=>ank l i ns
def anp:List (Nat×List Nat)→Nat→List Nat
 | [],_=>[]
 | (k,v) :: l,i=>match k.beq i with
  | true=>v
  | false=>anp l i
def ang:List (Nat×(List Nat→Ob))→Nat→List Nat→Ob
 | [],_,_=>.cells 0 []
 | (k,v) :: l,i,ns=>match k.beq i with
  | true=>v ns
  | false=>ang l i ns
def hd0:List Nat→Nat
 | []=>0
 | n :: _=>n
def y5 (l:List Int):PV:=.seq l.length (bg 1 (l.map iP))
def afr (fr to:List Int) (x:Ex):List PV:=[y5 fr,y5 to,iP x.op,iP x.idx,.seq x.args.length (exF x.args)]
def fkE:List PV:=afr [0] [1,2] (oU true)++afr [1,2] [0] (oU true)
def fkF (a:Bool):Nat→List PV:=if a=true then kr (bg 5 fkE) 1 0 [y5 [1]] else bg 5 fkE
def jk (a:Bool):PV:=.agg [iP 1,.val (.slice none 0 0),.seq 3 (fun _=>[.val (.slice none 0 0),iP 0]),.seq 2 (fkF a)]
def fkX:SV:=.p true (exP (oU true))
def fkI (l:List Int):SV:=.p false (y5 l)
def fkT (fr to:List Int):SV:=.p false (.agg (afr fr to (oU true)))
def fkS:lY where
 l:=[0,1,2,3,4,5,6,7,8,9,10,11]
 own:=[9,11]
 u:=anp [(9,[9]),(10,[9]),(11,[11])]
 f:=ank [(0,fun _=>.p false (.seq 3 (fun _=>[.val (.slice none 0 0),iP 0]))),(1,fun _=>fkI [0]),(2,fun _=>fkI [1,2]),(3,fun _=>fkX),(4,fun _=>fkT [0] [1,2]),
  (5,fun _=>fkI [1,2]),(6,fun _=>fkI [0]),(7,fun _=>fkX),(8,fun _=>fkT [1,2] [0]),(9,fun ns=>.row (hd0 ns)),
  (10,fun ns=>.agg [.p true (iP 1),.p true (.val (.slice none 0 0)),.p false (.seq 3 (fun _=>[.val (.slice none 0 0),iP 0])),.row (hd0 ns)]),(11,fun ns=>.own (hd0 ns) 0)]
 ob:=ang [(9,fun _=>.row 81 5 2 (bg 5 (afr [0] [1,2] (oU true)++afr [1,2] [0] (oU true)))),
  (11,fun _=>.cells 26 [.p true (iP 0),.p true (.val (.slice none 0 0)),.p true (.val (.slice none 0 0)),.p true (.val (.slice none 0 0))])]
theorem aiO:aL Tryz.prog 58 (iR (fun a:Bool=>[.p false (bP a)]) (fun _=>True) jk):=by
 refine jG [4000006,4000007,4000008,4000011,4000012,4000020] ?_
 refine aX (Tb:=tab) mixed aB Tryz.func58 rfl rfl ?_
 rintro (a:Bool) hpre
 refine ai (ai rfl (ai rfl rfl)) ?_
 refine ei _ (ai (aly) (ei (true) (ei [] (ai (a4 (ai (fun _=>Or.inl rfl) (ai nof (Or.inl rfl)))) (ai (by exact rfl) (ai trivial (ai (trivial) ?_)))))))
 refine ei (.set fkS (.one 12 .done)) (ai (by kernel_rfl) (ai ?_ ?_))
 ·repeat' (first | exact trivial | refine ai ?_ ?_ | exact ano.mk rfl rfl rfl rfl | intro s | decide)
 refine ai trivial (ai (ai trivial (ai ?_ trivial)) (ai (ai trivial (ai ?_ trivial)) trivial))
 ·refine aZ (b:=a) rfl (fun h=>?_) (fun h=>?_)
  ·refine ai (ai (by decide) (by decide)) (ai (ai (by decide) (by decide)) ?_)
   refine ai (ai (fun h=>absurd (show false=true from h) (by decide)) ?_) trivial
   show ak _ (jk a)
   rw[show jk a=.agg [iP 1,.val (.slice none 0 0),.seq 3 (fun _=>[.val (.slice none 0 0),iP 0]),.seq 2 (kr (bg 5 fkE) 1 0 [y5 [1]])] by unfold jk fkF;rw[if_pos h]]
   exact (ai rfl (ai rfl (ai (ai rfl (fun _ _=>rfl)) (ai rfl (fun _ _=>rfl)))))
  ·refine ai (ai (fun h=>absurd (show false=true from h) (by decide)) ?_) trivial
   show ak _ (jk a)
   rw[show jk a=.agg [iP 1,.val (.slice none 0 0),.seq 3 (fun _=>[.val (.slice none 0 0),iP 0]),.seq 2 (bg 5 fkE)] by unfold jk fkF;rw[if_neg (by rw[h];decide)]]
   exact (ai rfl (ai rfl (ai (ai rfl (fun _ _=>rfl)) (ai rfl (fun _ _=>rfl)))))
 ·refine aZ (b:=a) rfl (fun h=>?_) (fun h=>?_)
  ·refine ai (ai (by decide) (by decide)) (ai (ai (by decide) (by decide)) ?_)
   refine ai (ai (fun h=>absurd (show false=true from h) (by decide)) ?_) trivial
   show ak _ (jk a)
   rw[show jk a=.agg [iP 1,.val (.slice none 0 0),.seq 3 (fun _=>[.val (.slice none 0 0),iP 0]),.seq 2 (kr (bg 5 fkE) 1 0 [y5 [1]])] by unfold jk fkF;rw[if_pos h]]
   exact (ai rfl (ai rfl (ai (ai rfl (fun _ _=>rfl)) (ai rfl (fun _ _=>rfl)))))
  ·refine ai (ai (fun h=>absurd (show false=true from h) (by decide)) ?_) trivial
   show ak _ (jk a)
   rw[show jk a=.agg [iP 1,.val (.slice none 0 0),.seq 3 (fun _=>[.val (.slice none 0 0),iP 0]),.seq 2 (bg 5 fkE)] by unfold jk fkF;rw[if_neg (by rw[h];decide)]]
   exact (ai rfl (ai rfl (ai (ai rfl (fun _ _=>rfl)) (ai rfl (fun _ _=>rfl)))))
def jK (a:Bool):aS:=⟨1,[],[⟨[],0⟩,⟨[],0⟩,⟨[],0⟩],[⟨[0],[1,2],oU true⟩,⟨if a then [1] else [1,2],[0],oU true⟩]⟩
theorem anI (a:Bool):gD (jk a) (uE (jK a)):=by
 refine vH (bG (.refl _) (bG (.nil _) (bG (gG fun k hk=>?_) (bG (gG fun k hk=>?_) mY))))
 ·match k,hk with
  | 0,_=>exact zf (.nil _) (.refl _)
  | 1,_=>exact zf (.nil _) (.refl _)
  | 2,_=>exact zf (.nil _) (.refl _)
 ·have one:∀x:Int,gD (y5 [x]) (lg [x]):=fun x=>gG fun k hk=>by match k,hk with | 0,_=>exact bJ.rfl' _
  have two:∀x y:Int,gD (y5 [x,y]) (lg [x,y]):=fun x y=>gG fun k hk=>by match k,hk with | 0,_=>exact bJ.rfl' _ | 1,_=>exact bJ.rfl' _
  match k,hk with
  | 0,_=>cases a<;>exact bG (one 0) (bG (two 1 2) (bJ.rfl' _))
  | 1,_=>
   cases a
   ·exact bG (two 1 2) (bG (one 0) (bJ.rfl' _))
   ·exact bG (one 1) (bG (one 0) (bJ.rfl' _))
theorem aiu:aL Tryz.prog 58 (iR (fun a:Bool=>[.p false (bP a)]) (fun _=>True) (fun a=>uE (jK a))):=adq aiO fun a _=>anI a
def three:mH:=⟨2,[⟨[(0,true)],0⟩,⟨[(1,true)],150⟩,⟨[(0,false),(1,false)],0⟩]⟩
def apc (n:Int) (b:Bool):PV:=.seq 1 (bg 2 [iP n,bP b])
def sV:PV:=.agg [iP 2,.seq 3 (bg 2 [apc 0 true,iP 0,apc 1 true,iP 150,.seq 2 (bg 2 [iP 0,bP false,iP 1,bP false]),iP 0])]
theorem akl:aL Tryz.prog 57 (iR (fun _:Unit=>[]) (fun _=>True) (fun _=>sV)):=by
 refine jG [4000002,4000005,4000009,4000011] ?_
 refine aX (Tb:=tab) mixed aB Tryz.func57 rfl rfl ?_
 rintro (u:Unit) hpre
 refine ai (ai rfl (ai rfl rfl)) ?_
 refine ai (ai (fun h=>absurd (show false=true from h) (by decide)) ?_) trivial
 show ak _ (sV)
 rw[show sV=sV from rfl]
 exact (ai rfl (ai rfl (fun _ _=>rfl)))
theorem am4:gD sV (.agg (sqK three)):=by
 refine vH (bG (.refl _) (bG (gG fun k hk=>?_) mY))
 match k,hk with
 | 0,_=>exact zf (gG fun k hk=>by match k,hk with | 0,_=>exact bJ.rfl' _) (.refl _)
 | 1,_=>exact zf (gG fun k hk=>by match k,hk with | 0,_=>exact bJ.rfl' _) (.refl _)
 | 2,_=>exact zf (gG fun k hk=>by match k,hk with | 0,_=>exact bJ.rfl' _ | 1,_=>exact bJ.rfl' _) (.refl _)
theorem amh:aL Tryz.prog 57 (iR (fun _:Unit=>[]) (fun _=>True) (fun _=>.agg (sqK three))):=adq akl fun _ _=>am4
def vrX (n:Int):Ex:=.node 1 n []
def c3:aS:=⟨2,[[115,116,97,114,116]],[⟨[],0⟩,⟨[(0,true)],0⟩,⟨[(1,true)],0⟩,⟨[],150⟩,⟨[(0,false),(1,false)],0⟩],
 [⟨[0],[1],vrX 4⟩,⟨[1],[2],vrX 1⟩,⟨[2],[3],vrX 3⟩,⟨[3],[4],vrX 8⟩,⟨[4],[0],.node 3 0 [vrX 0,vrX 2]⟩]⟩
def al8:List UInt8:=[115,116,101,112,32,48,58,10,115,116,101,112,32,49,58,32,65,43,10,115,116,101,112,32,50,58,32,66,43,10,115,116,101,112,32,51,58,32,49,53,48,10,115,116,101,112,32,52,58,32,65,45,32,66,45,10,48,32,62,32,49,58,32,115,116,97,114,116,10,49,32,62,32,50,58,32,97,49,10,50,32,62,32,51,58,32,98,49,10,51,32,62,32,52,58,32,121,51,10,52,32,62,32,48,58,32,97,48,32,38,32,98,48,10]
theorem aqu:ofC three=c3:=by kernel_rfl
theorem aqT:vF three=0:=by decide +kernel
theorem ao7:bD c3=0:=by decide +kernel
theorem aoQ:ajf c3=al8:=by decide +kernel
theorem apz:nu (mE c3)=[[false,false,false,false,true],[false,false,false,true,false],[false,false,true,false,false],[false,true,false,false,false],[true,false,false,false,false]]:=by decide +kernel
theorem aqo:nu (mE (jK false))=[[false,true,true],[true,false,false]]:=by decide +kernel
theorem ex3:ni c3=0:=by decide +kernel
theorem aq8:ni (jK false)=0:=by decide +kernel
theorem arj:ni (jK true)=0:=by decide +kernel
theorem aqp:pU (jK true)=([0,1,0],true):=by decide +kernel
theorem alE:je c3∧∀t∈c3.trs,t.wh.size≤120:=by
 refine ⟨⟨fun s hs=>?_,fun t ht=>?_⟩,fun t ht=>?_⟩
 ·have:∀s∈c3.sts,s.st.length≤2:=by decide
  have:=this s hs;omega
 ·have:∀t∈c3.trs,t.fr.length≤2∧t.to.length≤2∧t.wh.size≤10:=by decide +kernel
  have:=this t ht
  exact ⟨by omega,by omega,by omega⟩
 ·have:∀t∈c3.trs,t.wh.size≤10:=by decide +kernel
  have:=this t ht;omega
theorem arv:∀t∈c3.trs,abk t.wh:=by
 intro t ht
 simp only[c3,aia,List.mem_nil_iff,or_false] at ht
 rcases ht with rfl | rfl | rfl | rfl | rfl
 ·exact .inl rfl
 ·exact .inl rfl
 ·exact .inl rfl
 ·exact .inl rfl
 ·refine .inr ⟨rfl,fun y hy=>?_⟩
  simp only[aia,List.mem_nil_iff,or_false,Ex.args] at hy
  rcases hy with rfl | rfl<;>rfl
theorem okF (a:Bool):je (jK a)∧amC (jK a):=by
 have h1:∀a,∀s∈(jK a).sts,s.st.length≤2:=by decide
 have h2:∀a,∀t∈(jK a).trs,t.fr.length≤2∧t.to.length≤2∧t.wh.size≤10:=by decide +kernel
 refine ⟨⟨fun s hs=>?_,fun t ht=>?_⟩,?_⟩
 ·have:=h1 a s hs;omega
 ·have:=h2 a t ht;exact ⟨by omega,by omega,by omega⟩
 ·cases a<;>exact ⟨by decide,by decide⟩
def mF:List (List Bool):=[[false,true,true],[true,false,false]]
section
variable {z : Int} (hz : z = 0)
include hz
theorem aqw:aL Tryz.prog 18 (iR (fun _:Unit=>[sqA three]) (fun _=>True) (fun _=>.tup [uE c3,iP z])):=
 jE aeN three trivial (by show PV.tup [uE (ofC three),iP (vF three)]=_;rw[hz,aqu,aqT])
theorem apD:aL Tryz.prog 24 (fnG (fun _:Unit=>[jH c3]) (fun _=>True) (fun _=>.tup [sP al8,iP z])):=by
 have h:aL Tryz.prog 24 (fnG (fun _:Unit=>[jH c3]) (fun _=>True) (fun _=>uJ c3)):=⟨acF.1,fun _ _ E vs w hg hh hA=>acF.2 c3 ⟨alE.1,fun _ t ht=>⟨alE.2 t ht,arv t ht⟩⟩ E vs w hg hh hA⟩
 have e:uJ c3=.tup [sP al8,iP z]:=by unfold uJ;rw[if_pos ao7,ao7,aoQ,hz]
 rw[e] at h;exact h
theorem aoX:aL Tryz.prog 29 (iR (fun _:Unit=>[jH c3]) (fun _=>True) (fun _=>.tup [bbP [[false,false,false,false,true],[false,false,false,true,false],[false,false,true,false,false],[false,true,false,false,false],[true,false,false,false,false]],iP z])):=
 jE aaX c3 alE.1 (by show qj c3=_;unfold qj;rw[hz,apz,ex3])
theorem apH:aL Tryz.prog 29 (iR (fun _:Unit=>[jH (jK false)]) (fun _=>True) (fun _=>.tup [bbP mF,iP z])):=
 jE aaX (jK false) (okF false).1 (by show qj (jK false)=_;unfold qj;rw[hz,aqo,aq8];rfl)
theorem ap0:aL Tryz.prog 13 (iR (fun _:Unit=>[jH (jK true)]) (fun _=>True) (fun _=>.tup [bP false,lg [0,1,0],iP z])):=
 jE ahT (jK true) (okF true).1 (by show sZ (jK true)=_;unfold sZ;rw[if_pos arj,aqp,hz];rfl)
end
def rwM:PV:=.seq 2 (bg 1 [.seq 3 (bg 1 [bP false,bP true,bP true]),.seq 3 (bg 1 [bP true,bP false,bP false])])
theorem ap7:gD rwM (bbP mF):=gG fun k hk=>by
 match k,hk with
 | 0,_=>exact abj (gG fun k hk=>by match k,hk with | 0,_=>exact bJ.rfl' _ | 1,_=>exact bJ.rfl' _ | 2,_=>exact bJ.rfl' _)
 | 1,_=>exact abj (gG fun k hk=>by match k,hk with | 0,_=>exact bJ.rfl' _ | 1,_=>exact bJ.rfl' _ | 2,_=>exact bJ.rfl' _)
theorem smM:akw mF:=⟨by decide,fun m hm=>by
 have:∀m∈mF,m.length≤3:=by decide
 have:=this m hm
 omega⟩
theorem alF:aL Tryz.prog 33 (bQ (fun _:Unit=>[bbA mF,.p false rwM]) (fun _=>True) (fun _=>bP true)):=
 am1 (zw ai8 (mF,mF) smM (by show bP (decide (mF=mF))=_;rw[decide_eq_true rfl];rfl)) fun _ _=>⟨.inl rfl,.inr ⟨_,_,rfl,rfl,ap7⟩,trivial⟩
theorem apB:aL Tryz.prog 59 (bQ (fun _:Unit=>[isA [0,1,0],isA [0,1,0]]) (fun _=>True) (fun _=>bP true)):=
 zw aoT ([0,1,0],[0,1,0]) (by decide) rfl
def aqN:Spec:=fnG (fun _:Unit=>[]) (fun _=>True) (fun _=>bP true)
theorem acj:aL Tryz.prog 12 aqN:=by
 refine jG [4000061,4000062,4000063,4000072] ?_
 refine aX (Tb:=tab) mixed aB Tryz.func12 rfl rfl ?_
 rintro ⟨⟩ hpre
 refine ai (ai rfl (ai rfl rfl)) ?_
 obtain ⟨z,hz⟩:∃z:Int,z=0:=⟨0,rfl⟩
 refine ei _ (ai (amh) (ei (()) (ei [] (ai (a4 (ai (fun _=>Or.inl rfl) (ai nof (Or.inl rfl)))) (ai (by exact trivial) (ai trivial (ai (trivial) ?_)))))))
 refine ei _ (ai ((aqw hz)) (ei (()) (ei [] (ai (a4 (ai (fun _=>Or.inl rfl) (ai nof (Or.inl rfl)))) (ai (by exact (ai rfl (ai rfl (fun _ _=>rfl)))) (ai trivial (ai (trivial) ?_)))))))
 refine ei _ (ai ((apD hz)) (ei (()) (ei [] (ai (a4 (ai (fun _=>Or.inl rfl) (ai nof (Or.inr rfl)))) (ai (by exact (ai rfl (ai (ai rfl (fun _ _=>rfl)) (ai (ai rfl (fun _ _=>rfl)) (ai rfl (fun _ _=>rfl)))))) (ai trivial (ai (trivial) ?_)))))))
 refine ei _ (ai ((aoX hz)) (ei (()) (ei [] (ai (a4 (ai (fun _=>Or.inl rfl) (ai nof (Or.inl rfl)))) (ai (by exact (ai rfl (ai (ai rfl (fun _ _=>rfl)) (ai (ai rfl (fun _ _=>rfl)) (ai rfl (fun _ _=>rfl)))))) (ai trivial (ai (trivial) ?_)))))))
 refine ei _ (ai (aiu) (ei (false) (ei [] (ai (a4 (ai (fun _=>Or.inl rfl) (ai nof (Or.inl rfl)))) (ai (by exact rfl) (ai trivial (ai (trivial) ?_)))))))
 refine ei _ (ai (adk) (ei (jK false) (ei [] (ai (a4 (ai (fun _=>Or.inl rfl) (ai nof (Or.inl rfl)))) (ai (by exact (ai rfl (ai (ai rfl (fun _ _=>rfl)) (ai (ai rfl (fun _ _=>rfl)) (ai rfl (fun _ _=>rfl)))))) (ai trivial (ai ((okF false).2) ?_)))))))
 refine ei _ (ai ((apH hz)) (ei (()) (ei [] (ai (a4 (ai (fun _=>Or.inl rfl) (ai nof (Or.inl rfl)))) (ai (by exact (ai rfl (ai (ai rfl (fun _ _=>rfl)) (ai (ai rfl (fun _ _=>rfl)) (ai rfl (fun _ _=>rfl)))))) (ai trivial (ai (trivial) ?_)))))))
 refine ei _ (ai (aiu) (ei (true) (ei [] (ai (a4 (ai (fun _=>Or.inl rfl) (ai nof (Or.inl rfl)))) (ai (by exact rfl) (ai trivial (ai (trivial) ?_)))))))
 refine ei _ (ai (adk) (ei (jK true) (ei [] (ai (a4 (ai (fun _=>Or.inl rfl) (ai nof (Or.inl rfl)))) (ai (by exact (ai rfl (ai (ai rfl (fun _ _=>rfl)) (ai (ai rfl (fun _ _=>rfl)) (ai rfl (fun _ _=>rfl)))))) (ai trivial (ai ((okF true).2) ?_)))))))
 refine ei _ (ai ((ap0 hz)) (ei (()) (ei [] (ai (a4 (ai (fun _=>Or.inl rfl) (ai nof (Or.inl rfl)))) (ai (by exact (ai rfl (ai (ai rfl (fun _ _=>rfl)) (ai (ai rfl (fun _ _=>rfl)) (ai rfl (fun _ _=>rfl)))))) (ai trivial (ai (trivial) ?_)))))))
 refine aZ (b:=true) (by simp only[hz,Int.add_zero,apU];rfl) (fun _=>?_) (fun h=>absurd h (by decide))
 refine ei _ (ai (alF) (ei (()) (ei [] (ai (a4 (ai (fun _=>Or.inl rfl) (ai nof (Or.inl rfl)))) (ai ?_ (ai trivial (ai ?_ ?_)))))))
 ·exact (ai (ai rfl (fun _ _=>rfl)) (ai rfl (fun _ _=>rfl)))
 ·trivial
 refine ei _ (ai (apB) (ei (()) (ei [] (ai (a4 (ai (fun _=>Or.inl rfl) (ai nof (Or.inl rfl)))) (ai ?_ (ai trivial (ai ?_ ?_)))))))
 ·refine (ai (ai rfl (fun _ _=>rfl)) (ai rfl ?_))
  (intro k hk;have hk:k<3:=hk;match k,hk with | 0,_=>rfl | 1,_=>rfl | 2,_=>rfl)
 ·trivial
 refine ai (ai (fun _=>trivial) ?_) trivial
 exact rfl
theorem agm {c:aS} {n:Nat}:∀{l:List Mk} {w:List Int},tC n l→oL c l=some w→w.length≤n+1
 | [],_,_,h=>by simp[oL] at h
 | y :: l,w,hw,h=>by
  rw[oL] at h
  split at h
  ·cases h
   have:=hw y (by simp)
   rw[aaA,asC];omega
  ·exact agm (fun z hz=>hw z (by simp[hz])) h
theorem akB (c:aS):∃(b:Bool) (l:List Int) (n:Int),mX c=.tup [bP b,lg l,iP n]∧l.length≤1000000:=by
 unfold mX
 split
 ·rename_i h
  obtain ⟨_,_,hw⟩:=wW h
  split
  ·rename_i w e
   exact ⟨_,_,_,rfl,by have:=agm hw e;omega⟩
  ·exact ⟨_,[],_,rfl,abY _⟩
 ·exact ⟨_,[],_,rfl,abY _⟩
def aru:Spec:=fnG (fun c:aS=>[jH c]) (fun _=>True) (fun _=>bP true)
theorem aju:aL Tryz.prog 3 aru:=by
 refine aX (Tb:=tab) mixed aB Tryz.func3 rfl rfl ?_
 rintro (c:aS) hpre
 refine ai (ai rfl (ai rfl rfl)) ?_
 refine ei _ (ai (alD) (ei (c) (ei [] (ai (a4 (ai (fun _=>Or.inl rfl) (ai nof (Or.inl rfl)))) (ai (by exact (ai rfl (ai (ai rfl (fun _ _=>rfl)) (ai (ai rfl (fun _ _=>rfl)) (ai rfl (fun _ _=>rfl)))))) (ai trivial (ai (trivial) ?_)))))))
 refine aZ (b:=!jo c) rfl (fun h=>?_) (fun h=>?_)
 ·refine ei _ (ai (acj) (ei (()) (ei [] (ai (a4 (ai (fun _=>Or.inl rfl) (ai nof (Or.inr rfl)))) (ai (by exact trivial) (ai trivial (ai (trivial) ?_)))))))
  refine ai (ai (fun _=>trivial) ?_) trivial
  exact rfl
 have h:jo c=true:=by simpa using h
 obtain ⟨ho,hf,_⟩:=aoP h
 obtain ⟨b,l,n,hr,hl⟩:=akB c
 refine ei _ (ai (adk) (ei (c) (ei [] (ai (a4 (ai (fun _=>Or.inl rfl) (ai nof (Or.inl rfl)))) (ai (by exact (ai rfl (ai (ai rfl (fun _ _=>rfl)) (ai (ai rfl (fun _ _=>rfl)) (ai rfl (fun _ _=>rfl)))))) (ai trivial (ai (hf) ?_)))))))
 refine ei _ (ai ((jE ahT c ho ((amY c).trans hr))) (ei (()) (ei [] (ai (a4 (ai (fun _=>Or.inl rfl) (ai nof (Or.inl rfl)))) (ai (by exact (ai rfl (ai (ai rfl (fun _ _=>rfl)) (ai (ai rfl (fun _ _=>rfl)) (ai rfl (fun _ _=>rfl)))))) (ai trivial (ai (trivial) ?_)))))))
 refine ei _ (ai ((jE amZ c ho hr)) (ei (()) (ei [] (ai (a4 (ai (fun _=>Or.inl rfl) (ai nof (Or.inl rfl)))) (ai (by exact (ai rfl (ai (ai rfl (fun _ _=>rfl)) (ai (ai rfl (fun _ _=>rfl)) (ai rfl (fun _ _=>rfl)))))) (ai trivial (ai (trivial) ?_)))))))
 refine ei _ (ai (acj) (ei (()) (ei [] (ai (a4 (ai (fun _=>Or.inl rfl) (ai nof (Or.inr rfl)))) (ai (by exact trivial) (ai trivial (ai (trivial) ?_)))))))
 refine aZ (b:=true) (by exact beq_self_eq_true b) (fun _=>?_) (fun h=>absurd h (by decide))
 refine ei _ (ai (amu) (ei ((l,l)) (ei [] (ai (a4 (ai (fun _=>Or.inl rfl) (ai nof (Or.inl rfl)))) (ai (by exact (ai (ai rfl (fun _ _=>rfl)) (ai rfl (fun _ _=>rfl)))) (ai trivial (ai (hl) ?_)))))))
 refine aZ (b:=true) (by exact decide_eq_true rfl) (fun _=>?_) (fun h=>absurd h (by decide))
 refine ai (ai (fun _=>trivial) ?_) trivial
 show ak _ (bP true)
 rw[(beq_self_eq_true n).symm]
 exact rfl
end Go.Sx.Pe
namespace Go.Sx.Pe
open Go Go.Proofs Go.Sx.Pn Go.ChangeShapes Go.WideShapes Go.ChangeAt Go.RowKit Go.Deep Go.Lib
theorem aln {H:Type} {enc:TypeId×Value→H} {P:Program} {f:Func} {s:ChangeSpec} {S:List TypeId} (hS:Closed P S) {tb:TypeId} (hb:P.underlying tb=some .bool) (hres:f.resultTypes=#[tb])
  {W W':World} {args:Array Value} {ds:List (DataW H)} {before:List MemPlace} (hW:DataW.Whole enc P f.params.toList s.vars false W args.toList ds [] before) (hv:s.vars=[])
  (hA:DataW.TrodAll enc P W 0 (fun _=>true) true f.params.toList args.toList ds before) (hts:∀t∈f.params.toList,t∈S) (hfn:s.fn H (ds++[])={ results:=[.lit (.bool true)],args:=ds,vars:=[] }) (hg:Below W.heap.size W W') :
  s.post enc P f false true false false W args (.bool true) W':=by
 have hlt:=hW.lt
 have hold:∀p∈before,(fun b=>decide (b<W.heap.size)) p.block=true:=fun p hp=>by simpa using hlt p hp
 have hargs:∀sp:Nat→Bool,(∀p∈before,sp p.block=true)→DataW.TrodAll enc P W' 0 sp true f.params.toList args.toList ds before:=fun sp hsp=>yu hS hg.block hts hA hsp
 have hrt:(Value.bool true).resultList f.resultTypes.size=[.bool true]:=by rw[hres];rfl
 have hr:∀(b:Nat) (sp:Nat→Bool) (hd:Bool),DataW.TrodAll enc P W' b sp hd f.resultTypes.toList ((Value.bool true).resultList f.resultTypes.size) [.lit (.bool true)] []:=fun b sp hd=>by
  rw[hrt,hres];exact trodAll_cons_mk (shut_bool hb true) trodAll_mk0
 refine ⟨ds,[],before,[],before,[],hW,by rw[hfn];exact hr _ _ _,by rw[hfn];exact hargs _ hold,by rw[hfn,hv];rfl,World.keptBut_mono (fun p hp=>⟨hp,.inr (.inl hp)⟩) (hg.frame (·∈before)),fun h=>by cases h⟩
theorem aow:ownKnob Tryz.prog.godebug=none:=by kernel_rfl
theorem aor {d1 d2 d4 d5:DataW Unit} {n1 n2 n4 n5:String} {W:World} (h:laidMet Tryz.prog [(n1,d1),(n2,d2),("internal/strconv.uint64pow10",Go.Proofs.YteenedbiifampaaGreatDoor.Rows.laid_internal_strconv_uint64pow10),(n4,d4),(n5,d5)] W):∀p∈glP,fM W p.1=some p.2:=by
 have h3:TabIs Tryz.prog W "internal/strconv.uint64pow10" .u64 Lib.pow10Tab:=
  tabIs_of_head (rest:=[(n4,d4),(n5,d5)]) (show Tryz.prog.globalNamed "internal/strconv.uint64pow10"=some 0 by kernel_rfl) (show (Tryz.prog.globals[0]?).map (·.type)=some 275 by kernel_rfl) Tryz.underlying275 Tryz.underlying252 (by kernel_rfl) (by kernel_rfl) (laidMet.tail (laidMet.tail h))
 intro p hp
 rw[afq.1 hp]
 have h4:World.var? Tryz.prog W "internal/strconv.uint64pow10"=some p10:=h3
 unfold World.var? at h4
 rw[show Tryz.prog.globalNamed "internal/strconv.uint64pow10"=some 0 by kernel_rfl] at h4
 exact h4
def agC (vs:List Value):Obj→Obj
 | .cells _ t frozen=>.cells vs.toArray t frozen
 | o=>o
def u8s (l:List Nat):List Value:=l.map fun n:Nat=>Value.int .u8 (n:Int)
noncomputable def xS (os:Os):World:=
 { World.holding Tryz.prog os ⟨#[],#[],[]⟩ with heap:=((((((World.holding Tryz.prog os ⟨#[],#[],[]⟩).heap.modify 2 (agC (u8s Lib.deBruijn32tab))).modify 3 (agC (u8s Lib.deBruijn64tab))).modify 0 (agC p10.toList)).modify 5 (agC (u8s ([128,191,160,191,128,159,144,191,128,143]++List.replicate 22 0)))).modify 4 (agC (u8s Go.Pinned.utf8FirstZ))) }
theorem an3 {E:Env} {v:Value} {d d':PV} (h:aJ E v (.p false d)) (e:gD d d'):aJ E v (.p false d'):=by
 cases h with | p _ _ _ hp=>exact .p _ _ _ (qQ e hp)
theorem lK {P:Program} {t:TypeId} {fs:Array Field} {n:Nat} {l:List PV} {ts:List TypeId} (hu:P.underlying t=some (.struct fs)) (hts:fs.toList.map (·.type)=ts) (h:Shape P n t l) :
  ∃(n':Nat) (ls:List (List PV)),n=n'+1∧l=ls.flatten∧afs P n' ts ls:=by
 cases n with
 | zero=>exact h.elim
 | succ n=>
  unfold Shape at h;rw[hu] at h
  obtain ⟨ls,rfl,h1,h2⟩:=h
  refine ⟨n,ls,rfl,rfl,ad1 ts ls (by rw[h1,←hts];simp) fun i t x ht hx=>?_⟩
  subst hts
  simp only[ait,adR,arN] at ht
  obtain ⟨f,hf,rfl⟩:=ht
  exact h2 i f x hf hx
theorem ze {P:Program} {t e:TypeId} {n:Nat} {l:List PV} (hu:P.underlying t=some (.slice e)) (h:Shape P n t l):∃(n' m:Nat) (f:Nat→List PV),n=n'+1∧l=[.seq m f]∧∀j,j<m→Shape P n' e (f j):=by
 cases n with
 | zero=>exact h.elim
 | succ n=>unfold Shape at h;rw[hu] at h;obtain ⟨m,f,h1,h2,h3⟩:=h;exact ⟨n,m,f,rfl,h2,h3⟩
theorem aec {α:Type} (d:α) {g:α→List PV} {m:Nat} {f:Nat→List PV} (h:∀j,j<m→∃x,bJ (f j) (g x)):∃L:List α,L.length=m∧∀j,j<m→bJ (f j) (g (L.getD j d)):=by
 have h1:∀j,∃x:α,j<m→bJ (f j) (g x):=fun j=>by
  by_cases hj:j<m
  ·obtain ⟨x,hx⟩:=h j hj;exact ⟨x,fun _=>hx⟩
  ·exact ⟨d,fun h=>absurd h hj⟩
 obtain ⟨c,hc⟩:=Classical.axiomOfChoice h1
 refine ⟨(List.range m).map c,by simp,fun j hj=>?_⟩
 have:((List.range m).map c).getD j d=c j:=by simp[aaE,hj]
 rw[this];exact hc j hj
theorem oM {α:Type} (d:α) {g:α→List PV} {P:Program} {t e:TypeId} {n:Nat} {l:List PV} (hu:P.underlying t=some (.slice e)) (he:∀k x,k<n→Shape P k e x→∃y,bJ x (g y)) (h:Shape P n t l):∃L:List α,bJ l [.seq L.length (fun j=>g (L.getD j d))]:=by
 obtain ⟨n',m,f,rfl,rfl,hf⟩:=ze hu h
 obtain ⟨L,rfl,hL⟩:=aec d fun j hj=>he n' (f j) (Nat.lt_succ_self _) (hf j hj)
 exact ⟨L,abj (gG hL)⟩
theorem pR:∀{a b c d:List PV},bJ a b→bJ c d→bJ (a++c) (b++d)
 | [],[],_,_,_,h=>h
 | x :: a,y :: b,c,d,h,k=>bG (h.2 0 x y rfl rfl) (pR ⟨by simpa using h.1,fun j s s' hs hs'=>h.2 (j+1) s s' hs hs'⟩ k)
 | [],_ :: _,_,_,h,_=>by have:=h.1;simp at this
 | _ :: _,[],_,_,h,_=>by have:=h.1;simp at this
theorem aev {a b c a' b' c':List PV} (h1:bJ a a') (h2:bJ b b') (h3:bJ c c'):bJ [a,b,c].flatten (a'++(b'++c')):=by
 have:[a,b,c].flatten=a++(b++c):=by simp
 rw[this];exact pR h1 (pR h2 h3)
theorem aeF {a b a' b':List PV} (h1:bJ a a') (h2:bJ b b'):bJ [a,b].flatten (a'++b'):=by
 have:[a,b].flatten=a++b:=by simp
 rw[this];exact pR h1 h2
theorem ajZ {a b c d a' b' c' d':List PV} (h1:bJ a a') (h2:bJ b b') (h3:bJ c c') (h4:bJ d d'):bJ [a,b,c,d].flatten (a'++(b'++(c'++d'))):=by
 have:[a,b,c,d].flatten=a++(b++(c++d)):=by simp
 rw[this];exact pR h1 (pR h2 (pR h3 h4))
theorem uT {n:Nat} {l:List PV} (h:Shape Tryz.prog n 3 l):∃m:Int,bJ l [iP m]:=by
 obtain ⟨m,_,rfl⟩:=akb Tryz.underlying3 h
 exact ⟨m,bJ.rfl' _⟩
theorem aoB {n:Nat} {l:List PV} (h:Shape Tryz.prog n 4 l):∃b:Bool,bJ l [bP b]:=by
 obtain ⟨m,rfl⟩:=ai7 Tryz.underlying4 h
 exact ⟨m,bJ.rfl' _⟩
theorem apG {n:Nat} {l:List PV} (h:Shape Tryz.prog n 9 l):∃s:List UInt8,bJ l [sP s]:=by
 obtain ⟨s,_,rfl⟩:=afm Tryz.underlying9 h
 refine ⟨s.data.toList,bJ.of ?_⟩
 have:strOf s.data.toList=s:=by cases s;simp[strOf]
 show _=[PV.val (.string (strOf s.data.toList))]
 rw[this]
theorem aip {n:Nat} {l:List PV} (h:Shape Tryz.prog n 29 l):∃L:List Int,bJ l [lg L]:=oM 0 (g:=fun x=>[iP x]) Tryz.underlying29 (fun _ _ _ h=>uT h) h
theorem anM {n:Nat} {l:List PV} (h:Shape Tryz.prog n 22 l):∃L:List (List UInt8),bJ l [ssP L]:=oM [] (g:=fun x=>[sP x]) Tryz.underlying22 (fun _ _ _ h=>apG h) h
theorem aqR {n:Nat} {l:List PV} (h:Shape Tryz.prog n 94 l):∃x:Sk,bJ l (skK x):=by
 obtain ⟨n',ls,rfl,rfl,h2⟩:=lK (ts:=[3,4]) Tryz.underlying94 (by decide) h
 match ls,h2 with
 | [a,b],⟨ha,hb,_⟩=>
  obtain ⟨x,hx⟩:=uT ha
  obtain ⟨y,hy⟩:=aoB hb
  exact ⟨(x,y),aeF hx hy⟩
theorem ap3 {n:Nat} {l:List PV} (h:Shape Tryz.prog n 87 l):∃L:List Sk,bJ l [yc L]:=oM bI (g:=skK) Tryz.underlying87 (fun _ _ _ h=>aqR h) h
theorem apX {n:Nat} {l:List PV} (h:Shape Tryz.prog n 108 l):∃x:Stp,bJ l (stK x):=by
 obtain ⟨n',ls,rfl,rfl,h2⟩:=lK (ts:=[87,3]) Tryz.underlying108 (by decide) h
 match ls,h2 with
 | [a,b],⟨ha,hb,_⟩=>
  obtain ⟨x,hx⟩:=ap3 ha
  obtain ⟨y,hy⟩:=uT hb
  exact ⟨⟨x,y⟩,aeF hx hy⟩
theorem aob {n:Nat} {l:List PV} (h:Shape Tryz.prog n 23 l):∃L:List Stp,bJ l [ajR L]:=oM st0 (g:=stK) Tryz.underlying23 (fun _ _ _ h=>apX h) h
theorem aeH {d:PV} {n:Nat} {f g:Nat→List PV} (h:gD d (.seq n f)) (e:∀k,k<n→f k=g k):gD d (.seq n g):=by
 cases h with
 | refl=>exact gG fun k hk=>bJ.of (e k hk)
 | nil=>exact .nil _
 | seq _ f0 _ hl he=>exact .seq n f0 g (fun j hj=>by rw[←e j hj];exact hl j hj) fun j k s s' hj hs hs'=>he j k s s' hj hs (by rw[e j hj];exact hs')
theorem ama {L:List Ex} {j:Nat} {x:List PV} (h:bJ x (xC (L.getD j dQ))):bJ x (exF L j):=by
 match x,h with
 | [p,q,r],⟨hl,h⟩=>
  refine bG (h 0 _ _ rfl rfl) (bG (h 1 _ _ rfl rfl) (abj ?_))
  exact aeH (h 2 _ _ rfl rfl) fun k hk=>ai0 _ k hk
 | [],⟨hl,_⟩=>simp[xC] at hl
 | [_],⟨hl,_⟩=>simp[xC] at hl
 | [_,_],⟨hl,_⟩=>simp[xC] at hl
 | _ :: _ :: _ :: _ :: _,⟨hl,_⟩=>simp[xC] at hl
theorem aqU:∀(n:Nat) (l:List PV),Shape Tryz.prog n 79 l→∃x:Ex,bJ l (xC x):=by
 intro n
 induction n using Nat.strongRecOn with
 | _ n ih=>
  intro l h
  obtain ⟨n',ls,rfl,rfl,h2⟩:=lK (ts:=[3,3,77]) Tryz.underlying79 (by decide) h
  match ls,h2 with
  | [a,b,c],⟨ha,hb,hc,_⟩=>
   obtain ⟨x,hx⟩:=uT ha
   obtain ⟨y,hy⟩:=uT hb
   obtain ⟨n2,m,f,rfl,rfl,hf⟩:=ze Tryz.underlying77 hc
   obtain ⟨L,rfl,hL⟩:=aec dQ fun j hj=>ih n2 (by omega) (f j) (hf j hj)
   refine ⟨.node x y L,aev hx hy (abj (gG fun j hj=>?_))⟩
   exact ama (hL j hj)
theorem aoW {n:Nat} {l:List PV} (h:Shape Tryz.prog n 81 l):∃x:iU,bJ l (trK x):=by
 obtain ⟨n',ls,rfl,rfl,h2⟩:=lK (ts:=[29,29,79]) Tryz.underlying81 (by decide) h
 match ls,h2 with
 | [a,b,c],⟨ha,hb,hc,_⟩=>
  obtain ⟨x,hx⟩:=aip ha
  obtain ⟨y,hy⟩:=aip hb
  obtain ⟨z,hz⟩:=aqU _ _ hc
  exact ⟨⟨x,y,z⟩,aev hx hy hz⟩
theorem an4 {n:Nat} {l:List PV} (h:Shape Tryz.prog n 24 l):∃L:List iU,bJ l [al4 L]:=oM aM (g:=trK) Tryz.underlying24 (fun _ _ _ h=>aoW h) h
def acY:List TypeId:=[3,4,9,29,72,22,94,87,95,41,43,108,23,79,77,81,24,26]
theorem xw:Closed Tryz.prog acY:=by
 intro t ht
 simp only[acY,aia,List.mem_nil_iff,or_false] at ht
 rcases ht with rfl | rfl | rfl | rfl | rfl | rfl | rfl | rfl | rfl | rfl | rfl | rfl | rfl | rfl | rfl | rfl | rfl | rfl<;>kernel_rfl
section
variable {w : World} {r : Reach} {b : Nat} {v : Value} {n : Nat} {l : List PV}
theorem akD (hv:Value.okWide Tryz.prog w r b 26 v) (hs:Shape Tryz.prog n 26 l) (hr:Rel (fM w) v.cells.toList l):∃c:aS,aJ (E0 w) v (jH c):=by
 obtain ⟨cs,hc⟩:=aj5 Tryz.underlying26 hv
 have hS:=aqt hc hr
 obtain ⟨n',ls,rfl,rfl,h2⟩:=lK (ts:=[3,22,23,24]) Tryz.underlying26 (by decide) hs
 match ls,h2 with
 | [a,b,c,d],⟨ha,hb,hc,hd,_⟩=>
  obtain ⟨x,hx⟩:=uT ha
  obtain ⟨y,hy⟩:=anM hb
  obtain ⟨z,hz⟩:=aob hc
  obtain ⟨u,hu⟩:=an4 hd
  exact ⟨⟨x,y,z,u⟩,an3 hS (vH (ajZ hx hy hz hu))⟩
end
end Go.Sx.Pe
namespace Go.Proofs.YteenedbiifampaaGreatDoor.chartGuards
open Go.ChangeShapes Go.WideShapes Go.ChangeAt Go.RowKit Go.Joins Go.Deep Go.Sx Go.Sx.Pn Go.Sx.Pe
set_option maxRecDepth 100000 in
theorem contract (H:Type) (enc:TypeId×Value→H) (W:World) (base:Nat) (args:Array Value) (ds gs:List (DataW H)) (before:List MemPlace)
  (hval:∀(j:Nat) t v,Tryz.f3.params[j]?=some t→args[j]?=some v→Value.okWide Tryz.prog W .any base t v)
  (hW:DataW.Whole enc Tryz.prog Tryz.f3.params.toList Rows.chartGuardsSpec.vars false W args.toList ds gs before) (hL:laidMetH Tryz.prog Rows.chartGuardsRow.laid W) :
  Calls Tryz.prog 3 args W fun e W'=>∃v,e=.returned v∧Rows.chartGuardsSpec.post enc Tryz.prog Tryz.f3 false true false false W args v W':=by
 have hW':=hW
 obtain ⟨p,q,hA0,hV,rfl,hfz,hnd⟩:=hW
 obtain ⟨rfl,rfl⟩:=trodVars_none hV
 have hA:DataW.TrodAll enc Tryz.prog W 0 (fun _=>true) true Tryz.f3.params.toList args.toList ds p:=hA0
 have hA1:=hA
 rw[Tryz.params3] at hA hval
 clear hA0
 obtain ⟨v0,vs0,d0,ds0,p0,q0,hargs0,rfl,rfl,⟨fu0,h0⟩,r0⟩:=trodAll_cons hA
 obtain ⟨rfl,rfl,rfl⟩:=trodAll_nil r0
 obtain rfl:args=#[v0]:=by cases args;simp_all
 obtain ⟨l0,s0,e0⟩:=afM xw fu0 26 _ _ (by decide) h0
 obtain ⟨a0,S0⟩:=akD (hval 0 _ v0 rfl rfl) s0 e0
 simp only[apT] at hW' hA1
 refine (afI aju a0 trivial W (aor hL) _ (ajC (vs:=[v0]) (ai S0 trivial))).mono fun e W' ⟨he,hg⟩=>?_
 subst he
 exact ⟨_,rfl,aln xw Tryz.underlying4 (by kernel_rfl) hW' rfl hA1 (by rw[Tryz.params3];decide) rfl hg⟩
theorem laid_met (os:Os):laidMet Tryz.prog Rows.chartGuardsRow.laid ((xS os).forCall (fun _ _=>0) ⟨#[],#[.agg #[.int .i64 0,.slice none 0 0,.slice none 0 0,.slice none 0 0]],[]⟩).memory:=
 laidMet_of_run' 8 (by kernel_rfl) (by kernel_rfl)
theorem reads (os:Os) {H:Type} (enc:TypeId×Value→H):∃places,DataW.whole enc Tryz.prog ((xS os).forCall (fun _ _=>0) ⟨#[],#[.agg #[.int .i64 0,.slice none 0 0,.slice none 0 0,.slice none 0 0]],[]⟩).memory Tryz.f3.params.toList Rows.chartGuardsSpec.vars false (Array.toList (α:=Value) #[.agg #[.int .i64 0,.slice none 0 0,.slice none 0 0,.slice none 0 0]]) 8=some ([.agg [.lit (.int .i64 0),.nil,.nil,.nil]],[],places):=
 ⟨[],by kernel_rfl⟩
set_option maxRecDepth 100000 in
theorem lifted (os:Os) (started:os.Started) (H:Type) (enc:TypeId×Value→H) (F:Stop.Interp) :
  ReturnsInHanded {} Tryz.checked os 3 .any ((OpenSpec.ofChange Rows.chartGuardsSpec).preRow enc Tryz.prog Tryz.f3 Rows.chartGuardsRow.domain false Rows.chartGuardsRow.laid) (((OpenSpec.ofChange Rows.chartGuardsSpec).at F).post enc Tryz.prog Tryz.f3 false true false false):=by
 obtain ⟨places,hx⟩:=reads os enc
 refine returnsInHanded_of_row (C:=Tryz.checked) (s:=OpenSpec.ofChange Rows.chartGuardsSpec) aow started (by kernel_rfl) Tryz.func3
  (witness_row_at (enc:=enc) (C:=Tryz.checked) false (xS os) #[.agg #[.int .i64 0,.slice none 0 0,.slice none 0 0,.slice none 0 0]] rfl (by kernel_rfl) (by kernel_rfl) (by kernel_rfl)
   (OpenSpec.preRow_of_cond 8 hx (by kernel_rfl) (fun k hk=>by cases hk) (by kernel_rfl) (laid_met os))) ?_
 intro W base args ds gs before hval hW _ _ _ hL _ _
 exact contract H enc W base args ds gs before hval hW hL
theorem said:Rows.ChartGuardsSaid:=
 OpenClaim.holds_of_cond 3 Tryz.f3 rfl rfl rfl rfl rfl rfl rfl ⟨rfl,rfl,rfl,rfl,rfl⟩ rfl rfl rfl rfl rfl (by kernel_rfl) Tryz.func3 (by kernel_rfl)
  (of_decide_eq_true (by kernel_rfl)) (by unfold Func.isWrapper;first | (rw[if_pos (by decide +kernel)];kernel_rfl) | (rw[if_neg (by decide +kernel)];exact ⟨rfl,rfl⟩))
  (fun os started H enc _ F=>by rw[OpenClaim.pre_eq_preRow];exact lifted os started H enc F)
theorem plain (f:FuncId) (fn:Func) (hf:Tryz.pinned.checked.prog.funcNamed "pneumatic/pneumaticlaw35.ChartGuards"=some f) (hfn:Tryz.pinned.checked.prog.funcs[f]?=some fn) :
  false=Tryz.pinned.checked.prog.looks []∧∀(j:Nat) t,fn.params[j]?=some t→Tryz.pinned.checked.prog.wantsStandIn t=false:=by
 obtain rfl:f=3:=Option.some.inj ((show Tryz.prog.funcNamed "pneumatic/pneumaticlaw35.ChartGuards"=some 3 by kernel_rfl).symm.trans hf) |>.symm
 obtain rfl:fn=Tryz.f3:=(Option.some.inj (Tryz.func3.symm.trans hfn)).symm
 refine ⟨by kernel_rfl,fun j t ht=>?_⟩
 rw[Tryz.params3] at ht
 have hm:∀t∈#[26],Tryz.prog.wantsStandIn t=false:=by decide +kernel
 exact hm t (ar4 ht)
theorem card:Rows.ChartGuardsCardSaid:=
 Claim7.holds_tied_plain_at .later [] _ _ _ _ said (fun _ h=>by cases h) (by kernel_rfl) (fun _ h=>by cases h) chartGuards_row_tie rfl ⟨rfl,rfl⟩ (by kernel_rfl) rfl plain (by kernel_rfl)
end Go.Proofs.YteenedbiifampaaGreatDoor.chartGuards
