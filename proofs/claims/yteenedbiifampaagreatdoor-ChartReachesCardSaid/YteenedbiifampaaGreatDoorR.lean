/- The card of ChartReaches: for every input the law answers true, and its arguments read as they did. -/
import Derived.Test.YteenedbiifampaaGreatDoorR6
set_option maxHeartbeats 1000000
set_option maxRecDepth 4000
set_option linter.unusedSimpArgs false
set_option linter.unusedVariables false
set_option linter.unusedSectionVars false
namespace Go.Sx.Pe
open Go Go.Proofs Go.Sx.Pn
set_option maxHeartbeats 4000000 in
theorem acn:aK Tryz.prog 24 (fnG (fun c:aS=>[jy c]) aoz uF):=by
 refine jo [78,81,84] ?_
 refine aX (Tb:=tab) mixed aB Tryz.func24 rfl rfl ?_
 rintro (c:aS) hpre
 refine ai (ai rfl (ai rfl rfl)) ?_
 obtain ⟨ho,h40⟩:=hpre
 have ho:gD c:=ho
 refine ei _ (ai (akw) (ei (c) (ei [] (ai (a4 (ai (fun _=>Or.inl rfl) (ai nof (Or.inl rfl)))) (ai (by exact (ai rfl (ai (ai rfl (fun _ _=>rfl)) (ai (ai rfl (fun _ _=>rfl)) (ai rfl (fun _ _=>rfl)))))) (ai trivial (ai (ho) ?_)))))))
 refine bn (p:=bE c=0) (bM (by omega)) (fun h1=>?_) (fun h1=>?_)
 ·refine ai (ai (fun _=>(by exact (ai trivial trivial))) ?_) trivial
  show ak _ (uF c)
  rw[uF,if_neg h1]
  exact (ai rfl rfl)
 have hc:bE c=0:=h1
 have h40:∀t∈c.trs,t.wh.size≤120∧abr t.wh:=h40 hc
 obtain ⟨_,_,hs24,ht32,_⟩:=gI hc
 refine ei (bC.inv { X:=Nat,up:=fun k=>[(24,.s (iA k))],uo:=fun k=>[⟨1,143,[.s (ark k),.rw 5 1 (bK c.sts k).length (adK (bK c.sts k))]⟩],inv:=fun k=>k≤c.sts.length∧(True),meas:=fun k=>c.sts.length-k,x0:=0 }) ?_
 refine ai (ai (ai (by exact (a4 (ai rfl rfl))) (ai ?_ ?_)) rfl) (ai (ai (adO _) ?_) ?_)
 ·exact (ai (ai (fun _=>rfl) (iE (by simp only[zz,reduceCtorEq];rfl))) rfl)
 ·exact (ai (ai (ai (ai (fun _=>rfl) rfl) rfl) rfl) trivial)
 ·trivial
 intro (k:Nat) ⟨hk,_⟩
 have hL:=agM hc hk
 cases k with
 | zero=>
  refine ah (p:=(0:Nat)<c.sts.length) (au (by omega)) (fun h2=>?_) (fun h2=>?_)
  ·refine ai (ai (aaN _) (iN (n:=c.sts.length) (by omega))) (ai rfl ?_)
   have hd:=vK (n:=(0:Nat)) (by omega)
   have hh:=adi (k:=(0:Nat)) (by omega)
   obtain ⟨g1,g2,g3,g4⟩:=afw hc h2
   refine ei _ (ai (wZ) (ei ((0:Nat)) (ei [] (ai (a4 (ai (fun _=>Or.inl rfl) (ai nof (Or.inl rfl)))) (ai (by exact rfl) (ai trivial (ai ((by show (0:Nat)<100;omega)) ?_)))))))
   refine ai (pR (l:=stepW) (m:=dec ((0:Nat))) rfl rfl (by show 5+_≤_;omega)) (ai (pR (l:=stepW++dec ((0:Nat))) (m:=[58]) (eP _ _) rfl (by rw[aaH];show 5+_+1≤_;omega)) ?_)
   refine eF (sH) ((false,[],bK c.sts ((0:Nat)),gK ((0:Nat)))) [1,2] (a4 (ai rfl rfl)) (Or.inl rfl) ?_ (by exact (ai (ai rfl (ai rfl rfl)) (ai rfl (ai rfl (ai rfl (fun _ _=>rfl)))))) (⟨by show (bK c.sts ((0:Nat))).length≤1000000;omega,by show (gK ((0:Nat))).length≤1000000;omega⟩) ?_
   ·exact (ai (ai rfl rfl) rfl)
   refine ei (bC.inv { X:=Nat,up:=fun j=>[(37,.s (iA j))],uo:=fun j=>[⟨1,143,[.s (.own 1 0),.rw 5 1 ((bK c.sts ((0:Nat))++gK ((0:Nat)))++iU ((c.sts.getD ((0:Nat)) st0).st.take j)).length (adK ((bK c.sts ((0:Nat))++gK ((0:Nat)))++iU ((c.sts.getD ((0:Nat)) st0).st.take j)))]⟩],inv:=fun j=>j≤(c.sts.getD ((0:Nat)) st0).st.length∧(True),meas:=fun j=>(c.sts.getD ((0:Nat)) st0).st.length-j,x0:=0 }) ?_
   refine ai (ai (ai (by exact (a4 (ai rfl rfl))) (ai ?_ ?_)) rfl) (ai (ai (adO _) ?_) ?_)
   ·exact (ai (ai (fun _=>rfl) (iE (by simp only[zz,reduceCtorEq];rfl))) rfl)
   ·refine (ai (ai (ai (ai rfl rfl) rfl) (ai rfl (ai rfl (ai ?_ ?_)))) trivial)
    ·show (bK c.sts ((0:Nat))++gK ((0:Nat))).length=((bK c.sts ((0:Nat))++gK ((0:Nat)))++[]).length
     rw[aqg]
    ·exact l6 (by show _=_++[];rw[aqg])
   ·trivial
   intro (j:Nat) ⟨hj,_⟩
   have hT:=adl ((c.sts.getD ((0:Nat)) st0).st.take j)
   rw[ah0] at hT
   refine ah (p:=j<(c.sts.getD ((0:Nat)) st0).st.length) (by simp only[zz,reduceCtorEq];omega) (fun h3=>?_) (fun h3=>?_)
   ·refine ai (ai (aaN _) (iN (n:=(c.sts.getD ((0:Nat)) st0).st.length) (by omega))) (ai rfl ?_)
    have hw:(nE ((c.sts.getD ((0:Nat)) st0).st.getD j bI)).length=2:=rfl
    refine ei _ (ai (afL) (ei ((c.sts.getD ((0:Nat)) st0).st.getD j bI) (ei [] (ai (a4 (ai (fun _=>Or.inl rfl) (ai nof (Or.inl rfl)))) (ai (by exact (ai (iE (by simp only[zz,reduceCtorEq])) rfl)) (ai trivial (ai (vB g2 h3) ?_)))))))
    refine ai (pR (l:=[32]) (m:=nE ((c.sts.getD ((0:Nat)) st0).st.getD j bI)) rfl rfl (by rw[hw];decide)) ?_
    refine eF (sH) ((true,[],(bK c.sts ((0:Nat))++gK ((0:Nat)))++iU ((c.sts.getD ((0:Nat)) st0).st.take j),[32]++nE ((c.sts.getD ((0:Nat)) st0).st.getD j bI))) [1,5] (a4 (ai rfl rfl)) (Or.inl rfl) ?_ (by exact (ai (ai rfl (ai (ai rfl rfl) rfl)) (ai rfl (ai rfl (ai rfl (fun _ _=>rfl)))))) (⟨by show ((bK c.sts ((0:Nat))++gK ((0:Nat)))++iU ((c.sts.getD ((0:Nat)) st0).st.take j)).length≤1000000;simp only[aaH,aiD,anj];omega,by show ([32]++nE ((c.sts.getD ((0:Nat)) st0).st.getD j bI)).length≤1000000;rw[aaH,hw];decide⟩) ?_
    ·exact (ai (ai rfl rfl) rfl)
    have eN:((bK c.sts ((0:Nat))++gK ((0:Nat)))++iU ((c.sts.getD ((0:Nat)) st0).st.take j))++([32]++nE ((c.sts.getD ((0:Nat)) st0).st.getD j bI))=(bK c.sts ((0:Nat))++gK ((0:Nat)))++iU ((c.sts.getD ((0:Nat)) st0).st.take (j+1)):=by
     rw[aP bI h3]
     unfold iU
     rw[List.flatMap_append]
     simp
    refine ei (j+1) (ai (ai rfl rfl) (ai (ai (ai rfl (ai (ai rfl rfl) (ai (ai rfl rfl) (ai (ai (ai (fun _=>rfl) (aO (by omega))) rfl) (ai (ai (ai (ai rfl rfl) rfl) (ai rfl (ai rfl (ai ?_ ?_)))) trivial))))) rfl) (ai (ai (iL (by omega)) trivial) (iM (by omega)))))
    ·exact congrArg List.length eN
    ·exact l6 eN
   obtain rfl:j=(c.sts.getD ((0:Nat)) st0).st.length:=by omega
   have et:(c.sts.getD ((0:Nat)) st0).st.take (c.sts.getD ((0:Nat)) st0).st.length=(c.sts.getD ((0:Nat)) st0).st:=agn
   rw[et] at hT
   refine ah (p:=0<(c.sts.getD ((0:Nat)) st0).wt) (au Iff.rfl) (fun h4=>?_) (fun h4=>?_)
   ·obtain ⟨w,hw⟩:∃w:Nat,(c.sts.getD ((0:Nat)) st0).wt=(w:Int):=⟨(c.sts.getD ((0:Nat)) st0).wt.toNat,by omega⟩
    have hd7:=abH (n:=w) (by omega)
    have e0:sQ (c.sts.getD ((0:Nat)) st0).wt=[32]++dec w:=by unfold sQ;rw[if_pos h4,hw];rfl
    refine ei _ (ai (afc) (ei (w) (ei [] (ai (a4 (ai (fun _=>Or.inl rfl) (ai nof (Or.inr rfl)))) (ai ?_ (ai (by exact trivial) (ai ((by show w≤1000000;omega)) ?_)))))))
    ·exact (iE (by simp only[zz,reduceCtorEq];omega))
    refine ai (pR (l:=[32]) (m:=dec w) rfl rfl (by show 1+_≤_;omega)) ?_
    refine eF (sH) ((true,[],(bK c.sts ((0:Nat))++gK ((0:Nat)))++iU ((c.sts.getD ((0:Nat)) st0).st.take (c.sts.getD ((0:Nat)) st0).st.length),[32]++dec w)) [1,5] (a4 (ai rfl rfl)) (Or.inl rfl) ?_ (by exact (ai (ai rfl (ai (ai rfl rfl) rfl)) (ai rfl (ai rfl (ai rfl (fun _ _=>rfl)))))) (⟨by show ((bK c.sts ((0:Nat))++gK ((0:Nat)))++iU ((c.sts.getD ((0:Nat)) st0).st.take (c.sts.getD ((0:Nat)) st0).st.length)).length≤1000000;rw[et];simp only[aaH,aiD,anj];omega,by show ([32]++dec w).length≤1000000;rw[aaH];show 1+_≤_;omega⟩) ?_
    ·exact (ai (ai rfl rfl) rfl)
    refine eF (ac4) ((true,[],((bK c.sts ((0:Nat))++gK ((0:Nat)))++iU ((c.sts.getD ((0:Nat)) st0).st.take (c.sts.getD ((0:Nat)) st0).st.length))++([32]++dec w),10)) [1,6] (a4 (ai rfl rfl)) (Or.inl rfl) (by exact (ai (ai rfl rfl) (iE (by simp only[zz,reduceCtorEq];rfl)))) (by exact (ai (ai rfl (ai (ai rfl rfl) rfl)) (ai rfl (ai rfl (ai rfl (fun _ _=>rfl)))))) ((by show (((bK c.sts ((0:Nat))++gK ((0:Nat)))++iU ((c.sts.getD ((0:Nat)) st0).st.take (c.sts.getD ((0:Nat)) st0).st.length))++([32]++dec w)).length≤1000000;rw[et];simp only[aaH,aiD,anj];omega)) ?_
    have eN:(((bK c.sts ((0:Nat))++gK ((0:Nat)))++iU ((c.sts.getD ((0:Nat)) st0).st.take (c.sts.getD ((0:Nat)) st0).st.length))++([32]++dec w))++[10]=bK c.sts ((0:Nat)+1):=by
     show _=bK c.sts ((0:Nat))++((((gK ((0:Nat))++iU (c.sts.getD ((0:Nat)) st0).st)++sQ (c.sts.getD ((0:Nat)) st0).wt))++[10])
     rw[et,e0]
     simp only[arU]
    refine ei (((0:Nat))+1) (ai (ai rfl rfl) (ai (ai (ai rfl (ai (ai rfl rfl) (ai (ai rfl rfl) (ai (ai (ai (fun _=>rfl) (aO (by omega))) rfl) (ai (ai (ai (ai rfl rfl) rfl) (ai rfl (ai rfl (ai ?_ ?_)))) trivial))))) rfl) (ai (ai (iL (by omega)) trivial) (iM (by omega)))))
    ·exact congrArg List.length eN
    ·exact l6 eN
   ·have e0:sQ (c.sts.getD ((0:Nat)) st0).wt=[]:=by unfold sQ;rw[if_neg h4]
    refine eF (ac4) ((true,[],(bK c.sts ((0:Nat))++gK ((0:Nat)))++iU ((c.sts.getD ((0:Nat)) st0).st.take (c.sts.getD ((0:Nat)) st0).st.length),10)) [1,5] (a4 (ai rfl rfl)) (Or.inl rfl) (by exact (ai (ai rfl rfl) (iE (by simp only[zz,reduceCtorEq];rfl)))) (by exact (ai (ai rfl (ai (ai rfl rfl) rfl)) (ai rfl (ai rfl (ai rfl (fun _ _=>rfl)))))) ((by show ((bK c.sts ((0:Nat))++gK ((0:Nat)))++iU ((c.sts.getD ((0:Nat)) st0).st.take (c.sts.getD ((0:Nat)) st0).st.length)).length≤1000000;rw[et];simp only[aaH,aiD,anj];omega)) ?_
    have eN:((bK c.sts ((0:Nat))++gK ((0:Nat)))++iU ((c.sts.getD ((0:Nat)) st0).st.take (c.sts.getD ((0:Nat)) st0).st.length))++[10]=bK c.sts ((0:Nat)+1):=by
     show _=bK c.sts ((0:Nat))++((((gK ((0:Nat))++iU (c.sts.getD ((0:Nat)) st0).st)++sQ (c.sts.getD ((0:Nat)) st0).wt))++[10])
     rw[et,e0,aqg]
     simp only[arU]
    refine ei (((0:Nat))+1) (ai (ai rfl rfl) (ai (ai (ai rfl (ai (ai rfl rfl) (ai (ai rfl rfl) (ai (ai (ai (fun _=>rfl) (aO (by omega))) rfl) (ai (ai (ai (ai rfl rfl) rfl) (ai rfl (ai rfl (ai ?_ ?_)))) trivial))))) rfl) (ai (ai (iL (by omega)) trivial) (iM (by omega)))))
    ·exact congrArg List.length eN
    ·exact l6 eN
  ·exact absurd hs24.1 (by omega)
 | succ k=>
  refine ah (p:=k+1<c.sts.length) (au (by omega)) (fun h2=>?_) (fun h2=>?_)
  ·refine ai (ai (aaN _) (iN (n:=c.sts.length) (by omega))) (ai rfl ?_)
   have hd:=vK (n:=k+1) (by omega)
   have hh:=adi (k:=k+1) (by omega)
   obtain ⟨g1,g2,g3,g4⟩:=afw hc h2
   refine ei _ (ai (wZ) (ei (k+1) (ei [] (ai (a4 (ai (fun _=>Or.inl rfl) (ai nof (Or.inl rfl)))) (ai (by exact rfl) (ai trivial (ai ((by show k+1<100;omega)) ?_)))))))
   refine ai (pR (l:=stepW) (m:=dec (k+1)) rfl rfl (by show 5+_≤_;omega)) (ai (pR (l:=stepW++dec (k+1)) (m:=[58]) (eP _ _) rfl (by rw[aaH];show 5+_+1≤_;omega)) ?_)
   refine eF (sH) ((true,[],bK c.sts (k+1),gK (k+1))) [1,2] (a4 (ai rfl rfl)) (Or.inl rfl) ?_ (by exact (ai (ai rfl (ai (ai rfl rfl) rfl)) (ai rfl (ai rfl (ai rfl (fun _ _=>rfl)))))) (⟨by show (bK c.sts (k+1)).length≤1000000;omega,by show (gK (k+1)).length≤1000000;omega⟩) ?_
   ·exact (ai (ai rfl rfl) rfl)
   refine ei (bC.inv { X:=Nat,up:=fun j=>[(37,.s (iA j))],uo:=fun j=>[⟨1,143,[.s (.own 1 0),.rw 5 1 ((bK c.sts (k+1)++gK (k+1))++iU ((c.sts.getD (k+1) st0).st.take j)).length (adK ((bK c.sts (k+1)++gK (k+1))++iU ((c.sts.getD (k+1) st0).st.take j)))]⟩],inv:=fun j=>j≤(c.sts.getD (k+1) st0).st.length∧(True),meas:=fun j=>(c.sts.getD (k+1) st0).st.length-j,x0:=0 }) ?_
   refine ai (ai (ai (by exact (a4 (ai rfl rfl))) (ai ?_ ?_)) rfl) (ai (ai (adO _) ?_) ?_)
   ·exact (ai (ai (fun _=>rfl) (iE (by simp only[zz,reduceCtorEq];rfl))) rfl)
   ·refine (ai (ai (ai (ai rfl rfl) rfl) (ai rfl (ai rfl (ai ?_ ?_)))) trivial)
    ·show (bK c.sts (k+1)++gK (k+1)).length=((bK c.sts (k+1)++gK (k+1))++[]).length
     rw[aqg]
    ·exact l6 (by show _=_++[];rw[aqg])
   ·trivial
   intro (j:Nat) ⟨hj,_⟩
   have hT:=adl ((c.sts.getD (k+1) st0).st.take j)
   rw[ah0] at hT
   refine ah (p:=j<(c.sts.getD (k+1) st0).st.length) (by simp only[zz,reduceCtorEq];omega) (fun h3=>?_) (fun h3=>?_)
   ·refine ai (ai (aaN _) (iN (n:=(c.sts.getD (k+1) st0).st.length) (by omega))) (ai rfl ?_)
    have hw:(nE ((c.sts.getD (k+1) st0).st.getD j bI)).length=2:=rfl
    refine ei _ (ai (afL) (ei ((c.sts.getD (k+1) st0).st.getD j bI) (ei [] (ai (a4 (ai (fun _=>Or.inl rfl) (ai nof (Or.inl rfl)))) (ai (by exact (ai (iE (by simp only[zz,reduceCtorEq])) rfl)) (ai trivial (ai (vB g2 h3) ?_)))))))
    refine ai (pR (l:=[32]) (m:=nE ((c.sts.getD (k+1) st0).st.getD j bI)) rfl rfl (by rw[hw];decide)) ?_
    refine eF (sH) ((true,[],(bK c.sts (k+1)++gK (k+1))++iU ((c.sts.getD (k+1) st0).st.take j),[32]++nE ((c.sts.getD (k+1) st0).st.getD j bI))) [1,5] (a4 (ai rfl rfl)) (Or.inl rfl) ?_ (by exact (ai (ai rfl (ai (ai rfl rfl) rfl)) (ai rfl (ai rfl (ai rfl (fun _ _=>rfl)))))) (⟨by show ((bK c.sts (k+1)++gK (k+1))++iU ((c.sts.getD (k+1) st0).st.take j)).length≤1000000;simp only[aaH,aiD,anj];omega,by show ([32]++nE ((c.sts.getD (k+1) st0).st.getD j bI)).length≤1000000;rw[aaH,hw];decide⟩) ?_
    ·exact (ai (ai rfl rfl) rfl)
    have eN:((bK c.sts (k+1)++gK (k+1))++iU ((c.sts.getD (k+1) st0).st.take j))++([32]++nE ((c.sts.getD (k+1) st0).st.getD j bI))=(bK c.sts (k+1)++gK (k+1))++iU ((c.sts.getD (k+1) st0).st.take (j+1)):=by
     rw[aP bI h3]
     unfold iU
     rw[List.flatMap_append]
     simp
    refine ei (j+1) (ai (ai rfl rfl) (ai (ai (ai rfl (ai (ai rfl rfl) (ai (ai rfl rfl) (ai (ai (ai (fun _=>rfl) (aO (by omega))) rfl) (ai (ai (ai (ai rfl rfl) rfl) (ai rfl (ai rfl (ai ?_ ?_)))) trivial))))) rfl) (ai (ai (iL (by omega)) trivial) (iM (by omega)))))
    ·exact congrArg List.length eN
    ·exact l6 eN
   obtain rfl:j=(c.sts.getD (k+1) st0).st.length:=by omega
   have et:(c.sts.getD (k+1) st0).st.take (c.sts.getD (k+1) st0).st.length=(c.sts.getD (k+1) st0).st:=agn
   rw[et] at hT
   refine ah (p:=0<(c.sts.getD (k+1) st0).wt) (au Iff.rfl) (fun h4=>?_) (fun h4=>?_)
   ·obtain ⟨w,hw⟩:∃w:Nat,(c.sts.getD (k+1) st0).wt=(w:Int):=⟨(c.sts.getD (k+1) st0).wt.toNat,by omega⟩
    have hd7:=abH (n:=w) (by omega)
    have e0:sQ (c.sts.getD (k+1) st0).wt=[32]++dec w:=by unfold sQ;rw[if_pos h4,hw];rfl
    refine ei _ (ai (afc) (ei (w) (ei [] (ai (a4 (ai (fun _=>Or.inl rfl) (ai nof (Or.inr rfl)))) (ai ?_ (ai (by exact trivial) (ai ((by show w≤1000000;omega)) ?_)))))))
    ·exact (iE (by simp only[zz,reduceCtorEq];omega))
    refine ai (pR (l:=[32]) (m:=dec w) rfl rfl (by show 1+_≤_;omega)) ?_
    refine eF (sH) ((true,[],(bK c.sts (k+1)++gK (k+1))++iU ((c.sts.getD (k+1) st0).st.take (c.sts.getD (k+1) st0).st.length),[32]++dec w)) [1,5] (a4 (ai rfl rfl)) (Or.inl rfl) ?_ (by exact (ai (ai rfl (ai (ai rfl rfl) rfl)) (ai rfl (ai rfl (ai rfl (fun _ _=>rfl)))))) (⟨by show ((bK c.sts (k+1)++gK (k+1))++iU ((c.sts.getD (k+1) st0).st.take (c.sts.getD (k+1) st0).st.length)).length≤1000000;rw[et];simp only[aaH,aiD,anj];omega,by show ([32]++dec w).length≤1000000;rw[aaH];show 1+_≤_;omega⟩) ?_
    ·exact (ai (ai rfl rfl) rfl)
    refine eF (ac4) ((true,[],((bK c.sts (k+1)++gK (k+1))++iU ((c.sts.getD (k+1) st0).st.take (c.sts.getD (k+1) st0).st.length))++([32]++dec w),10)) [1,6] (a4 (ai rfl rfl)) (Or.inl rfl) (by exact (ai (ai rfl rfl) (iE (by simp only[zz,reduceCtorEq];rfl)))) (by exact (ai (ai rfl (ai (ai rfl rfl) rfl)) (ai rfl (ai rfl (ai rfl (fun _ _=>rfl)))))) ((by show (((bK c.sts (k+1)++gK (k+1))++iU ((c.sts.getD (k+1) st0).st.take (c.sts.getD (k+1) st0).st.length))++([32]++dec w)).length≤1000000;rw[et];simp only[aaH,aiD,anj];omega)) ?_
    have eN:(((bK c.sts (k+1)++gK (k+1))++iU ((c.sts.getD (k+1) st0).st.take (c.sts.getD (k+1) st0).st.length))++([32]++dec w))++[10]=bK c.sts (k+1+1):=by
     show _=bK c.sts (k+1)++((((gK (k+1)++iU (c.sts.getD (k+1) st0).st)++sQ (c.sts.getD (k+1) st0).wt))++[10])
     rw[et,e0]
     simp only[arU]
    refine ei ((k+1)+1) (ai (ai rfl rfl) (ai (ai (ai rfl (ai (ai rfl rfl) (ai (ai rfl rfl) (ai (ai (ai (fun _=>rfl) (aO (by omega))) rfl) (ai (ai (ai (ai rfl rfl) rfl) (ai rfl (ai rfl (ai ?_ ?_)))) trivial))))) rfl) (ai (ai (iL (by omega)) trivial) (iM (by omega)))))
    ·exact congrArg List.length eN
    ·exact l6 eN
   ·have e0:sQ (c.sts.getD (k+1) st0).wt=[]:=by unfold sQ;rw[if_neg h4]
    refine eF (ac4) ((true,[],(bK c.sts (k+1)++gK (k+1))++iU ((c.sts.getD (k+1) st0).st.take (c.sts.getD (k+1) st0).st.length),10)) [1,5] (a4 (ai rfl rfl)) (Or.inl rfl) (by exact (ai (ai rfl rfl) (iE (by simp only[zz,reduceCtorEq];rfl)))) (by exact (ai (ai rfl (ai (ai rfl rfl) rfl)) (ai rfl (ai rfl (ai rfl (fun _ _=>rfl)))))) ((by show ((bK c.sts (k+1)++gK (k+1))++iU ((c.sts.getD (k+1) st0).st.take (c.sts.getD (k+1) st0).st.length)).length≤1000000;rw[et];simp only[aaH,aiD,anj];omega)) ?_
    have eN:((bK c.sts (k+1)++gK (k+1))++iU ((c.sts.getD (k+1) st0).st.take (c.sts.getD (k+1) st0).st.length))++[10]=bK c.sts (k+1+1):=by
     show _=bK c.sts (k+1)++((((gK (k+1)++iU (c.sts.getD (k+1) st0).st)++sQ (c.sts.getD (k+1) st0).wt))++[10])
     rw[et,e0,aqg]
     simp only[arU]
    refine ei ((k+1)+1) (ai (ai rfl rfl) (ai (ai (ai rfl (ai (ai rfl rfl) (ai (ai rfl rfl) (ai (ai (ai (fun _=>rfl) (aO (by omega))) rfl) (ai (ai (ai (ai rfl rfl) rfl) (ai rfl (ai rfl (ai ?_ ?_)))) trivial))))) rfl) (ai (ai (iL (by omega)) trivial) (iM (by omega)))))
    ·exact congrArg List.length eN
    ·exact l6 eN
  ·have hkn:k+1=c.sts.length:=by omega
   refine ei (bC.inv { X:=Nat,up:=fun i=>[(66,.s (iA i))],uo:=fun i=>[⟨1,143,[.s (.own 1 0),.rw 5 1 (bK c.sts (k+1)++nC (dO c) c.trs i).length (adK (bK c.sts (k+1)++nC (dO c) c.trs i))]⟩],inv:=fun i=>i≤c.trs.length∧(True),meas:=fun i=>c.trs.length-i,x0:=0 }) ?_
   refine ai (ai (ai (by exact (a4 (ai rfl rfl))) (ai ?_ ?_)) rfl) (ai (ai (adO _) ?_) ?_)
   ·exact (ai (ai (fun _=>rfl) (iE (by simp only[zz,reduceCtorEq];rfl))) rfl)
   ·refine (ai (ai (ai (ai rfl rfl) rfl) (ai rfl (ai rfl (ai ?_ ?_)))) trivial)
    ·show (bK c.sts (k+1)).length=(bK c.sts (k+1)++[]).length
     rw[aqg]
    ·exact l6 (by show _=_++[];rw[aqg])
   ·trivial
   intro (i:Nat) ⟨hi,_⟩
   have hM:=af3 hc hi
   refine ah (p:=i<c.trs.length) (au (by omega)) (fun h5=>?_) (fun h5=>?_)
   ·refine ai (ai (aaN _) (iN (n:=c.trs.length) (by omega))) (ai rfl ?_)
    obtain ⟨⟨q1,q2⟩,q3,q4,q5⟩:=ahZ hc h5
    obtain ⟨⟨p1,p2⟩,p3,p4⟩:=aij hc h5
    have x1:=wT (kZ hc h5).1.1 (by decide)
    have x2:=wT (kZ hc h5).2.1.1 (by decide)
    refine ei (.seq [0,1,2,3,4,5,6,7,8,9]) (ai (by kernel_rfl) ?_)
    refine ei _ (ai (apB) (ei (c) (ei [] (ai (a4 (ai (fun _=>Or.inl rfl) (ai nof (Or.inl rfl)))) (ai (by exact (ai rfl (ai (ai rfl (fun _ _=>rfl)) (ai (ai rfl (fun _ _=>rfl)) (ai rfl (fun _ _=>rfl)))))) (ai trivial (ai (alO hc) ?_)))))))
    refine ei _ (ai (ajo) (ei (((c.trs.getD i aM).wh,dO c)) (ei [] (ai (a4 (ai (fun _=>Or.inl rfl) (ai nof (Or.inl rfl)))) (ai (by exact (ai (ai (iE (by simp only[zz,reduceCtorEq])) (ai (iE (by simp only[zz,reduceCtorEq])) (ai rfl (fun _ _=>rfl)))) (ai rfl (fun _ _=>rfl)))) (ai trivial (ai (alE hc h40 h5) ?_)))))))
    refine ei (.one 0 (.one 1 (.one 4 (.one 5 (.one 9 (.one 2 (.one 3 (.one 6 (.one 7 (.one 8 (.one 10 (.one 11 (.wr 12 .done))))))))))))) (ai (by kernel_rfl) ?_)
    refine ei _ (ai (acW) (ei ((c.trs.getD i aM).fr) (ei [] (ai (a4 (ai (fun _=>Or.inl rfl) (ai nof (Or.inl rfl)))) (ai (by exact (ai rfl (fun _ _=>rfl))) (ai trivial (ai (⟨x1,by show (c.trs.getD i aM).fr.length≤1000;omega⟩) ?_)))))))
    refine ai (pR (l:=inT (c.trs.getD i aM).fr) (m:=[32,62,32]) rfl rfl (by show _+3≤_;omega)) ?_
    refine ei _ (ai (acW) (ei ((c.trs.getD i aM).to) (ei [] (ai (a4 (ai (fun _=>Or.inl rfl) (ai nof (Or.inl rfl)))) (ai (by exact (ai rfl (fun _ _=>rfl))) (ai trivial (ai (⟨x2,by show (c.trs.getD i aM).to.length≤1000;omega⟩) ?_)))))))
    have hX2:(strOf (inT (c.trs.getD i aM).fr)++strOf [32,62,32])++strOf (inT (c.trs.getD i aM).to)=strOf ((inT (c.trs.getD i aM).fr++[32,62,32])++inT (c.trs.getD i aM).to):=by rw[eP,eP]
    have hX3:((strOf (inT (c.trs.getD i aM).fr)++strOf [32,62,32])++strOf (inT (c.trs.getD i aM).to))++strOf [58,32]=strOf (((inT (c.trs.getD i aM).fr++[32,62,32])++inT (c.trs.getD i aM).to)++[58,32]):=by rw[hX2,eP]
    have hX4:(((strOf (inT (c.trs.getD i aM).fr)++strOf [32,62,32])++strOf (inT (c.trs.getD i aM).to))++strOf [58,32])++strOf (d9 (dO c) (c.trs.getD i aM).wh)=strOf ((((inT (c.trs.getD i aM).fr++[32,62,32])++inT (c.trs.getD i aM).to)++[58,32])++d9 (dO c) (c.trs.getD i aM).wh):=by rw[hX3,eP]
    have hX5:((((strOf (inT (c.trs.getD i aM).fr)++strOf [32,62,32])++strOf (inT (c.trs.getD i aM).to))++strOf [58,32])++strOf (d9 (dO c) (c.trs.getD i aM).wh))++strOf [10]=strOf (lnT (dO c) (c.trs.getD i aM)):=by rw[hX4,eP];rfl
    refine ai (pR (l:=inT (c.trs.getD i aM).fr++[32,62,32]) (m:=inT (c.trs.getD i aM).to) (eP _ _) rfl (by simp only[aaH,aiD,anj];omega)) ?_
    refine ai (pR (l:=(inT (c.trs.getD i aM).fr++[32,62,32])++inT (c.trs.getD i aM).to) (m:=[58,32]) hX2 rfl (by simp only[aaH,aiD,anj];omega)) ?_
    refine ai (pR (l:=((inT (c.trs.getD i aM).fr++[32,62,32])++inT (c.trs.getD i aM).to)++[58,32]) (m:=d9 (dO c) (c.trs.getD i aM).wh) hX3 rfl (by simp only[aaH,aiD,anj];omega)) ?_
    refine ai (pR (l:=(((inT (c.trs.getD i aM).fr++[32,62,32])++inT (c.trs.getD i aM).to)++[58,32])++d9 (dO c) (c.trs.getD i aM).wh) (m:=[10]) hX4 rfl (by simp only[aaH,aiD,anj];omega)) ?_
    refine eF (sH) ((true,[],bK c.sts (k+1)++nC (dO c) c.trs i,lnT (dO c) (c.trs.getD i aM))) [1,3] (a4 (ai rfl rfl)) (Or.inl rfl) ?_ (by exact (ai (ai rfl (ai (ai rfl rfl) rfl)) (ai rfl (ai rfl (ai rfl (fun _ _=>rfl)))))) (⟨by show (bK c.sts (k+1)++nC (dO c) c.trs i).length≤1000000;rw[aaH];omega,by show (lnT (dO c) (c.trs.getD i aM)).length≤1000000;omega⟩) ?_
    ·exact (ai (ai rfl rfl) rfl)
    have eN:(bK c.sts (k+1)++nC (dO c) c.trs i)++lnT (dO c) (c.trs.getD i aM)=bK c.sts (k+1)++nC (dO c) c.trs (i+1):=by rw[nC,arU]
    refine ei (i+1) (ai (ai rfl rfl) (ai (ai (ai rfl (ai (ai rfl rfl) (ai (ai rfl rfl) (ai (ai (ai (fun _=>rfl) (aO (by omega))) rfl) (ai (ai (ai (ai rfl rfl) rfl) (ai rfl (ai rfl (ai ?_ ?_)))) trivial))))) rfl) (ai (ai (iL (by omega)) trivial) (iM (by omega)))))
    ·exact congrArg List.length eN
    ·exact l6 eN
   ·obtain rfl:i=c.trs.length:=by omega
    have hne:bK c.sts (k+1)++nC (dO c) c.trs c.trs.length≠[]:=fun e=>by
     have:=congrArg List.length e
     rw[aaH,bK,aaH] at this
     have h7:0<(lnK k (c.sts.getD k st0)).length:=by unfold lnK;rw[aaH];exact Nat.succ_pos _
     have:(bK c.sts k).length+(lnK k (c.sts.getD k st0)).length+(nC (dO c) c.trs c.trs.length).length=0:=this
     omega
    refine akD (ah4 143 2) rfl rfl rfl rfl (bK c.sts (k+1)++nC (dO c) c.trs c.trs.length) rfl hne (fun j _=>rfl) ?_
    have eT:ajn c=bK c.sts (k+1)++nC (dO c) c.trs c.trs.length:=by unfold ajn;rw[hkn]
    refine ai (ai (fun _=>(by exact (ai trivial trivial))) ?_) trivial
    show ak _ (uF c)
    rw[uF,if_pos hc,hc,eT]
    exact (ai rfl rfl)
def anC:List (Nat×(List Nat→SV))→Nat→List Nat→SV
 | [],_,_=>.any
 | (k,v) :: l,i,ns=>match k.beq i with
  | true=>v ns
  | false=>anC l i ns
def anf:List (Nat×List Nat)→Nat→List Nat
 | [],_=>[]
 | (k,v) :: l,i=>match k.beq i with
  | true=>v
  | false=>anf l i
def ane:List (Nat×(List Nat→Ob))→Nat→List Nat→Ob
 | [],_,_=>.cells 0 []
 | (k,v) :: l,i,ns=>match k.beq i with
  | true=>v ns
  | false=>ane l i ns
def hd0:List Nat→Nat
 | []=>0
 | n :: _=>n
def y9 (l:List Int):PV:=.seq l.length (bg 1 (l.map iP))
def afW (fr to:List Int) (x:Ex):List PV:=[y9 fr,y9 to,iP x.op,iP x.idx,.seq x.args.length (exF x.args)]
def fkE:List PV:=afW [0] [1,2] (oN true)++afW [1,2] [0] (oN true)
def fkF (a:Bool):Nat→List PV:=if a=true then iO (bg 5 fkE) 1 0 [y9 [1]] else bg 5 fkE
def jl (a:Bool):PV:=.agg [iP 1,.val (.slice none 0 0),.seq 3 (fun _=>[.val (.slice none 0 0),iP 0]),.seq 2 (fkF a)]
def fkX:SV:=.p true (exP (oN true))
def fkI (l:List Int):SV:=.p false (y9 l)
def fkT (fr to:List Int):SV:=.p false (.agg (afW fr to (oN true)))
def fkS:l7 where
 l:=[0,1,2,3,4,5,6,7,8,9,10,11]
 own:=[9,11]
 u:=anf [(9,[9]),(10,[9]),(11,[11])]
 f:=anC [(0,fun _=>.p false (.seq 3 (fun _=>[.val (.slice none 0 0),iP 0]))),(1,fun _=>fkI [0]),(2,fun _=>fkI [1,2]),(3,fun _=>fkX),(4,fun _=>fkT [0] [1,2]),
  (5,fun _=>fkI [1,2]),(6,fun _=>fkI [0]),(7,fun _=>fkX),(8,fun _=>fkT [1,2] [0]),(9,fun ns=>.row (hd0 ns)),
  (10,fun ns=>.agg [.p true (iP 1),.p true (.val (.slice none 0 0)),.p false (.seq 3 (fun _=>[.val (.slice none 0 0),iP 0])),.row (hd0 ns)]),(11,fun ns=>.own (hd0 ns) 0)]
 ob:=ane [(9,fun _=>.row 81 5 2 (bg 5 (afW [0] [1,2] (oN true)++afW [1,2] [0] (oN true)))),
  (11,fun _=>.cells 26 [.p true (iP 0),.p true (.val (.slice none 0 0)),.p true (.val (.slice none 0 0)),.p true (.val (.slice none 0 0))])]
theorem ajU:aK Tryz.prog 58 (iC (fun a:Bool=>[.p false (bP a)]) (fun _=>True) jl):=by
 refine jo [4000006,4000007,4000008,4000011,4000012,4000020] ?_
 refine aX (Tb:=tab) mixed aB Tryz.func58 rfl rfl ?_
 rintro (a:Bool) hpre
 refine ai (ai rfl (ai rfl rfl)) ?_
 refine ei _ (ai (amI) (ei (true) (ei [] (ai (a4 (ai (fun _=>Or.inl rfl) (ai nof (Or.inl rfl)))) (ai (by exact rfl) (ai trivial (ai (trivial) ?_)))))))
 refine ei (.set fkS (.one 12 .done)) (ai (by kernel_rfl) (ai ?_ ?_))
 ·repeat' (first | exact trivial | refine ai ?_ ?_ | exact anD.mk rfl rfl rfl rfl | intro s | decide)
 refine ai trivial (ai (ai trivial (ai ?_ trivial)) (ai (ai trivial (ai ?_ trivial)) trivial))
 ·refine aZ (b:=a) rfl (fun h=>?_) (fun h=>?_)
  ·refine ai (ai (by decide) (by decide)) (ai (ai (by decide) (by decide)) ?_)
   refine ai (ai (fun h=>absurd (show false=true from h) (by decide)) ?_) trivial
   show ak _ (jl a)
   rw[show jl a=.agg [iP 1,.val (.slice none 0 0),.seq 3 (fun _=>[.val (.slice none 0 0),iP 0]),.seq 2 (iO (bg 5 fkE) 1 0 [y9 [1]])] by unfold jl fkF;rw[if_pos h]]
   exact (ai rfl (ai rfl (ai (ai rfl (fun _ _=>rfl)) (ai rfl (fun _ _=>rfl)))))
  ·refine ai (ai (fun h=>absurd (show false=true from h) (by decide)) ?_) trivial
   show ak _ (jl a)
   rw[show jl a=.agg [iP 1,.val (.slice none 0 0),.seq 3 (fun _=>[.val (.slice none 0 0),iP 0]),.seq 2 (bg 5 fkE)] by unfold jl fkF;rw[if_neg (by rw[h];decide)]]
   exact (ai rfl (ai rfl (ai (ai rfl (fun _ _=>rfl)) (ai rfl (fun _ _=>rfl)))))
 ·refine aZ (b:=a) rfl (fun h=>?_) (fun h=>?_)
  ·refine ai (ai (by decide) (by decide)) (ai (ai (by decide) (by decide)) ?_)
   refine ai (ai (fun h=>absurd (show false=true from h) (by decide)) ?_) trivial
   show ak _ (jl a)
   rw[show jl a=.agg [iP 1,.val (.slice none 0 0),.seq 3 (fun _=>[.val (.slice none 0 0),iP 0]),.seq 2 (iO (bg 5 fkE) 1 0 [y9 [1]])] by unfold jl fkF;rw[if_pos h]]
   exact (ai rfl (ai rfl (ai (ai rfl (fun _ _=>rfl)) (ai rfl (fun _ _=>rfl)))))
  ·refine ai (ai (fun h=>absurd (show false=true from h) (by decide)) ?_) trivial
   show ak _ (jl a)
   rw[show jl a=.agg [iP 1,.val (.slice none 0 0),.seq 3 (fun _=>[.val (.slice none 0 0),iP 0]),.seq 2 (bg 5 fkE)] by unfold jl fkF;rw[if_neg (by rw[h];decide)]]
   exact (ai rfl (ai rfl (ai (ai rfl (fun _ _=>rfl)) (ai rfl (fun _ _=>rfl)))))
def jR (a:Bool):aS:=⟨1,[],[⟨[],0⟩,⟨[],0⟩,⟨[],0⟩],[⟨[0],[1,2],oN true⟩,⟨if a then [1] else [1,2],[0],oN true⟩]⟩
theorem aoN (a:Bool):gF (jl a) (uJ (jR a)):=by
 refine vD (bH (.refl _) (bH (.nil _) (bH (gG fun k hk=>?_) (bH (gG fun k hk=>?_) mW))))
 ·match k,hk with
  | 0,_=>exact yV (.nil _) (.refl _)
  | 1,_=>exact yV (.nil _) (.refl _)
  | 2,_=>exact yV (.nil _) (.refl _)
 ·have one:∀x:Int,gF (y9 [x]) (lT [x]):=fun x=>gG fun k hk=>by match k,hk with | 0,_=>exact bJ.rfl' _
  have two:∀x y:Int,gF (y9 [x,y]) (lT [x,y]):=fun x y=>gG fun k hk=>by match k,hk with | 0,_=>exact bJ.rfl' _ | 1,_=>exact bJ.rfl' _
  match k,hk with
  | 0,_=>cases a<;>exact bH (one 0) (bH (two 1 2) (bJ.rfl' _))
  | 1,_=>
   cases a
   ·exact bH (two 1 2) (bH (one 0) (bJ.rfl' _))
   ·exact bH (one 1) (bH (one 0) (bJ.rfl' _))
theorem ail:aK Tryz.prog 58 (iC (fun a:Bool=>[.p false (bP a)]) (fun _=>True) (fun a=>uJ (jR a))):=ade ajU fun a _=>aoN a
def three:mq:=⟨2,[⟨[(0,true)],0⟩,⟨[(1,true)],150⟩,⟨[(0,false),(1,false)],0⟩]⟩
def apK (n:Int) (b:Bool):PV:=.seq 1 (bg 2 [iP n,bP b])
def sU:PV:=.agg [iP 2,.seq 3 (bg 2 [apK 0 true,iP 0,apK 1 true,iP 150,.seq 2 (bg 2 [iP 0,bP false,iP 1,bP false]),iP 0])]
theorem akq:aK Tryz.prog 57 (iC (fun _:Unit=>[]) (fun _=>True) (fun _=>sU)):=by
 refine jo [4000002,4000005,4000009,4000011] ?_
 refine aX (Tb:=tab) mixed aB Tryz.func57 rfl rfl ?_
 rintro (u:Unit) hpre
 refine ai (ai rfl (ai rfl rfl)) ?_
 refine ai (ai (fun h=>absurd (show false=true from h) (by decide)) ?_) trivial
 show ak _ (sU)
 rw[show sU=sU from rfl]
 exact (ai rfl (ai rfl (fun _ _=>rfl)))
theorem amZ:gF sU (.agg (sqK three)):=by
 refine vD (bH (.refl _) (bH (gG fun k hk=>?_) mW))
 match k,hk with
 | 0,_=>exact yV (gG fun k hk=>by match k,hk with | 0,_=>exact bJ.rfl' _) (.refl _)
 | 1,_=>exact yV (gG fun k hk=>by match k,hk with | 0,_=>exact bJ.rfl' _) (.refl _)
 | 2,_=>exact yV (gG fun k hk=>by match k,hk with | 0,_=>exact bJ.rfl' _ | 1,_=>exact bJ.rfl' _) (.refl _)
theorem amE:aK Tryz.prog 57 (iC (fun _:Unit=>[]) (fun _=>True) (fun _=>.agg (sqK three))):=ade akq fun _ _=>amZ
def vrX (n:Int):Ex:=.node 1 n []
def c3:aS:=⟨2,[[115,116,97,114,116]],[⟨[],0⟩,⟨[(0,true)],0⟩,⟨[(1,true)],0⟩,⟨[],150⟩,⟨[(0,false),(1,false)],0⟩],
 [⟨[0],[1],vrX 4⟩,⟨[1],[2],vrX 1⟩,⟨[2],[3],vrX 3⟩,⟨[3],[4],vrX 8⟩,⟨[4],[0],.node 3 0 [vrX 0,vrX 2]⟩]⟩
def alN:List UInt8:=[115,116,101,112,32,48,58,10,115,116,101,112,32,49,58,32,65,43,10,115,116,101,112,32,50,58,32,66,43,10,115,116,101,112,32,51,58,32,49,53,48,10,115,116,101,112,32,52,58,32,65,45,32,66,45,10,48,32,62,32,49,58,32,115,116,97,114,116,10,49,32,62,32,50,58,32,97,49,10,50,32,62,32,51,58,32,98,49,10,51,32,62,32,52,58,32,121,51,10,52,32,62,32,48,58,32,97,48,32,38,32,98,48,10]
theorem ao3:ofC three=c3:=by kernel_rfl
theorem aqB:vC three=0:=by decide +kernel
theorem aqc:bE c3=0:=by decide +kernel
theorem aoe:ajn c3=alN:=by decide +kernel
theorem ao2:iy (eH c3)=[[false,false,false,false,true],[false,false,false,true,false],[false,false,true,false,false],[false,true,false,false,false],[true,false,false,false,false]]:=by decide +kernel
theorem aqd:iy (eH (jR false))=[[false,true,true],[true,false,false]]:=by decide +kernel
theorem ex3:jP c3=0:=by decide +kernel
theorem arn:jP (jR false)=0:=by decide +kernel
theorem ard:jP (jR true)=0:=by decide +kernel
theorem aoU:ru (jR true)=([0,1,0],true):=by decide +kernel
theorem am6:gD c3∧∀t∈c3.trs,t.wh.size≤120:=by
 refine ⟨⟨fun s hs=>?_,fun t ht=>?_⟩,fun t ht=>?_⟩
 ·have:∀s∈c3.sts,s.st.length≤2:=by decide
  have:=this s hs;omega
 ·have:∀t∈c3.trs,t.fr.length≤2∧t.to.length≤2∧t.wh.size≤10:=by decide +kernel
  have:=this t ht
  exact ⟨by omega,by omega,by omega⟩
 ·have:∀t∈c3.trs,t.wh.size≤10:=by decide +kernel
  have:=this t ht;omega
theorem ars:∀t∈c3.trs,abr t.wh:=by
 intro t ht
 simp only[c3,aif,List.mem_nil_iff,or_false] at ht
 rcases ht with rfl | rfl | rfl | rfl | rfl
 ·exact .inl rfl
 ·exact .inl rfl
 ·exact .inl rfl
 ·exact .inl rfl
 ·refine .inr ⟨rfl,fun y hy=>?_⟩
  simp only[aif,List.mem_nil_iff,or_false,Ex.args] at hy
  rcases hy with rfl | rfl<;>rfl
theorem okF (a:Bool):gD (jR a)∧alA (jR a):=by
 have h1:∀a,∀s∈(jR a).sts,s.st.length≤2:=by decide
 have h2:∀a,∀t∈(jR a).trs,t.fr.length≤2∧t.to.length≤2∧t.wh.size≤10:=by decide +kernel
 refine ⟨⟨fun s hs=>?_,fun t ht=>?_⟩,?_⟩
 ·have:=h1 a s hs;omega
 ·have:=h2 a t ht;exact ⟨by omega,by omega,by omega⟩
 ·cases a<;>exact ⟨by decide,by decide⟩
def mF:List (List Bool):=[[false,true,true],[true,false,false]]
section
variable {z : Int} (hz : z = 0)
include hz
theorem aqp:aK Tryz.prog 18 (iC (fun _:Unit=>[sqA three]) (fun _=>True) (fun _=>.tup [uJ c3,iP z])):=
 jJ aeL three trivial (by show PV.tup [uJ (ofC three),iP (vC three)]=_;rw[hz,ao3,aqB])
theorem aoY:aK Tryz.prog 24 (fnG (fun _:Unit=>[jy c3]) (fun _=>True) (fun _=>.tup [sP alN,iP z])):=by
 have h:aK Tryz.prog 24 (fnG (fun _:Unit=>[jy c3]) (fun _=>True) (fun _=>uF c3)):=⟨acn.1,fun _ _ E vs w hg hh hA=>acn.2 c3 ⟨am6.1,fun _ t ht=>⟨am6.2 t ht,ars t ht⟩⟩ E vs w hg hh hA⟩
 have e:uF c3=.tup [sP alN,iP z]:=by unfold uF;rw[if_pos aqc,aqc,aoe,hz]
 rw[e] at h;exact h
theorem aqa:aK Tryz.prog 29 (iC (fun _:Unit=>[jy c3]) (fun _=>True) (fun _=>.tup [bbP [[false,false,false,false,true],[false,false,false,true,false],[false,false,true,false,false],[false,true,false,false,false],[true,false,false,false,false]],iP z])):=
 jJ uX c3 am6.1 (by show jS c3=_;unfold jS;rw[hz,ao2,ex3])
theorem ao0:aK Tryz.prog 29 (iC (fun _:Unit=>[jy (jR false)]) (fun _=>True) (fun _=>.tup [bbP mF,iP z])):=
 jJ uX (jR false) (okF false).1 (by show jS (jR false)=_;unfold jS;rw[hz,aqd,arn];rfl)
theorem aps:aK Tryz.prog 13 (iC (fun _:Unit=>[jy (jR true)]) (fun _=>True) (fun _=>.tup [bP false,lT [0,1,0],iP z])):=
 jJ aov (jR true) (okF true).1 (by show wB (jR true)=_;unfold wB;rw[if_pos ard,aoU,hz];rfl)
end
def rwM:PV:=.seq 2 (bg 1 [.seq 3 (bg 1 [bP false,bP true,bP true]),.seq 3 (bg 1 [bP true,bP false,bP false])])
theorem ap6:gF rwM (bbP mF):=gG fun k hk=>by
 match k,hk with
 | 0,_=>exact abC (gG fun k hk=>by match k,hk with | 0,_=>exact bJ.rfl' _ | 1,_=>exact bJ.rfl' _ | 2,_=>exact bJ.rfl' _)
 | 1,_=>exact abC (gG fun k hk=>by match k,hk with | 0,_=>exact bJ.rfl' _ | 1,_=>exact bJ.rfl' _ | 2,_=>exact bJ.rfl' _)
theorem smM:afr mF:=⟨by decide,fun m hm=>by
 have:∀m∈mF,m.length≤3:=by decide
 have:=this m hm
 omega⟩
theorem al2:aK Tryz.prog 33 (bR (fun _:Unit=>[bbA mF,.p false rwM]) (fun _=>True) (fun _=>bP true)):=
 am0 (acr ab2 (mF,mF) smM (by show bP (decide (mF=mF))=_;rw[decide_eq_true rfl];rfl)) fun _ _=>⟨.inl rfl,.inr ⟨_,_,rfl,rfl,ap6⟩,trivial⟩
theorem aqh:aK Tryz.prog 59 (bR (fun _:Unit=>[isA [0,1,0],isA [0,1,0]]) (fun _=>True) (fun _=>bP true)):=
 acr aoH ([0,1,0],[0,1,0]) (by decide) rfl
def aqw:Spec:=fnG (fun _:Unit=>[]) (fun _=>True) (fun _=>bP true)
theorem acJ:aK Tryz.prog 12 aqw:=by
 refine jo [4000061,4000062,4000063,4000072] ?_
 refine aX (Tb:=tab) mixed aB Tryz.func12 rfl rfl ?_
 rintro ⟨⟩ hpre
 refine ai (ai rfl (ai rfl rfl)) ?_
 obtain ⟨z,hz⟩:∃z:Int,z=0:=⟨0,rfl⟩
 refine ei _ (ai (amE) (ei (()) (ei [] (ai (a4 (ai (fun _=>Or.inl rfl) (ai nof (Or.inl rfl)))) (ai (by exact trivial) (ai trivial (ai (trivial) ?_)))))))
 refine ei _ (ai ((aqp hz)) (ei (()) (ei [] (ai (a4 (ai (fun _=>Or.inl rfl) (ai nof (Or.inl rfl)))) (ai (by exact (ai rfl (ai rfl (fun _ _=>rfl)))) (ai trivial (ai (trivial) ?_)))))))
 refine ei _ (ai ((aoY hz)) (ei (()) (ei [] (ai (a4 (ai (fun _=>Or.inl rfl) (ai nof (Or.inr rfl)))) (ai (by exact (ai rfl (ai (ai rfl (fun _ _=>rfl)) (ai (ai rfl (fun _ _=>rfl)) (ai rfl (fun _ _=>rfl)))))) (ai trivial (ai (trivial) ?_)))))))
 refine ei _ (ai ((aqa hz)) (ei (()) (ei [] (ai (a4 (ai (fun _=>Or.inl rfl) (ai nof (Or.inl rfl)))) (ai (by exact (ai rfl (ai (ai rfl (fun _ _=>rfl)) (ai (ai rfl (fun _ _=>rfl)) (ai rfl (fun _ _=>rfl)))))) (ai trivial (ai (trivial) ?_)))))))
 refine ei _ (ai (ail) (ei (false) (ei [] (ai (a4 (ai (fun _=>Or.inl rfl) (ai nof (Or.inl rfl)))) (ai (by exact rfl) (ai trivial (ai (trivial) ?_)))))))
 refine ei _ (ai (aag) (ei (jR false) (ei [] (ai (a4 (ai (fun _=>Or.inl rfl) (ai nof (Or.inl rfl)))) (ai (by exact (ai rfl (ai (ai rfl (fun _ _=>rfl)) (ai (ai rfl (fun _ _=>rfl)) (ai rfl (fun _ _=>rfl)))))) (ai trivial (ai ((okF false).2) ?_)))))))
 refine ei _ (ai ((ao0 hz)) (ei (()) (ei [] (ai (a4 (ai (fun _=>Or.inl rfl) (ai nof (Or.inl rfl)))) (ai (by exact (ai rfl (ai (ai rfl (fun _ _=>rfl)) (ai (ai rfl (fun _ _=>rfl)) (ai rfl (fun _ _=>rfl)))))) (ai trivial (ai (trivial) ?_)))))))
 refine ei _ (ai (ail) (ei (true) (ei [] (ai (a4 (ai (fun _=>Or.inl rfl) (ai nof (Or.inl rfl)))) (ai (by exact rfl) (ai trivial (ai (trivial) ?_)))))))
 refine ei _ (ai (aag) (ei (jR true) (ei [] (ai (a4 (ai (fun _=>Or.inl rfl) (ai nof (Or.inl rfl)))) (ai (by exact (ai rfl (ai (ai rfl (fun _ _=>rfl)) (ai (ai rfl (fun _ _=>rfl)) (ai rfl (fun _ _=>rfl)))))) (ai trivial (ai ((okF true).2) ?_)))))))
 refine ei _ (ai ((aps hz)) (ei (()) (ei [] (ai (a4 (ai (fun _=>Or.inl rfl) (ai nof (Or.inl rfl)))) (ai (by exact (ai rfl (ai (ai rfl (fun _ _=>rfl)) (ai (ai rfl (fun _ _=>rfl)) (ai rfl (fun _ _=>rfl)))))) (ai trivial (ai (trivial) ?_)))))))
 refine aZ (b:=true) (by simp only[hz,Int.add_zero,apO];rfl) (fun _=>?_) (fun h=>absurd h (by decide))
 refine ei _ (ai (al2) (ei (()) (ei [] (ai (a4 (ai (fun _=>Or.inl rfl) (ai nof (Or.inl rfl)))) (ai ?_ (ai trivial (ai ?_ ?_)))))))
 ·exact (ai (ai rfl (fun _ _=>rfl)) (ai rfl (fun _ _=>rfl)))
 ·trivial
 refine ei _ (ai (aqh) (ei (()) (ei [] (ai (a4 (ai (fun _=>Or.inl rfl) (ai nof (Or.inl rfl)))) (ai ?_ (ai trivial (ai ?_ ?_)))))))
 ·refine (ai (ai rfl (fun _ _=>rfl)) (ai rfl ?_))
  (intro k hk;have hk:k<3:=hk;match k,hk with | 0,_=>rfl | 1,_=>rfl | 2,_=>rfl)
 ·trivial
 refine ai (ai (fun _=>trivial) ?_) trivial
 exact rfl
def arq:Spec:=fnG (fun c:aS=>[jy c]) (fun _=>True) (fun _=>bP true)
theorem akG {a b:List Bool} (h:a=b):ak (iX a) (iX b):=by subst h;exact ⟨rfl,fun _ _=>rfl⟩
theorem arh {j:Nat} (h:j<4611686018427387904):IntKind.i64.wrap (((j+1:Nat):Int)-1)=(j:Int):=by
 simp[IntKind.wrap,IntKind.bits,IntKind.signed];omega
theorem fU {A:List (List Bool)} {x:List Bool} {k:Nat}:(rowAt A x k).length=A.length+1:=by
 have:=(abN A x k).length_eq
 simpa using this
theorem adb {A:List (List Bool)} {x:List Bool} {k:Nat} (h:k≤A.length):(rowAt A x k).getD k []=x:=by
 unfold rowAt
 rw[aaK,aeD (by rw[ah0];omega)]
 rw[show k-(A.take k).length=0 by rw[ah0];omega];rfl
theorem wz {A:List (List Bool)} {x:List Bool} {j k:Nat} (h:k≤A.length) (hj:j<k):(rowAt A x k).getD j []=A.getD j []:=by
 unfold rowAt
 rw[aaK,aaK,aeB (by rw[ah0];omega),aj8,if_pos hj]
theorem abF {A:List (List Bool)} {x:List Bool} {j k:Nat} (h:k≤A.length) (hj:k<j):(rowAt A x k).getD j []=A.getD (j-1) []:=by
 unfold rowAt
 rw[aaK,aaK,aeD (by rw[ah0];omega)]
 rw[show j-(A.take k).length=(j-1-k)+1 by rw[ah0];omega,ak9,apn]
 congr 2;omega
theorem akz (A:List (List Bool)) (x:List Bool):rowAt A x A.length=A++[x]:=by unfold rowAt;rw[agn,List.drop_length]
theorem ajI {A:List (List Bool)} {x:List Bool} {k:Nat} (h:k<A.length) (j:Nat) :
  iO (iO (fun j=>[iX ((rowAt A x (k+1)).getD j [])]) (k+1) 0 [iX (A.getD k [])]) k 0 [iX x] j=[iX ((rowAt A x k).getD j [])]:=by
 unfold iO
 by_cases e1:j=k
 ·subst e1;rw[if_pos rfl,adb (by omega)]
  rw[if_neg (by omega)];rfl
 ·rw[if_neg e1]
  by_cases e2:j=k+1
  ·subst e2;rw[if_pos rfl,abF (k:=k) (by omega) (by omega)];rfl
  ·rw[if_neg e2]
   show [iX ((rowAt A x (k+1)).getD j [])]=_
   by_cases e3:j<k
   ·rw[wz (by omega) (by omega),wz (by omega) e3]
   ·rw[abF (by omega) (by omega),abF (by omega) (by omega)]
theorem agz:aK Tryz.prog 30 (iC (fun c:aS=>[jy c]) gD jS):=by
 refine aX (Tb:=tab) mixed aB Tryz.func30 rfl rfl ?_
 rintro (c:aS) hpre
 refine ai (ai rfl (ai rfl rfl)) ?_
 have ho:gD c:=hpre
 have hnil:¬jP c=0→eH c=[]:=fun h1=>by
  unfold eH dR
  unfold jP at h1
  split
  ·rename_i h
   rw[if_pos h] at h1
   cases ee:lH c with
   | none=>rfl
   | some l=>rw[ee] at h1;exact absurd rfl h1
  ·rfl
 refine ei _ (ai (aas) (ei (c) (ei [] (ai (a4 (ai (fun _=>Or.inl rfl) (ai nof (Or.inl rfl)))) (ai (by exact (ai rfl (ai (ai rfl (fun _ _=>rfl)) (ai (ai rfl (fun _ _=>rfl)) (ai rfl (fun _ _=>rfl)))))) (ai trivial (ai (ho) ?_)))))))
 refine bn (p:=bE c=0) (bM (by omega)) (fun h0=>?_) (fun h0=>?_)
 ·have e:=ahV h0
  refine ai (ai (fun h=>absurd (show false=true from h) (by decide)) ?_) trivial
  show ak _ (jS c)
  rw[jS,hnil (by rw[e];exact h0),e]
  exact (ai rfl rfl)
 refine ei _ (ai ((jJ aaI c ⟨h0,ho⟩ (r:=ai5 c) (akF h0))) (ei (()) (ei [] (ai (a4 (ai (fun _=>Or.inl rfl) (ai nof (Or.inl rfl)))) (ai (by exact (ai rfl (ai (ai rfl (fun _ _=>rfl)) (ai (ai rfl (fun _ _=>rfl)) (ai rfl (fun _ _=>rfl)))))) (ai trivial (ai (trivial) ?_)))))))
 refine bn (p:=jP c=0) (bM (by omega)) (fun h1=>?_) (fun h1=>?_)
 ·refine ai (ai (fun h=>absurd (show false=true from h) (by decide)) ?_) trivial
  show ak _ (jS c)
  rw[jS,hnil h1]
  exact (ai rfl rfl)
 obtain ⟨hc,hx⟩:=qL h1
 obtain ⟨hg,hl,hw⟩:=om h1
 have h24:=(gI hc).2.2.1.2
 have hA:jS c=.tup [bbP (iy (eH c)),iP 0]:=by unfold jS;rw[h1]
 have hml:(eH c).length=(dR c).length:=anb _
 have htk:∀k,k<(dR c).length→(eH c).take (k+1)=(eH c).take k++[((dR c).getD k av).1]:=fun k hk=>by
  rw[aP [] (by omega)]
  congr 2
  unfold eH
  rw[aaK,aaK,aiL,aaL hk];rfl
 have hmm:∀x∈eH c,x.length=c.sts.length:=fun x hx=>by obtain ⟨y,hy,rfl⟩:=aq0.1 hx;exact (hg y hy).1
 refine ei (bC.inv { X:=Nat,up:=fun i=>[(8,.s (iA i)),(7,bbR (iy ((eH c).take i)))],uo:=fun i=>[],inv:=fun i=>i≤(dR c).length∧(True),meas:=fun i=>(dR c).length-i,x0:=0 }) ?_
 refine ai (ai (ai (by exact (a4 (ai rfl rfl))) (ai (by exact (ai (ai (ai (fun _=>rfl) (iE (by simp only[zz,reduceCtorEq];rfl))) rfl) rfl)) (by exact trivial))) rfl) (ai (ai (adO _) ?_) ?_)
 ·trivial
 intro (i:Nat) ⟨hi,_⟩
 have hkl:(iy ((eH c).take i)).length=i:=by rw[afk,ah0];omega
 refine ah (p:=i<(dR c).length) (au (by omega)) (fun h2=>?_) (fun h2=>?_)
 ·refine ai (ai (aaN _) (iN (n:=(dR c).length) (by omega))) (ai rfl ?_)
  have hgi:=hg _ (aa5 (bG av h2))
  have hst:iy ((eH c).take (i+1))=abp (iy ((eH c).take i)) ((dR c).getD i av).1:=by rw[htk i h2,zi]
  have hAm:∀y∈iy ((eH c).take i),y.length=c.sts.length:=fun y hy=>hmm y (List.mem_of_mem_take ((qQ _).mem_iff.1 hy))
  generalize iy ((eH c).take i)=A at *
  refine ai (mxL (n:=A.length+1) (by omega) (by decide)) (ai (aH 1 rfl) ?_)
  obtain ⟨x,hxe⟩:∃x,((dR c).getD i av).1=x:=⟨_,rfl⟩
  have hxl:x.length=c.sts.length:=by rw[←hxe];exact hgi.1
  refine ei (bC.inv { X:=Nat,up:=fun k=>[(9,.s (iA k)),(7,bbR (rowAt A x k))],uo:=fun _=>[],inv:=fun k=>k≤A.length∧posR A x k=posR A x A.length,meas:=fun k=>k,x0:=A.length }) ?_
  refine ai (ai (ai (by exact (a4 (ai rfl rfl))) (ai ?_ ?_)) ?_) (ai ?_ ?_)
  ·refine (ai (ai (ai nof (iE (by simp only[zz,reduceCtorEq];omega))) rfl) (ai rfl (ai rfl (ai ?_ ?_))))
   ·show A.length+1=(rowAt A x A.length).length;rw[fU]
   ·intro k hk
    show _=[iX ((rowAt A x A.length).getD k [])]
    rw[akz,←hxe]
    exact ahU A _ k hk
  ·exact trivial
  ·rfl
  ·exact ⟨afK _,rfl⟩
  intro (k:Nat) ⟨hk,hp⟩
  have hk:k≤A.length:=hk
  have hp:posR A x k=posR A x A.length:=hp
  have hA9:A.length<4611686018427387904:=by omega
  refine ei (.seq [0,1,2,3,4,5,6,7,8,9,10,11,12,13]) (ai (by kernel_rfl) ?_)
  refine ah (p:=0<k) (au (by omega)) (fun h3=>?_) (fun h3=>?_)
  ·obtain ⟨j,rfl⟩:∃j,k=j+1:=⟨k-1,by omega⟩
   have hj1:=arh (j:=j) (by omega)
   refine ai (ai (aaN _) (by show ((j+1:Nat):Int)<((rowAt A x (j+1)).length:Int);rw[fU];omega)) ?_
   refine ai (by show j+1<(rowAt A x (j+1)).length;rw[fU];omega) ?_
   refine ai (ai (by show 0≤IntKind.i64.wrap (((j+1:Nat):Int)-1);rw[hj1];omega) (by show IntKind.i64.wrap (((j+1:Nat):Int)-1)<((rowAt A x (j+1)).length:Int);rw[hj1,fU];omega)) ?_
   refine ai (by show (IntKind.i64.wrap (((j+1:Nat):Int)-1)).toNat<(rowAt A x (j+1)).length;rw[hj1,fU,ani];omega) ?_
   have hyl:(A.getD j []).length=c.sts.length:=hAm _ (aa5 (bG [] (by omega)))
   refine ei _ (ai (anX) (ei ((x,A.getD j [])) (ei [] (ai (a4 (ai (fun _=>Or.inl rfl) (ai nof (Or.inl rfl)))) (ai ?_ (ai (by exact trivial) (ai (⟨by show x.length=(A.getD j []).length;rw[hyl,hxl],by show x.length≤1000000;omega⟩) ?_)))))))
   ·refine ai (akG (adb (by omega))) (akG ?_)
    show (rowAt A x (j+1)).getD (IntKind.i64.wrap (((j+1:Nat):Int)-1)).toNat []=_
    rw[hj1,ani]
    exact wz (by omega) (by omega)
   have hps:posR A x (j+1)=if rA x (A.getD j []) then posR A x j else j+1:=rfl
   refine aZ (b:=rA x (A.getD j [])) rfl (fun h4=>?_) (fun h4=>?_)
   ·refine ei (.seq [0,1,2,3,4,5,6,7,8,9,10,11,12,13,14,15,16,17]) (ai (by kernel_rfl) ?_)
    refine ai (ai (by show 0≤IntKind.i64.wrap (((j+1:Nat):Int)-1);rw[hj1];omega) (by show IntKind.i64.wrap (((j+1:Nat):Int)-1)<((rowAt A x (j+1)).length:Int);rw[hj1,fU];omega)) ?_
    refine ai (by show (IntKind.i64.wrap (((j+1:Nat):Int)-1)).toNat<(rowAt A x (j+1)).length;rw[hj1,fU,ani];omega) ?_
    refine ai (ai (aaN _) (by show ((j+1:Nat):Int)<((rowAt A x (j+1)).length:Int);rw[fU];omega)) ?_
    refine ai (by show j+1<(rowAt A x (j+1)).length;rw[fU];omega) ?_
    refine ai (ai (aaN _) (by show ((j+1:Nat):Int)<((rowAt A x (j+1)).length:Int);rw[fU];omega)) ?_
    refine ai (ai (by show j+1<(rowAt A x (j+1)).length;rw[fU];omega) (afK _)) ?_
    refine ai (ai (by show 0≤IntKind.i64.wrap (((j+1:Nat):Int)-1);rw[hj1];omega) (by show IntKind.i64.wrap (((j+1:Nat):Int)-1)<((rowAt A x (j+1)).length:Int);rw[hj1,fU];omega)) ?_
    refine ai (ai (by show (IntKind.i64.wrap (((j+1:Nat):Int)-1)).toNat<(rowAt A x (j+1)).length;rw[hj1,fU,ani];omega) (afK _)) ?_
    refine ei (j) (ai (ai rfl rfl) (ai (ai ?_ rfl) (ai ?_ ?_)))
    ·refine (ai rfl (ai (ai rfl rfl) (ai (ai rfl rfl) (ai (ai (ai (ai (fun _=>rfl) (iE (by omega))) rfl) (ai rfl (ai rfl (ai ?_ ?_)))) trivial))))
     ·show (rowAt A x (j+1)).length=(rowAt A x j).length;rw[fU,fU]
     ·intro q hq
      have h1:=ajI (A:=A) (x:=x) (k:=j) (by omega) q
      have e1:(rowAt A x (j+1)).getD (IntKind.i64.wrap (((j+1:Nat):Int)-1)).toNat []=A.getD j []:=by rw[hj1,ani];exact wz (by omega) (by omega)
      have e2:(rowAt A x (j+1)).getD (j+1) []=x:=adb (by omega)
      refine Eq.trans ?_ h1
      show iO (iO (fun j_1=>[iX ((rowAt A x (j+1)).getD j_1 [])]) (j+1) 0 [iX ((rowAt A x (j+1)).getD (IntKind.i64.wrap (((j+1:Nat):Int)-1)).toNat [])]) (IntKind.i64.wrap (((j+1:Nat):Int)-1)).toNat 0 [iX ((rowAt A x (j+1)).getD (j+1) [])] q=_
      rw[e1,e2,hj1,ani]
    ·exact ⟨by show j≤A.length;omega,by rw[←hp,hps,if_pos h4]⟩
    ·show j<j+1;omega
   ·have e:iy ((eH c).take (i+1))=rowAt A x (j+1):=by rw[hst,hxe];unfold abp;rw[←hp];rw[hps,if_neg (by rw[h4];decide)]
    refine ei (i+1) (ai (ai rfl rfl) (ai (ai (ai rfl (ai (ai rfl rfl) (ai (ai rfl rfl) (ai (ai (ai (ai (fun _=>rfl) (aO (by omega))) rfl) (ai rfl (ai rfl (ai ?_ ?_)))) trivial)))) rfl) (ai (ai (iL (by omega)) trivial) (iM (by omega)))))
    ·rw[e]
    ·rw[e];exact fun _ _=>rfl
  ·obtain rfl:k=0:=by omega
   have e:iy ((eH c).take (i+1))=rowAt A x (0):=by rw[hst,hxe];unfold abp;rw[←hp];rfl
   refine ei (i+1) (ai (ai rfl rfl) (ai (ai (ai rfl (ai (ai rfl rfl) (ai (ai rfl rfl) (ai (ai (ai (ai (fun _=>rfl) (aO (by omega))) rfl) (ai rfl (ai rfl (ai ?_ ?_)))) trivial)))) rfl) (ai (ai (iL (by omega)) trivial) (iM (by omega)))))
   ·rw[e]
   ·rw[e];exact fun _ _=>rfl
 ·obtain rfl:i=(dR c).length:=by omega
  rw[show (eH c).take (dR c).length=eH c from arL (by omega)]
  refine ai (ai (fun h=>absurd (show false=true from h) (by decide)) ?_) trivial
  show ak _ (jS c)
  rw[hA]
  exact (ai (ai rfl (fun _ _=>rfl)) rfl)
theorem afJ {c:aS} (h:¬jP c=0):dR c=[]:=by
 unfold jP at h
 unfold dR
 split
 ·rename_i h1
  rw[if_pos h1] at h
  cases e:lH c with
  | none=>rfl
  | some l=>rw[e] at h;exact absurd rfl h
 ·rfl
theorem akk {c:aS}:afr (iy (eH c)):=by
 refine ⟨?_,fun m hm=>?_⟩
 ·rw[afk]
  unfold eH
  rw[anb]
  by_cases h:jP c=0
  ·have:=(om h).2.1;omega
  ·have e:dR c=[]:=afJ h
   rw[e];exact adO _
 ·have hm:=(qQ (eH c)).mem_iff.1 hm
  unfold eH at hm
  obtain ⟨y,hy,rfl⟩:=aq0.1 hm
  by_cases h:jP c=0
  ·have h1:=((om h).1 y hy).1
   obtain ⟨hc,_⟩:=qL h
   have:=(gI hc).2.2.1
   omega
  ·rw[afJ h] at hy;cases hy
theorem ajx (c:aS) (ho:gD c):(qz c).length≤1000000:=by
 unfold qz
 split
 ·rename_i h
  have h1:=wO (jC c) c.trs.length
  obtain ⟨hc,_⟩:=qL h
  have:=(gI hc).2.2.2.1
  omega
 ·exact adO _
theorem aho:aK Tryz.prog 6 arq:=by
 refine aX (Tb:=tab) mixed aB Tryz.func6 rfl rfl ?_
 rintro (c:aS) hpre
 refine ai (ai rfl (ai rfl rfl)) ?_
 refine ei _ (ai (amw) (ei (c) (ei [] (ai (a4 (ai (fun _=>Or.inl rfl) (ai nof (Or.inl rfl)))) (ai (by exact (ai rfl (ai (ai rfl (fun _ _=>rfl)) (ai (ai rfl (fun _ _=>rfl)) (ai rfl (fun _ _=>rfl)))))) (ai trivial (ai (trivial) ?_)))))))
 refine aZ (b:=!jr c) rfl (fun h=>?_) (fun h=>?_)
 ·refine ei _ (ai (acJ) (ei (()) (ei [] (ai (a4 (ai (fun _=>Or.inl rfl) (ai nof (Or.inr rfl)))) (ai (by exact trivial) (ai trivial (ai (trivial) ?_)))))))
  refine ai (ai (fun _=>trivial) ?_) trivial
  exact rfl
 have h:jr c=true:=by simpa using h
 obtain ⟨ho,hf,_⟩:=an0 h
 refine ei _ (ai (aag) (ei (c) (ei [] (ai (a4 (ai (fun _=>Or.inl rfl) (ai nof (Or.inl rfl)))) (ai (by exact (ai rfl (ai (ai rfl (fun _ _=>rfl)) (ai (ai rfl (fun _ _=>rfl)) (ai rfl (fun _ _=>rfl)))))) (ai trivial (ai (hf) ?_)))))))
 refine ei _ (ai (uX) (ei (c) (ei [] (ai (a4 (ai (fun _=>Or.inl rfl) (ai nof (Or.inl rfl)))) (ai (by exact (ai rfl (ai (ai rfl (fun _ _=>rfl)) (ai (ai rfl (fun _ _=>rfl)) (ai rfl (fun _ _=>rfl)))))) (ai trivial (ai (ho) ?_)))))))
 refine ei _ (ai (agz) (ei (c) (ei [] (ai (a4 (ai (fun _=>Or.inl rfl) (ai nof (Or.inl rfl)))) (ai (by exact (ai rfl (ai (ai rfl (fun _ _=>rfl)) (ai (ai rfl (fun _ _=>rfl)) (ai rfl (fun _ _=>rfl)))))) (ai trivial (ai (ho) ?_)))))))
 refine ei _ (ai (aag) (ei (c) (ei [] (ai (a4 (ai (fun _=>Or.inl rfl) (ai nof (Or.inl rfl)))) (ai (by exact (ai rfl (ai (ai rfl (fun _ _=>rfl)) (ai (ai rfl (fun _ _=>rfl)) (ai rfl (fun _ _=>rfl)))))) (ai trivial (ai (hf) ?_)))))))
 refine ei _ (ai (aoG) (ei (c) (ei [] (ai (a4 (ai (fun _=>Or.inl rfl) (ai nof (Or.inl rfl)))) (ai (by exact (ai rfl (ai (ai rfl (fun _ _=>rfl)) (ai (ai rfl (fun _ _=>rfl)) (ai rfl (fun _ _=>rfl)))))) (ai trivial (ai (ho) ?_)))))))
 refine ei _ (ai (amy) (ei (c) (ei [] (ai (a4 (ai (fun _=>Or.inl rfl) (ai nof (Or.inl rfl)))) (ai (by exact (ai rfl (ai (ai rfl (fun _ _=>rfl)) (ai (ai rfl (fun _ _=>rfl)) (ai rfl (fun _ _=>rfl)))))) (ai trivial (ai (ho) ?_)))))))
 refine ei _ (ai (acJ) (ei (()) (ei [] (ai (a4 (ai (fun _=>Or.inl rfl) (ai nof (Or.inr rfl)))) (ai (by exact trivial) (ai trivial (ai (trivial) ?_)))))))
 refine ei _ (ai (ab2) (ei ((iy (eH c),iy (eH c))) (ei [] (ai (a4 (ai (fun _=>Or.inl rfl) (ai nof (Or.inl rfl)))) (ai (by exact (ai (ai rfl (fun _ _=>rfl)) (ai rfl (fun _ _=>rfl)))) (ai trivial (ai (akk) ?_)))))))
 refine aZ (b:=true) (by exact decide_eq_true rfl) (fun _=>?_) (fun h=>absurd h (by decide))
 refine aZ (b:=true) (by exact beq_self_eq_true (jP c)) (fun _=>?_) (fun h=>absurd h (by decide))
 refine ei _ (ai (alF) (ei ((qz c,qz c)) (ei [] (ai (a4 (ai (fun _=>Or.inl rfl) (ai nof (Or.inl rfl)))) (ai (by exact (ai (ai rfl (fun _ _=>rfl)) (ai rfl (fun _ _=>rfl)))) (ai trivial (ai (ajx c ho) ?_)))))))
 refine aZ (b:=true) (by exact decide_eq_true rfl) (fun _=>?_) (fun h=>absurd h (by decide))
 refine ai (ai (fun _=>trivial) ?_) trivial
 show ak _ (bP true)
 rw[(beq_self_eq_true (jP c)).symm]
 exact rfl
end Go.Sx.Pe
namespace Go.Sx.Pe
open Go Go.Proofs Go.Sx.Pn Go.ChangeShapes Go.WideShapes Go.ChangeAt Go.RowKit Go.Deep Go.Lib
theorem akn {H:Type} {enc:TypeId×Value→H} {P:Program} {f:Func} {s:ChangeSpec} {S:List TypeId} (hS:Closed P S) {tb:TypeId} (hb:P.underlying tb=some .bool) (hres:f.resultTypes=#[tb])
  {W W':World} {args:Array Value} {ds:List (DataW H)} {before:List MemPlace} (hW:DataW.Whole enc P f.params.toList s.vars false W args.toList ds [] before) (hv:s.vars=[])
  (hA:DataW.TrodAll enc P W 0 (fun _=>true) true f.params.toList args.toList ds before) (hts:∀t∈f.params.toList,t∈S) (hfn:s.fn H (ds++[])={ results:=[.lit (.bool true)],args:=ds,vars:=[] }) (hg:Below W.heap.size W W') :
  s.post enc P f false true false false W args (.bool true) W':=by
 have hlt:=hW.lt
 have hold:∀p∈before,(fun b=>decide (b<W.heap.size)) p.block=true:=fun p hp=>by simpa using hlt p hp
 have hargs:∀sp:Nat→Bool,(∀p∈before,sp p.block=true)→DataW.TrodAll enc P W' 0 sp true f.params.toList args.toList ds before:=fun sp hsp=>zf hS hg.block hts hA hsp
 have hrt:(Value.bool true).resultList f.resultTypes.size=[.bool true]:=by rw[hres];rfl
 have hr:∀(b:Nat) (sp:Nat→Bool) (hd:Bool),DataW.TrodAll enc P W' b sp hd f.resultTypes.toList ((Value.bool true).resultList f.resultTypes.size) [.lit (.bool true)] []:=fun b sp hd=>by
  rw[hrt,hres];exact trodAll_cons_mk (shut_bool hb true) trodAll_mk0
 refine ⟨ds,[],before,[],before,[],hW,by rw[hfn];exact hr _ _ _,by rw[hfn];exact hargs _ hold,by rw[hfn,hv];rfl,World.keptBut_mono (fun p hp=>⟨hp,.inr (.inl hp)⟩) (hg.frame (·∈before)),fun h=>by cases h⟩
theorem an2:ownKnob Tryz.prog.godebug=none:=by kernel_rfl
theorem aom {d1 d2 d4 d5:DataW Unit} {n1 n2 n4 n5:String} {W:World} (h:laidMet Tryz.prog [(n1,d1),(n2,d2),("internal/strconv.uint64pow10",Go.Proofs.YteenedbiifampaaGreatDoor.Rows.laid_internal_strconv_uint64pow10),(n4,d4),(n5,d5)] W):∀p∈glP,fO W p.1=some p.2:=by
 have h3:TabIs Tryz.prog W "internal/strconv.uint64pow10" .u64 Lib.pow10Tab:=
  tabIs_of_head (rest:=[(n4,d4),(n5,d5)]) (show Tryz.prog.globalNamed "internal/strconv.uint64pow10"=some 0 by kernel_rfl) (show (Tryz.prog.globals[0]?).map (·.type)=some 275 by kernel_rfl) Tryz.underlying275 Tryz.underlying252 (by kernel_rfl) (by kernel_rfl) (laidMet.tail (laidMet.tail h))
 intro p hp
 rw[agp.1 hp]
 have h4:World.var? Tryz.prog W "internal/strconv.uint64pow10"=some p10:=h3
 unfold World.var? at h4
 rw[show Tryz.prog.globalNamed "internal/strconv.uint64pow10"=some 0 by kernel_rfl] at h4
 exact h4
def ae4 (vs:List Value):Obj→Obj
 | .cells _ t frozen=>.cells vs.toArray t frozen
 | o=>o
def u8s (l:List Nat):List Value:=l.map fun n:Nat=>Value.int .u8 (n:Int)
noncomputable def zh (os:Os):World:=
 { World.holding Tryz.prog os ⟨#[],#[],[]⟩ with heap:=((((((World.holding Tryz.prog os ⟨#[],#[],[]⟩).heap.modify 2 (ae4 (u8s Lib.deBruijn32tab))).modify 3 (ae4 (u8s Lib.deBruijn64tab))).modify 0 (ae4 p10.toList)).modify 5 (ae4 (u8s ([128,191,160,191,128,159,144,191,128,143]++List.replicate 22 0)))).modify 4 (ae4 (u8s Go.Pinned.utf8FirstZ))) }
theorem aoh {E:Env} {v:Value} {d d':PV} (h:aJ E v (.p false d)) (e:gF d d'):aJ E v (.p false d'):=by
 cases h with | p _ _ _ hp=>exact .p _ _ _ (qP e hp)
theorem lV {P:Program} {t:TypeId} {fs:Array Field} {n:Nat} {l:List PV} {ts:List TypeId} (hu:P.underlying t=some (.struct fs)) (hts:fs.toList.map (·.type)=ts) (h:Shape P n t l) :
  ∃(n':Nat) (ls:List (List PV)),n=n'+1∧l=ls.flatten∧ag0 P n' ts ls:=by
 cases n with
 | zero=>exact h.elim
 | succ n=>
  unfold Shape at h;rw[hu] at h
  obtain ⟨ls,rfl,h1,h2⟩:=h
  refine ⟨n,ls,rfl,rfl,aeb ts ls (by rw[h1,←hts];simp) fun i t x ht hx=>?_⟩
  subst hts
  simp only[aiL,aej,arM] at ht
  obtain ⟨f,hf,rfl⟩:=ht
  exact h2 i f x hf hx
theorem ze {P:Program} {t e:TypeId} {n:Nat} {l:List PV} (hu:P.underlying t=some (.slice e)) (h:Shape P n t l):∃(n' m:Nat) (f:Nat→List PV),n=n'+1∧l=[.seq m f]∧∀j,j<m→Shape P n' e (f j):=by
 cases n with
 | zero=>exact h.elim
 | succ n=>unfold Shape at h;rw[hu] at h;obtain ⟨m,f,h1,h2,h3⟩:=h;exact ⟨n,m,f,rfl,h2,h3⟩
theorem aee {α:Type} (d:α) {g:α→List PV} {m:Nat} {f:Nat→List PV} (h:∀j,j<m→∃x,bJ (f j) (g x)):∃L:List α,L.length=m∧∀j,j<m→bJ (f j) (g (L.getD j d)):=by
 have h1:∀j,∃x:α,j<m→bJ (f j) (g x):=fun j=>by
  by_cases hj:j<m
  ·obtain ⟨x,hx⟩:=h j hj;exact ⟨x,fun _=>hx⟩
  ·exact ⟨d,fun h=>absurd h hj⟩
 obtain ⟨c,hc⟩:=Classical.axiomOfChoice h1
 refine ⟨(List.range m).map c,by simp,fun j hj=>?_⟩
 have:((List.range m).map c).getD j d=c j:=by simp[aaK,hj]
 rw[this];exact hc j hj
theorem oV {α:Type} (d:α) {g:α→List PV} {P:Program} {t e:TypeId} {n:Nat} {l:List PV} (hu:P.underlying t=some (.slice e)) (he:∀k x,k<n→Shape P k e x→∃y,bJ x (g y)) (h:Shape P n t l):∃L:List α,bJ l [.seq L.length (fun j=>g (L.getD j d))]:=by
 obtain ⟨n',m,f,rfl,rfl,hf⟩:=ze hu h
 obtain ⟨L,rfl,hL⟩:=aee d fun j hj=>he n' (f j) (Nat.lt_succ_self _) (hf j hj)
 exact ⟨L,abC (gG hL)⟩
theorem qd:∀{a b c d:List PV},bJ a b→bJ c d→bJ (a++c) (b++d)
 | [],[],_,_,_,h=>h
 | x :: a,y :: b,c,d,h,k=>bH (h.2 0 x y rfl rfl) (qd ⟨by simpa using h.1,fun j s s' hs hs'=>h.2 (j+1) s s' hs hs'⟩ k)
 | [],_ :: _,_,_,h,_=>by have:=h.1;simp at this
 | _ :: _,[],_,_,h,_=>by have:=h.1;simp at this
theorem adX {a b c a' b' c':List PV} (h1:bJ a a') (h2:bJ b b') (h3:bJ c c'):bJ [a,b,c].flatten (a'++(b'++c')):=by
 have:[a,b,c].flatten=a++(b++c):=by simp
 rw[this];exact qd h1 (qd h2 h3)
theorem adT {a b a' b':List PV} (h1:bJ a a') (h2:bJ b b'):bJ [a,b].flatten (a'++b'):=by
 have:[a,b].flatten=a++b:=by simp
 rw[this];exact qd h1 h2
theorem ako {a b c d a' b' c' d':List PV} (h1:bJ a a') (h2:bJ b b') (h3:bJ c c') (h4:bJ d d'):bJ [a,b,c,d].flatten (a'++(b'++(c'++d'))):=by
 have:[a,b,c,d].flatten=a++(b++(c++d)):=by simp
 rw[this];exact qd h1 (qd h2 (qd h3 h4))
theorem vL {n:Nat} {l:List PV} (h:Shape Tryz.prog n 3 l):∃m:Int,bJ l [iP m]:=by
 obtain ⟨m,_,rfl⟩:=aly Tryz.underlying3 h
 exact ⟨m,bJ.rfl' _⟩
theorem aoA {n:Nat} {l:List PV} (h:Shape Tryz.prog n 4 l):∃b:Bool,bJ l [bP b]:=by
 obtain ⟨m,rfl⟩:=aiX Tryz.underlying4 h
 exact ⟨m,bJ.rfl' _⟩
theorem ap7 {n:Nat} {l:List PV} (h:Shape Tryz.prog n 9 l):∃s:List UInt8,bJ l [sP s]:=by
 obtain ⟨s,_,rfl⟩:=af9 Tryz.underlying9 h
 refine ⟨s.data.toList,bJ.of ?_⟩
 have:strOf s.data.toList=s:=by cases s;simp[strOf]
 show _=[PV.val (.string (strOf s.data.toList))]
 rw[this]
theorem aiB {n:Nat} {l:List PV} (h:Shape Tryz.prog n 29 l):∃L:List Int,bJ l [lT L]:=oV 0 (g:=fun x=>[iP x]) Tryz.underlying29 (fun _ _ _ h=>vL h) h
theorem aob {n:Nat} {l:List PV} (h:Shape Tryz.prog n 22 l):∃L:List (List UInt8),bJ l [ssP L]:=oV [] (g:=fun x=>[sP x]) Tryz.underlying22 (fun _ _ _ h=>ap7 h) h
theorem aqO {n:Nat} {l:List PV} (h:Shape Tryz.prog n 94 l):∃x:Sk,bJ l (skK x):=by
 obtain ⟨n',ls,rfl,rfl,h2⟩:=lV (ts:=[3,4]) Tryz.underlying94 (by decide) h
 match ls,h2 with
 | [a,b],⟨ha,hb,_⟩=>
  obtain ⟨x,hx⟩:=vL ha
  obtain ⟨y,hy⟩:=aoA hb
  exact ⟨(x,y),adT hx hy⟩
theorem apL {n:Nat} {l:List PV} (h:Shape Tryz.prog n 87 l):∃L:List Sk,bJ l [yY L]:=oV bI (g:=skK) Tryz.underlying87 (fun _ _ _ h=>aqO h) h
theorem ap5 {n:Nat} {l:List PV} (h:Shape Tryz.prog n 108 l):∃x:Stp,bJ l (stK x):=by
 obtain ⟨n',ls,rfl,rfl,h2⟩:=lV (ts:=[87,3]) Tryz.underlying108 (by decide) h
 match ls,h2 with
 | [a,b],⟨ha,hb,_⟩=>
  obtain ⟨x,hx⟩:=apL ha
  obtain ⟨y,hy⟩:=vL hb
  exact ⟨⟨x,y⟩,adT hx hy⟩
theorem aoM {n:Nat} {l:List PV} (h:Shape Tryz.prog n 23 l):∃L:List Stp,bJ l [ajE L]:=oV st0 (g:=stK) Tryz.underlying23 (fun _ _ _ h=>ap5 h) h
theorem aeN {d:PV} {n:Nat} {f g:Nat→List PV} (h:gF d (.seq n f)) (e:∀k,k<n→f k=g k):gF d (.seq n g):=by
 cases h with
 | refl=>exact gG fun k hk=>bJ.of (e k hk)
 | nil=>exact .nil _
 | seq _ f0 _ hl he=>exact .seq n f0 g (fun j hj=>by rw[←e j hj];exact hl j hj) fun j k s s' hj hs hs'=>he j k s s' hj hs (by rw[e j hj];exact hs')
theorem alP {L:List Ex} {j:Nat} {x:List PV} (h:bJ x (xK (L.getD j dQ))):bJ x (exF L j):=by
 match x,h with
 | [p,q,r],⟨hl,h⟩=>
  refine bH (h 0 _ _ rfl rfl) (bH (h 1 _ _ rfl rfl) (abC ?_))
  exact aeN (h 2 _ _ rfl rfl) fun k hk=>aja _ k hk
 | [],⟨hl,_⟩=>simp[xK] at hl
 | [_],⟨hl,_⟩=>simp[xK] at hl
 | [_,_],⟨hl,_⟩=>simp[xK] at hl
 | _ :: _ :: _ :: _ :: _,⟨hl,_⟩=>simp[xK] at hl
theorem aqK:∀(n:Nat) (l:List PV),Shape Tryz.prog n 79 l→∃x:Ex,bJ l (xK x):=by
 intro n
 induction n using Nat.strongRecOn with
 | _ n ih=>
  intro l h
  obtain ⟨n',ls,rfl,rfl,h2⟩:=lV (ts:=[3,3,77]) Tryz.underlying79 (by decide) h
  match ls,h2 with
  | [a,b,c],⟨ha,hb,hc,_⟩=>
   obtain ⟨x,hx⟩:=vL ha
   obtain ⟨y,hy⟩:=vL hb
   obtain ⟨n2,m,f,rfl,rfl,hf⟩:=ze Tryz.underlying77 hc
   obtain ⟨L,rfl,hL⟩:=aee dQ fun j hj=>ih n2 (by omega) (f j) (hf j hj)
   refine ⟨.node x y L,adX hx hy (abC (gG fun j hj=>?_))⟩
   exact alP (hL j hj)
theorem ao8 {n:Nat} {l:List PV} (h:Shape Tryz.prog n 81 l):∃x:jA,bJ l (trK x):=by
 obtain ⟨n',ls,rfl,rfl,h2⟩:=lV (ts:=[29,29,79]) Tryz.underlying81 (by decide) h
 match ls,h2 with
 | [a,b,c],⟨ha,hb,hc,_⟩=>
  obtain ⟨x,hx⟩:=aiB ha
  obtain ⟨y,hy⟩:=aiB hb
  obtain ⟨z,hz⟩:=aqK _ _ hc
  exact ⟨⟨x,y,z⟩,adX hx hy hz⟩
theorem anP {n:Nat} {l:List PV} (h:Shape Tryz.prog n 24 l):∃L:List jA,bJ l [amo L]:=oV aM (g:=trK) Tryz.underlying24 (fun _ _ _ h=>ao8 h) h
def ac1:List TypeId:=[3,4,9,29,72,22,94,87,95,41,43,108,23,79,77,81,24,26]
theorem xC:Closed Tryz.prog ac1:=by
 intro t ht
 simp only[ac1,aif,List.mem_nil_iff,or_false] at ht
 rcases ht with rfl | rfl | rfl | rfl | rfl | rfl | rfl | rfl | rfl | rfl | rfl | rfl | rfl | rfl | rfl | rfl | rfl | rfl<;>kernel_rfl
section
variable {w : World} {r : Reach} {b : Nat} {v : Value} {n : Nat} {l : List PV}
theorem ak3 (hv:Value.okWide Tryz.prog w r b 26 v) (hs:Shape Tryz.prog n 26 l) (hr:Rel (fO w) v.cells.toList l):∃c:aS,aJ (E0 w) v (jy c):=by
 obtain ⟨cs,hc⟩:=ajW Tryz.underlying26 hv
 have hS:=aqn hc hr
 obtain ⟨n',ls,rfl,rfl,h2⟩:=lV (ts:=[3,22,23,24]) Tryz.underlying26 (by decide) hs
 match ls,h2 with
 | [a,b,c,d],⟨ha,hb,hc,hd,_⟩=>
  obtain ⟨x,hx⟩:=vL ha
  obtain ⟨y,hy⟩:=aob hb
  obtain ⟨z,hz⟩:=aoM hc
  obtain ⟨u,hu⟩:=anP hd
  exact ⟨⟨x,y,z,u⟩,aoh hS (vD (ako hx hy hz hu))⟩
end
end Go.Sx.Pe
namespace Go.Proofs.YteenedbiifampaaGreatDoor.chartReaches
open Go.ChangeShapes Go.WideShapes Go.ChangeAt Go.RowKit Go.Joins Go.Deep Go.Sx Go.Sx.Pn Go.Sx.Pe
set_option maxRecDepth 100000 in
theorem contract (H:Type) (enc:TypeId×Value→H) (W:World) (base:Nat) (args:Array Value) (ds gs:List (DataW H)) (before:List MemPlace)
  (hval:∀(j:Nat) t v,Tryz.f6.params[j]?=some t→args[j]?=some v→Value.okWide Tryz.prog W .any base t v)
  (hW:DataW.Whole enc Tryz.prog Tryz.f6.params.toList Rows.chartReachesSpec.vars false W args.toList ds gs before) (hL:laidMetH Tryz.prog Rows.chartReachesRow.laid W) :
  Calls Tryz.prog 6 args W fun e W'=>∃v,e=.returned v∧Rows.chartReachesSpec.post enc Tryz.prog Tryz.f6 false true false false W args v W':=by
 have hW':=hW
 obtain ⟨p,q,hA0,hV,rfl,hfz,hnd⟩:=hW
 obtain ⟨rfl,rfl⟩:=trodVars_none hV
 have hA:DataW.TrodAll enc Tryz.prog W 0 (fun _=>true) true Tryz.f6.params.toList args.toList ds p:=hA0
 have hA1:=hA
 rw[Tryz.params6] at hA hval
 clear hA0
 obtain ⟨v0,vs0,d0,ds0,p0,q0,hargs0,rfl,rfl,⟨fu0,h0⟩,r0⟩:=trodAll_cons hA
 obtain ⟨rfl,rfl,rfl⟩:=trodAll_nil r0
 obtain rfl:args=#[v0]:=by cases args;simp_all
 obtain ⟨l0,s0,e0⟩:=afy xC fu0 26 _ _ (by decide) h0
 obtain ⟨a0,S0⟩:=ak3 (hval 0 _ v0 rfl rfl) s0 e0
 simp only[aqg] at hW' hA1
 refine (agu aho a0 trivial W (aom hL) _ (aiP (vs:=[v0]) (ai S0 trivial))).mono fun e W' ⟨he,hg⟩=>?_
 subst he
 exact ⟨_,rfl,akn xC Tryz.underlying4 (by kernel_rfl) hW' rfl hA1 (by rw[Tryz.params6];decide) rfl hg⟩
theorem laid_met (os:Os):laidMet Tryz.prog Rows.chartReachesRow.laid ((zh os).forCall (fun _ _=>0) ⟨#[],#[.agg #[.int .i64 0,.slice none 0 0,.slice none 0 0,.slice none 0 0]],[]⟩).memory:=
 laidMet_of_run' 8 (by kernel_rfl) (by kernel_rfl)
theorem reads (os:Os) {H:Type} (enc:TypeId×Value→H):∃places,DataW.whole enc Tryz.prog ((zh os).forCall (fun _ _=>0) ⟨#[],#[.agg #[.int .i64 0,.slice none 0 0,.slice none 0 0,.slice none 0 0]],[]⟩).memory Tryz.f6.params.toList Rows.chartReachesSpec.vars false (Array.toList (α:=Value) #[.agg #[.int .i64 0,.slice none 0 0,.slice none 0 0,.slice none 0 0]]) 8=some ([.agg [.lit (.int .i64 0),.nil,.nil,.nil]],[],places):=
 ⟨[],by kernel_rfl⟩
set_option maxRecDepth 100000 in
theorem lifted (os:Os) (started:os.Started) (H:Type) (enc:TypeId×Value→H) (F:Stop.Interp) :
  ReturnsInHanded {} Tryz.checked os 6 .any ((OpenSpec.ofChange Rows.chartReachesSpec).preRow enc Tryz.prog Tryz.f6 Rows.chartReachesRow.domain false Rows.chartReachesRow.laid) (((OpenSpec.ofChange Rows.chartReachesSpec).at F).post enc Tryz.prog Tryz.f6 false true false false):=by
 obtain ⟨places,hx⟩:=reads os enc
 refine returnsInHanded_of_row (C:=Tryz.checked) (s:=OpenSpec.ofChange Rows.chartReachesSpec) an2 started (by kernel_rfl) Tryz.func6
  (witness_row_at (enc:=enc) (C:=Tryz.checked) false (zh os) #[.agg #[.int .i64 0,.slice none 0 0,.slice none 0 0,.slice none 0 0]] rfl (by kernel_rfl) (by kernel_rfl) (by kernel_rfl)
   (OpenSpec.preRow_of_cond 8 hx (by kernel_rfl) (fun k hk=>by cases hk) (by kernel_rfl) (laid_met os))) ?_
 intro W base args ds gs before hval hW _ _ _ hL _ _
 exact contract H enc W base args ds gs before hval hW hL
theorem facts:joinedFacts Tryz.pinned.checked.prog 6 Tryz.f6 (OpenSpec.ofChange Rows.chartReachesSpec).bare Rows.chartReachesRow=true:=by kernel_rfl
theorem named:Tryz.pinned.checked.prog.funcNamed Rows.chartReachesRow.func=some 6:=by kernel_rfl
theorem inst:Tryz.f6.isInstance Tryz.pinned.checked.prog Rows.chartReachesRow.origin Rows.chartReachesRow.targs:=of_decide_eq_true (by kernel_rfl)
theorem wrap:Tryz.f6.isWrapper Tryz.pinned.checked.prog Rows.chartReachesRow.wrapper Rows.chartReachesRow.mainSum:=by unfold Func.isWrapper;first | (rw[if_pos (by decide +kernel)];kernel_rfl) | (rw[if_neg (by decide +kernel)];exact ⟨rfl,rfl⟩)
theorem said:Rows.ChartReachesSaid:=
 OpenClaim.holds_of_cond 6 Tryz.f6 rfl rfl rfl rfl rfl rfl rfl ⟨rfl,rfl,rfl,rfl,rfl⟩ rfl rfl rfl rfl rfl named Tryz.func6 facts inst wrap
  (fun os started H enc _ F=>by rw[OpenClaim.pre_eq_preRow];exact lifted os started H enc F)
theorem plain (f:FuncId) (fn:Func) (hf:Tryz.pinned.checked.prog.funcNamed "pneumatic/pneumaticlaw35.ChartReaches"=some f) (hfn:Tryz.pinned.checked.prog.funcs[f]?=some fn) :
  false=Tryz.pinned.checked.prog.looks []∧∀(j:Nat) t,fn.params[j]?=some t→Tryz.pinned.checked.prog.wantsStandIn t=false:=by
 obtain rfl:f=6:=Option.some.inj ((show Tryz.prog.funcNamed "pneumatic/pneumaticlaw35.ChartReaches"=some 6 by kernel_rfl).symm.trans hf) |>.symm
 obtain rfl:fn=Tryz.f6:=(Option.some.inj (Tryz.func6.symm.trans hfn)).symm
 refine ⟨by kernel_rfl,fun j t ht=>?_⟩
 rw[Tryz.params6] at ht
 have hm:∀t∈#[26],Tryz.prog.wantsStandIn t=false:=by decide +kernel
 exact hm t (ar2 ht)
theorem card:Rows.ChartReachesCardSaid:=
 Claim7.holds_tied_plain_at .later [] _ _ _ _ said (fun _ h=>by cases h) (by kernel_rfl) (fun _ h=>by cases h) chartReaches_row_tie rfl ⟨rfl,rfl⟩ (by kernel_rfl) rfl plain (by kernel_rfl)
end Go.Proofs.YteenedbiifampaaGreatDoor.chartReaches
