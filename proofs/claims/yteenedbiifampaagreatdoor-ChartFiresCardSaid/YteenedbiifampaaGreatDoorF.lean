/- The card of ChartFires: for every input the law answers true, and its arguments read as they did. -/
import Derived.Test.YteenedbiifampaaGreatDoorF6
set_option maxHeartbeats 1000000
set_option maxRecDepth 4000
set_option linter.unusedSimpArgs false
set_option linter.unusedVariables false
set_option linter.unusedSectionVars false
namespace Go.Sx.Pe
open Go Go.Proofs Go.Sx.Pn
set_option maxHeartbeats 4000000 in
theorem adu:aG Tryz.prog 24 (fnG (fun c:aN=>[iJ c]) apg vS):=by
 refine jC [78,81,84] ?_
 refine aU (Tb:=tab) mixed ay Tryz.func24 rfl rfl ?_
 rintro (c:aN) hpre
 refine ai (ai rfl (ai rfl rfl)) ?_
 obtain ⟨ho,h40⟩:=hpre
 have ho:fC c:=ho
 refine ei _ (ai (ahK) (ei (c) (ei [] (ai (a4 (ai (fun _=>Or.inl rfl) (ai nof (Or.inl rfl)))) (ai (by exact (ai rfl (ai (ai rfl (fun _ _=>rfl)) (ai (ai rfl (fun _ _=>rfl)) (ai rfl (fun _ _=>rfl)))))) (ai trivial (ai (ho) ?_)))))))
 refine aZ (p:=bE c=0) (bI (by omega)) (fun h1=>?_) (fun h1=>?_)
 ·refine ai (ai (fun _=>(by exact (ai trivial trivial))) ?_) trivial
  show ak _ (vS c)
  rw[vS,if_neg h1]
  exact (ai rfl rfl)
 have hc:bE c=0:=h1
 have h40:∀t∈c.trs,t.wh.size≤120∧abN t.wh:=h40 hc
 obtain ⟨_,_,hs24,ht32,_⟩:=dW hc
 refine ei (bg.inv { X:=Nat,up:=fun k=>[(24,.s (iA k))],uo:=fun k=>[⟨1,143,[.s (as8 k),.rw 5 1 (bO c.sts k).length (aeo (bO c.sts k))]⟩],inv:=fun k=>k≤c.sts.length∧(True),meas:=fun k=>c.sts.length-k,x0:=0 }) ?_
 refine ai (ai (ai (by exact (a4 (ai rfl rfl))) (ai ?_ ?_)) rfl) (ai (ai (aeT _) ?_) ?_)
 ·exact (ai (ai (fun _=>rfl) (iE (by simp only[zz,reduceCtorEq];rfl))) rfl)
 ·exact (ai (ai (ai (ai (fun _=>rfl) rfl) rfl) rfl) trivial)
 ·trivial
 intro (k:Nat) ⟨hk,_⟩
 have hL:=ahs hc hk
 cases k with
 | zero=>
  refine ah (p:=(0:Nat)<c.sts.length) (au (by omega)) (fun h2=>?_) (fun h2=>?_)
  ·refine ai (ai (abw _) (iN (n:=c.sts.length) (by omega))) (ai rfl ?_)
   have hd:=wP (n:=(0:Nat)) (by omega)
   have hh:=adO (k:=(0:Nat)) (by omega)
   obtain ⟨g1,g2,g3,g4⟩:=agC hc h2
   refine ei _ (ai (xq) (ei ((0:Nat)) (ei [] (ai (a4 (ai (fun _=>Or.inl rfl) (ai nof (Or.inl rfl)))) (ai (by exact rfl) (ai trivial (ai ((by show (0:Nat)<100;omega)) ?_)))))))
   refine ai (qM (l:=stepW) (m:=dec ((0:Nat))) rfl rfl (by show 5+_≤_;omega)) (ai (qM (l:=stepW++dec ((0:Nat))) (m:=[58]) (eU _ _) rfl (by rw[abg];show 5+_+1≤_;omega)) ?_)
   refine eX (uD) ((false,[],bO c.sts ((0:Nat)),gQ ((0:Nat)))) [1,2] (a4 (ai rfl rfl)) (Or.inl rfl) ?_ (by exact (ai (ai rfl (ai rfl rfl)) (ai rfl (ai rfl (ai rfl (fun _ _=>rfl)))))) (⟨by show (bO c.sts ((0:Nat))).length≤1000000;omega,by show (gQ ((0:Nat))).length≤1000000;omega⟩) ?_
   ·exact (ai (ai rfl rfl) rfl)
   refine ei (bg.inv { X:=Nat,up:=fun j=>[(37,.s (iA j))],uo:=fun j=>[⟨1,143,[.s (.own 1 0),.rw 5 1 ((bO c.sts ((0:Nat))++gQ ((0:Nat)))++jd ((c.sts.getD ((0:Nat)) st0).st.take j)).length (aeo ((bO c.sts ((0:Nat))++gQ ((0:Nat)))++jd ((c.sts.getD ((0:Nat)) st0).st.take j)))]⟩],inv:=fun j=>j≤(c.sts.getD ((0:Nat)) st0).st.length∧(True),meas:=fun j=>(c.sts.getD ((0:Nat)) st0).st.length-j,x0:=0 }) ?_
   refine ai (ai (ai (by exact (a4 (ai rfl rfl))) (ai ?_ ?_)) rfl) (ai (ai (aeT _) ?_) ?_)
   ·exact (ai (ai (fun _=>rfl) (iE (by simp only[zz,reduceCtorEq];rfl))) rfl)
   ·refine (ai (ai (ai (ai rfl rfl) rfl) (ai rfl (ai rfl (ai ?_ ?_)))) trivial)
    ·show (bO c.sts ((0:Nat))++gQ ((0:Nat))).length=((bO c.sts ((0:Nat))++gQ ((0:Nat)))++[]).length
     rw[aqH]
    ·exact mD (by show _=_++[];rw[aqH])
   ·trivial
   intro (j:Nat) ⟨hj,_⟩
   have hT:=ad1 ((c.sts.getD ((0:Nat)) st0).st.take j)
   rw[aja] at hT
   refine ah (p:=j<(c.sts.getD ((0:Nat)) st0).st.length) (by simp only[zz,reduceCtorEq];omega) (fun h3=>?_) (fun h3=>?_)
   ·refine ai (ai (abw _) (iN (n:=(c.sts.getD ((0:Nat)) st0).st.length) (by omega))) (ai rfl ?_)
    have hw:(om ((c.sts.getD ((0:Nat)) st0).st.getD j bB)).length=2:=rfl
    refine ei _ (ai (agK) (ei ((c.sts.getD ((0:Nat)) st0).st.getD j bB) (ei [] (ai (a4 (ai (fun _=>Or.inl rfl) (ai nof (Or.inl rfl)))) (ai (by exact (ai (iE (by simp only[zz,reduceCtorEq])) rfl)) (ai trivial (ai (wM g2 h3) ?_)))))))
    refine ai (qM (l:=[32]) (m:=om ((c.sts.getD ((0:Nat)) st0).st.getD j bB)) rfl rfl (by rw[hw];decide)) ?_
    refine eX (uD) ((true,[],(bO c.sts ((0:Nat))++gQ ((0:Nat)))++jd ((c.sts.getD ((0:Nat)) st0).st.take j),[32]++om ((c.sts.getD ((0:Nat)) st0).st.getD j bB))) [1,5] (a4 (ai rfl rfl)) (Or.inl rfl) ?_ (by exact (ai (ai rfl (ai (ai rfl rfl) rfl)) (ai rfl (ai rfl (ai rfl (fun _ _=>rfl)))))) (⟨by show ((bO c.sts ((0:Nat))++gQ ((0:Nat)))++jd ((c.sts.getD ((0:Nat)) st0).st.take j)).length≤1000000;simp only[abg,ai6,aox];omega,by show ([32]++om ((c.sts.getD ((0:Nat)) st0).st.getD j bB)).length≤1000000;rw[abg,hw];decide⟩) ?_
    ·exact (ai (ai rfl rfl) rfl)
    have eN:((bO c.sts ((0:Nat))++gQ ((0:Nat)))++jd ((c.sts.getD ((0:Nat)) st0).st.take j))++([32]++om ((c.sts.getD ((0:Nat)) st0).st.getD j bB))=(bO c.sts ((0:Nat))++gQ ((0:Nat)))++jd ((c.sts.getD ((0:Nat)) st0).st.take (j+1)):=by
     rw[aM bB h3]
     unfold jd
     rw[List.flatMap_append]
     simp
    refine ei (j+1) (ai (ai rfl rfl) (ai (ai (ai rfl (ai (ai rfl rfl) (ai (ai rfl rfl) (ai (ai (ai (fun _=>rfl) (aH (by omega))) rfl) (ai (ai (ai (ai rfl rfl) rfl) (ai rfl (ai rfl (ai ?_ ?_)))) trivial))))) rfl) (ai (ai (iL (by omega)) trivial) (iM (by omega)))))
    ·exact congrArg List.length eN
    ·exact mD eN
   obtain rfl:j=(c.sts.getD ((0:Nat)) st0).st.length:=by omega
   have et:(c.sts.getD ((0:Nat)) st0).st.take (c.sts.getD ((0:Nat)) st0).st.length=(c.sts.getD ((0:Nat)) st0).st:=af0
   rw[et] at hT
   refine ah (p:=0<(c.sts.getD ((0:Nat)) st0).wt) (au Iff.rfl) (fun h4=>?_) (fun h4=>?_)
   ·obtain ⟨w,hw⟩:∃w:Nat,(c.sts.getD ((0:Nat)) st0).wt=(w:Int):=⟨(c.sts.getD ((0:Nat)) st0).wt.toNat,by omega⟩
    have hd7:=abL (n:=w) (by omega)
    have e0:uQ (c.sts.getD ((0:Nat)) st0).wt=[32]++dec w:=by unfold uQ;rw[if_pos h4,hw];rfl
    refine ei _ (ai (ag1) (ei (w) (ei [] (ai (a4 (ai (fun _=>Or.inl rfl) (ai nof (Or.inr rfl)))) (ai ?_ (ai (by exact trivial) (ai ((by show w≤1000000;omega)) ?_)))))))
    ·exact (iE (by simp only[zz,reduceCtorEq];omega))
    refine ai (qM (l:=[32]) (m:=dec w) rfl rfl (by show 1+_≤_;omega)) ?_
    refine eX (uD) ((true,[],(bO c.sts ((0:Nat))++gQ ((0:Nat)))++jd ((c.sts.getD ((0:Nat)) st0).st.take (c.sts.getD ((0:Nat)) st0).st.length),[32]++dec w)) [1,5] (a4 (ai rfl rfl)) (Or.inl rfl) ?_ (by exact (ai (ai rfl (ai (ai rfl rfl) rfl)) (ai rfl (ai rfl (ai rfl (fun _ _=>rfl)))))) (⟨by show ((bO c.sts ((0:Nat))++gQ ((0:Nat)))++jd ((c.sts.getD ((0:Nat)) st0).st.take (c.sts.getD ((0:Nat)) st0).st.length)).length≤1000000;rw[et];simp only[abg,ai6,aox];omega,by show ([32]++dec w).length≤1000000;rw[abg];show 1+_≤_;omega⟩) ?_
    ·exact (ai (ai rfl rfl) rfl)
    refine eX (acA) ((true,[],((bO c.sts ((0:Nat))++gQ ((0:Nat)))++jd ((c.sts.getD ((0:Nat)) st0).st.take (c.sts.getD ((0:Nat)) st0).st.length))++([32]++dec w),10)) [1,6] (a4 (ai rfl rfl)) (Or.inl rfl) (by exact (ai (ai rfl rfl) (iE (by simp only[zz,reduceCtorEq];rfl)))) (by exact (ai (ai rfl (ai (ai rfl rfl) rfl)) (ai rfl (ai rfl (ai rfl (fun _ _=>rfl)))))) ((by show (((bO c.sts ((0:Nat))++gQ ((0:Nat)))++jd ((c.sts.getD ((0:Nat)) st0).st.take (c.sts.getD ((0:Nat)) st0).st.length))++([32]++dec w)).length≤1000000;rw[et];simp only[abg,ai6,aox];omega)) ?_
    have eN:(((bO c.sts ((0:Nat))++gQ ((0:Nat)))++jd ((c.sts.getD ((0:Nat)) st0).st.take (c.sts.getD ((0:Nat)) st0).st.length))++([32]++dec w))++[10]=bO c.sts ((0:Nat)+1):=by
     show _=bO c.sts ((0:Nat))++((((gQ ((0:Nat))++jd (c.sts.getD ((0:Nat)) st0).st)++uQ (c.sts.getD ((0:Nat)) st0).wt))++[10])
     rw[et,e0]
     simp only[atu]
    refine ei (((0:Nat))+1) (ai (ai rfl rfl) (ai (ai (ai rfl (ai (ai rfl rfl) (ai (ai rfl rfl) (ai (ai (ai (fun _=>rfl) (aH (by omega))) rfl) (ai (ai (ai (ai rfl rfl) rfl) (ai rfl (ai rfl (ai ?_ ?_)))) trivial))))) rfl) (ai (ai (iL (by omega)) trivial) (iM (by omega)))))
    ·exact congrArg List.length eN
    ·exact mD eN
   ·have e0:uQ (c.sts.getD ((0:Nat)) st0).wt=[]:=by unfold uQ;rw[if_neg h4]
    refine eX (acA) ((true,[],(bO c.sts ((0:Nat))++gQ ((0:Nat)))++jd ((c.sts.getD ((0:Nat)) st0).st.take (c.sts.getD ((0:Nat)) st0).st.length),10)) [1,5] (a4 (ai rfl rfl)) (Or.inl rfl) (by exact (ai (ai rfl rfl) (iE (by simp only[zz,reduceCtorEq];rfl)))) (by exact (ai (ai rfl (ai (ai rfl rfl) rfl)) (ai rfl (ai rfl (ai rfl (fun _ _=>rfl)))))) ((by show ((bO c.sts ((0:Nat))++gQ ((0:Nat)))++jd ((c.sts.getD ((0:Nat)) st0).st.take (c.sts.getD ((0:Nat)) st0).st.length)).length≤1000000;rw[et];simp only[abg,ai6,aox];omega)) ?_
    have eN:((bO c.sts ((0:Nat))++gQ ((0:Nat)))++jd ((c.sts.getD ((0:Nat)) st0).st.take (c.sts.getD ((0:Nat)) st0).st.length))++[10]=bO c.sts ((0:Nat)+1):=by
     show _=bO c.sts ((0:Nat))++((((gQ ((0:Nat))++jd (c.sts.getD ((0:Nat)) st0).st)++uQ (c.sts.getD ((0:Nat)) st0).wt))++[10])
     rw[et,e0,aqH]
     simp only[atu]
    refine ei (((0:Nat))+1) (ai (ai rfl rfl) (ai (ai (ai rfl (ai (ai rfl rfl) (ai (ai rfl rfl) (ai (ai (ai (fun _=>rfl) (aH (by omega))) rfl) (ai (ai (ai (ai rfl rfl) rfl) (ai rfl (ai rfl (ai ?_ ?_)))) trivial))))) rfl) (ai (ai (iL (by omega)) trivial) (iM (by omega)))))
    ·exact congrArg List.length eN
    ·exact mD eN
  ·exact absurd hs24.1 (by omega)
 | succ k=>
  refine ah (p:=k+1<c.sts.length) (au (by omega)) (fun h2=>?_) (fun h2=>?_)
  ·refine ai (ai (abw _) (iN (n:=c.sts.length) (by omega))) (ai rfl ?_)
   have hd:=wP (n:=k+1) (by omega)
   have hh:=adO (k:=k+1) (by omega)
   obtain ⟨g1,g2,g3,g4⟩:=agC hc h2
   refine ei _ (ai (xq) (ei (k+1) (ei [] (ai (a4 (ai (fun _=>Or.inl rfl) (ai nof (Or.inl rfl)))) (ai (by exact rfl) (ai trivial (ai ((by show k+1<100;omega)) ?_)))))))
   refine ai (qM (l:=stepW) (m:=dec (k+1)) rfl rfl (by show 5+_≤_;omega)) (ai (qM (l:=stepW++dec (k+1)) (m:=[58]) (eU _ _) rfl (by rw[abg];show 5+_+1≤_;omega)) ?_)
   refine eX (uD) ((true,[],bO c.sts (k+1),gQ (k+1))) [1,2] (a4 (ai rfl rfl)) (Or.inl rfl) ?_ (by exact (ai (ai rfl (ai (ai rfl rfl) rfl)) (ai rfl (ai rfl (ai rfl (fun _ _=>rfl)))))) (⟨by show (bO c.sts (k+1)).length≤1000000;omega,by show (gQ (k+1)).length≤1000000;omega⟩) ?_
   ·exact (ai (ai rfl rfl) rfl)
   refine ei (bg.inv { X:=Nat,up:=fun j=>[(37,.s (iA j))],uo:=fun j=>[⟨1,143,[.s (.own 1 0),.rw 5 1 ((bO c.sts (k+1)++gQ (k+1))++jd ((c.sts.getD (k+1) st0).st.take j)).length (aeo ((bO c.sts (k+1)++gQ (k+1))++jd ((c.sts.getD (k+1) st0).st.take j)))]⟩],inv:=fun j=>j≤(c.sts.getD (k+1) st0).st.length∧(True),meas:=fun j=>(c.sts.getD (k+1) st0).st.length-j,x0:=0 }) ?_
   refine ai (ai (ai (by exact (a4 (ai rfl rfl))) (ai ?_ ?_)) rfl) (ai (ai (aeT _) ?_) ?_)
   ·exact (ai (ai (fun _=>rfl) (iE (by simp only[zz,reduceCtorEq];rfl))) rfl)
   ·refine (ai (ai (ai (ai rfl rfl) rfl) (ai rfl (ai rfl (ai ?_ ?_)))) trivial)
    ·show (bO c.sts (k+1)++gQ (k+1)).length=((bO c.sts (k+1)++gQ (k+1))++[]).length
     rw[aqH]
    ·exact mD (by show _=_++[];rw[aqH])
   ·trivial
   intro (j:Nat) ⟨hj,_⟩
   have hT:=ad1 ((c.sts.getD (k+1) st0).st.take j)
   rw[aja] at hT
   refine ah (p:=j<(c.sts.getD (k+1) st0).st.length) (by simp only[zz,reduceCtorEq];omega) (fun h3=>?_) (fun h3=>?_)
   ·refine ai (ai (abw _) (iN (n:=(c.sts.getD (k+1) st0).st.length) (by omega))) (ai rfl ?_)
    have hw:(om ((c.sts.getD (k+1) st0).st.getD j bB)).length=2:=rfl
    refine ei _ (ai (agK) (ei ((c.sts.getD (k+1) st0).st.getD j bB) (ei [] (ai (a4 (ai (fun _=>Or.inl rfl) (ai nof (Or.inl rfl)))) (ai (by exact (ai (iE (by simp only[zz,reduceCtorEq])) rfl)) (ai trivial (ai (wM g2 h3) ?_)))))))
    refine ai (qM (l:=[32]) (m:=om ((c.sts.getD (k+1) st0).st.getD j bB)) rfl rfl (by rw[hw];decide)) ?_
    refine eX (uD) ((true,[],(bO c.sts (k+1)++gQ (k+1))++jd ((c.sts.getD (k+1) st0).st.take j),[32]++om ((c.sts.getD (k+1) st0).st.getD j bB))) [1,5] (a4 (ai rfl rfl)) (Or.inl rfl) ?_ (by exact (ai (ai rfl (ai (ai rfl rfl) rfl)) (ai rfl (ai rfl (ai rfl (fun _ _=>rfl)))))) (⟨by show ((bO c.sts (k+1)++gQ (k+1))++jd ((c.sts.getD (k+1) st0).st.take j)).length≤1000000;simp only[abg,ai6,aox];omega,by show ([32]++om ((c.sts.getD (k+1) st0).st.getD j bB)).length≤1000000;rw[abg,hw];decide⟩) ?_
    ·exact (ai (ai rfl rfl) rfl)
    have eN:((bO c.sts (k+1)++gQ (k+1))++jd ((c.sts.getD (k+1) st0).st.take j))++([32]++om ((c.sts.getD (k+1) st0).st.getD j bB))=(bO c.sts (k+1)++gQ (k+1))++jd ((c.sts.getD (k+1) st0).st.take (j+1)):=by
     rw[aM bB h3]
     unfold jd
     rw[List.flatMap_append]
     simp
    refine ei (j+1) (ai (ai rfl rfl) (ai (ai (ai rfl (ai (ai rfl rfl) (ai (ai rfl rfl) (ai (ai (ai (fun _=>rfl) (aH (by omega))) rfl) (ai (ai (ai (ai rfl rfl) rfl) (ai rfl (ai rfl (ai ?_ ?_)))) trivial))))) rfl) (ai (ai (iL (by omega)) trivial) (iM (by omega)))))
    ·exact congrArg List.length eN
    ·exact mD eN
   obtain rfl:j=(c.sts.getD (k+1) st0).st.length:=by omega
   have et:(c.sts.getD (k+1) st0).st.take (c.sts.getD (k+1) st0).st.length=(c.sts.getD (k+1) st0).st:=af0
   rw[et] at hT
   refine ah (p:=0<(c.sts.getD (k+1) st0).wt) (au Iff.rfl) (fun h4=>?_) (fun h4=>?_)
   ·obtain ⟨w,hw⟩:∃w:Nat,(c.sts.getD (k+1) st0).wt=(w:Int):=⟨(c.sts.getD (k+1) st0).wt.toNat,by omega⟩
    have hd7:=abL (n:=w) (by omega)
    have e0:uQ (c.sts.getD (k+1) st0).wt=[32]++dec w:=by unfold uQ;rw[if_pos h4,hw];rfl
    refine ei _ (ai (ag1) (ei (w) (ei [] (ai (a4 (ai (fun _=>Or.inl rfl) (ai nof (Or.inr rfl)))) (ai ?_ (ai (by exact trivial) (ai ((by show w≤1000000;omega)) ?_)))))))
    ·exact (iE (by simp only[zz,reduceCtorEq];omega))
    refine ai (qM (l:=[32]) (m:=dec w) rfl rfl (by show 1+_≤_;omega)) ?_
    refine eX (uD) ((true,[],(bO c.sts (k+1)++gQ (k+1))++jd ((c.sts.getD (k+1) st0).st.take (c.sts.getD (k+1) st0).st.length),[32]++dec w)) [1,5] (a4 (ai rfl rfl)) (Or.inl rfl) ?_ (by exact (ai (ai rfl (ai (ai rfl rfl) rfl)) (ai rfl (ai rfl (ai rfl (fun _ _=>rfl)))))) (⟨by show ((bO c.sts (k+1)++gQ (k+1))++jd ((c.sts.getD (k+1) st0).st.take (c.sts.getD (k+1) st0).st.length)).length≤1000000;rw[et];simp only[abg,ai6,aox];omega,by show ([32]++dec w).length≤1000000;rw[abg];show 1+_≤_;omega⟩) ?_
    ·exact (ai (ai rfl rfl) rfl)
    refine eX (acA) ((true,[],((bO c.sts (k+1)++gQ (k+1))++jd ((c.sts.getD (k+1) st0).st.take (c.sts.getD (k+1) st0).st.length))++([32]++dec w),10)) [1,6] (a4 (ai rfl rfl)) (Or.inl rfl) (by exact (ai (ai rfl rfl) (iE (by simp only[zz,reduceCtorEq];rfl)))) (by exact (ai (ai rfl (ai (ai rfl rfl) rfl)) (ai rfl (ai rfl (ai rfl (fun _ _=>rfl)))))) ((by show (((bO c.sts (k+1)++gQ (k+1))++jd ((c.sts.getD (k+1) st0).st.take (c.sts.getD (k+1) st0).st.length))++([32]++dec w)).length≤1000000;rw[et];simp only[abg,ai6,aox];omega)) ?_
    have eN:(((bO c.sts (k+1)++gQ (k+1))++jd ((c.sts.getD (k+1) st0).st.take (c.sts.getD (k+1) st0).st.length))++([32]++dec w))++[10]=bO c.sts (k+1+1):=by
     show _=bO c.sts (k+1)++((((gQ (k+1)++jd (c.sts.getD (k+1) st0).st)++uQ (c.sts.getD (k+1) st0).wt))++[10])
     rw[et,e0]
     simp only[atu]
    refine ei ((k+1)+1) (ai (ai rfl rfl) (ai (ai (ai rfl (ai (ai rfl rfl) (ai (ai rfl rfl) (ai (ai (ai (fun _=>rfl) (aH (by omega))) rfl) (ai (ai (ai (ai rfl rfl) rfl) (ai rfl (ai rfl (ai ?_ ?_)))) trivial))))) rfl) (ai (ai (iL (by omega)) trivial) (iM (by omega)))))
    ·exact congrArg List.length eN
    ·exact mD eN
   ·have e0:uQ (c.sts.getD (k+1) st0).wt=[]:=by unfold uQ;rw[if_neg h4]
    refine eX (acA) ((true,[],(bO c.sts (k+1)++gQ (k+1))++jd ((c.sts.getD (k+1) st0).st.take (c.sts.getD (k+1) st0).st.length),10)) [1,5] (a4 (ai rfl rfl)) (Or.inl rfl) (by exact (ai (ai rfl rfl) (iE (by simp only[zz,reduceCtorEq];rfl)))) (by exact (ai (ai rfl (ai (ai rfl rfl) rfl)) (ai rfl (ai rfl (ai rfl (fun _ _=>rfl)))))) ((by show ((bO c.sts (k+1)++gQ (k+1))++jd ((c.sts.getD (k+1) st0).st.take (c.sts.getD (k+1) st0).st.length)).length≤1000000;rw[et];simp only[abg,ai6,aox];omega)) ?_
    have eN:((bO c.sts (k+1)++gQ (k+1))++jd ((c.sts.getD (k+1) st0).st.take (c.sts.getD (k+1) st0).st.length))++[10]=bO c.sts (k+1+1):=by
     show _=bO c.sts (k+1)++((((gQ (k+1)++jd (c.sts.getD (k+1) st0).st)++uQ (c.sts.getD (k+1) st0).wt))++[10])
     rw[et,e0,aqH]
     simp only[atu]
    refine ei ((k+1)+1) (ai (ai rfl rfl) (ai (ai (ai rfl (ai (ai rfl rfl) (ai (ai rfl rfl) (ai (ai (ai (fun _=>rfl) (aH (by omega))) rfl) (ai (ai (ai (ai rfl rfl) rfl) (ai rfl (ai rfl (ai ?_ ?_)))) trivial))))) rfl) (ai (ai (iL (by omega)) trivial) (iM (by omega)))))
    ·exact congrArg List.length eN
    ·exact mD eN
  ·have hkn:k+1=c.sts.length:=by omega
   refine ei (bg.inv { X:=Nat,up:=fun i=>[(66,.s (iA i))],uo:=fun i=>[⟨1,143,[.s (.own 1 0),.rw 5 1 (bO c.sts (k+1)++nO (dS c) c.trs i).length (aeo (bO c.sts (k+1)++nO (dS c) c.trs i))]⟩],inv:=fun i=>i≤c.trs.length∧(True),meas:=fun i=>c.trs.length-i,x0:=0 }) ?_
   refine ai (ai (ai (by exact (a4 (ai rfl rfl))) (ai ?_ ?_)) rfl) (ai (ai (aeT _) ?_) ?_)
   ·exact (ai (ai (fun _=>rfl) (iE (by simp only[zz,reduceCtorEq];rfl))) rfl)
   ·refine (ai (ai (ai (ai rfl rfl) rfl) (ai rfl (ai rfl (ai ?_ ?_)))) trivial)
    ·show (bO c.sts (k+1)).length=(bO c.sts (k+1)++[]).length
     rw[aqH]
    ·exact mD (by show _=_++[];rw[aqH])
   ·trivial
   intro (i:Nat) ⟨hi,_⟩
   have hM:=ahF hc hi
   refine ah (p:=i<c.trs.length) (au (by omega)) (fun h5=>?_) (fun h5=>?_)
   ·refine ai (ai (abw _) (iN (n:=c.trs.length) (by omega))) (ai rfl ?_)
    obtain ⟨⟨q1,q2⟩,q3,q4,q5⟩:=ajy hc h5
    obtain ⟨⟨p1,p2⟩,p3,p4⟩:=ajg hc h5
    have x1:=xH (jJ hc h5).1.1 (by decide)
    have x2:=xH (jJ hc h5).2.1.1 (by decide)
    refine ei (.seq [0,1,2,3,4,5,6,7,8,9]) (ai (by kernel_rfl) ?_)
    refine ei _ (ai (aqp) (ei (c) (ei [] (ai (a4 (ai (fun _=>Or.inl rfl) (ai nof (Or.inl rfl)))) (ai (by exact (ai rfl (ai (ai rfl (fun _ _=>rfl)) (ai (ai rfl (fun _ _=>rfl)) (ai rfl (fun _ _=>rfl)))))) (ai trivial (ai (an0 hc) ?_)))))))
    refine ei _ (ai (akB) (ei (((c.trs.getD i aD).wh,dS c)) (ei [] (ai (a4 (ai (fun _=>Or.inl rfl) (ai nof (Or.inl rfl)))) (ai (by exact (ai (ai (iE (by simp only[zz,reduceCtorEq])) (ai (iE (by simp only[zz,reduceCtorEq])) (ai rfl (fun _ _=>rfl)))) (ai rfl (fun _ _=>rfl)))) (ai trivial (ai (amT hc h40 h5) ?_)))))))
    refine ei (.one 0 (.one 1 (.one 4 (.one 5 (.one 9 (.one 2 (.one 3 (.one 6 (.one 7 (.one 8 (.one 10 (.one 11 (.wr 12 .done))))))))))))) (ai (by kernel_rfl) ?_)
    refine ei _ (ai (ads) (ei ((c.trs.getD i aD).fr) (ei [] (ai (a4 (ai (fun _=>Or.inl rfl) (ai nof (Or.inl rfl)))) (ai (by exact (ai rfl (fun _ _=>rfl))) (ai trivial (ai (⟨x1,by show (c.trs.getD i aD).fr.length≤1000;omega⟩) ?_)))))))
    refine ai (qM (l:=inT (c.trs.getD i aD).fr) (m:=[32,62,32]) rfl rfl (by show _+3≤_;omega)) ?_
    refine ei _ (ai (ads) (ei ((c.trs.getD i aD).to) (ei [] (ai (a4 (ai (fun _=>Or.inl rfl) (ai nof (Or.inl rfl)))) (ai (by exact (ai rfl (fun _ _=>rfl))) (ai trivial (ai (⟨x2,by show (c.trs.getD i aD).to.length≤1000;omega⟩) ?_)))))))
    have hX2:(strOf (inT (c.trs.getD i aD).fr)++strOf [32,62,32])++strOf (inT (c.trs.getD i aD).to)=strOf ((inT (c.trs.getD i aD).fr++[32,62,32])++inT (c.trs.getD i aD).to):=by rw[eU,eU]
    have hX3:((strOf (inT (c.trs.getD i aD).fr)++strOf [32,62,32])++strOf (inT (c.trs.getD i aD).to))++strOf [58,32]=strOf (((inT (c.trs.getD i aD).fr++[32,62,32])++inT (c.trs.getD i aD).to)++[58,32]):=by rw[hX2,eU]
    have hX4:(((strOf (inT (c.trs.getD i aD).fr)++strOf [32,62,32])++strOf (inT (c.trs.getD i aD).to))++strOf [58,32])++strOf (eF (dS c) (c.trs.getD i aD).wh)=strOf ((((inT (c.trs.getD i aD).fr++[32,62,32])++inT (c.trs.getD i aD).to)++[58,32])++eF (dS c) (c.trs.getD i aD).wh):=by rw[hX3,eU]
    have hX5:((((strOf (inT (c.trs.getD i aD).fr)++strOf [32,62,32])++strOf (inT (c.trs.getD i aD).to))++strOf [58,32])++strOf (eF (dS c) (c.trs.getD i aD).wh))++strOf [10]=strOf (lnT (dS c) (c.trs.getD i aD)):=by rw[hX4,eU];rfl
    refine ai (qM (l:=inT (c.trs.getD i aD).fr++[32,62,32]) (m:=inT (c.trs.getD i aD).to) (eU _ _) rfl (by simp only[abg,ai6,aox];omega)) ?_
    refine ai (qM (l:=(inT (c.trs.getD i aD).fr++[32,62,32])++inT (c.trs.getD i aD).to) (m:=[58,32]) hX2 rfl (by simp only[abg,ai6,aox];omega)) ?_
    refine ai (qM (l:=((inT (c.trs.getD i aD).fr++[32,62,32])++inT (c.trs.getD i aD).to)++[58,32]) (m:=eF (dS c) (c.trs.getD i aD).wh) hX3 rfl (by simp only[abg,ai6,aox];omega)) ?_
    refine ai (qM (l:=(((inT (c.trs.getD i aD).fr++[32,62,32])++inT (c.trs.getD i aD).to)++[58,32])++eF (dS c) (c.trs.getD i aD).wh) (m:=[10]) hX4 rfl (by simp only[abg,ai6,aox];omega)) ?_
    refine eX (uD) ((true,[],bO c.sts (k+1)++nO (dS c) c.trs i,lnT (dS c) (c.trs.getD i aD))) [1,3] (a4 (ai rfl rfl)) (Or.inl rfl) ?_ (by exact (ai (ai rfl (ai (ai rfl rfl) rfl)) (ai rfl (ai rfl (ai rfl (fun _ _=>rfl)))))) (⟨by show (bO c.sts (k+1)++nO (dS c) c.trs i).length≤1000000;rw[abg];omega,by show (lnT (dS c) (c.trs.getD i aD)).length≤1000000;omega⟩) ?_
    ·exact (ai (ai rfl rfl) rfl)
    have eN:(bO c.sts (k+1)++nO (dS c) c.trs i)++lnT (dS c) (c.trs.getD i aD)=bO c.sts (k+1)++nO (dS c) c.trs (i+1):=by rw[nO,atu]
    refine ei (i+1) (ai (ai rfl rfl) (ai (ai (ai rfl (ai (ai rfl rfl) (ai (ai rfl rfl) (ai (ai (ai (fun _=>rfl) (aH (by omega))) rfl) (ai (ai (ai (ai rfl rfl) rfl) (ai rfl (ai rfl (ai ?_ ?_)))) trivial))))) rfl) (ai (ai (iL (by omega)) trivial) (iM (by omega)))))
    ·exact congrArg List.length eN
    ·exact mD eN
   ·obtain rfl:i=c.trs.length:=by omega
    have hne:bO c.sts (k+1)++nO (dS c) c.trs c.trs.length≠[]:=fun e=>by
     have:=congrArg List.length e
     rw[abg,bO,abg] at this
     have h7:0<(lnK k (c.sts.getD k st0)).length:=by unfold lnK;rw[abg];exact Nat.succ_pos _
     have:(bO c.sts k).length+(lnK k (c.sts.getD k st0)).length+(nO (dS c) c.trs c.trs.length).length=0:=this
     omega
    refine aml (ajD 143 2) rfl rfl rfl rfl (bO c.sts (k+1)++nO (dS c) c.trs c.trs.length) rfl hne (fun j _=>rfl) ?_
    have eT:akS c=bO c.sts (k+1)++nO (dS c) c.trs c.trs.length:=by unfold akS;rw[hkn]
    refine ai (ai (fun _=>(by exact (ai trivial trivial))) ?_) trivial
    show ak _ (vS c)
    rw[vS,if_pos hc,hc,eT]
    exact (ai rfl rfl)
def aov:List (Nat×(List Nat→SV))→Nat→List Nat→SV
 | [],_,_=>.any
 | (k,v) :: l,i,ns=>match k.beq i with
  | true=>v ns
  | false=>aov l i ns
def aoQ:List (Nat×List Nat)→Nat→List Nat
 | [],_=>[]
 | (k,v) :: l,i=>match k.beq i with
  | true=>v
  | false=>aoQ l i
def aoG:List (Nat×(List Nat→Ob))→Nat→List Nat→Ob
 | [],_,_=>.cells 0 []
 | (k,v) :: l,i,ns=>match k.beq i with
  | true=>v ns
  | false=>aoG l i ns
def hd0:List Nat→Nat
 | []=>0
 | n :: _=>n
def aam (l:List Int):PV:=.seq l.length (bn 1 (l.map iP))
def agB (fr to:List Int) (x:Ex):List PV:=[aam fr,aam to,iP x.op,iP x.idx,.seq x.args.length (exF x.args)]
def fkE:List PV:=agB [0] [1,2] (pI true)++agB [1,2] [0] (pI true)
def fkF (a:Bool):Nat→List PV:=if a=true then lY (bn 5 fkE) 1 0 [aam [1]] else bn 5 fkE
def jA (a:Bool):PV:=.agg [iP 1,.val (.slice none 0 0),.seq 3 (fun _=>[.val (.slice none 0 0),iP 0]),.seq 2 (fkF a)]
def fkX:SV:=.p true (exP (pI true))
def fkI (l:List Int):SV:=.p false (aam l)
def fkT (fr to:List Int):SV:=.p false (.agg (agB fr to (pI true)))
def fkS:mI where
 l:=[0,1,2,3,4,5,6,7,8,9,10,11]
 own:=[9,11]
 u:=aoQ [(9,[9]),(10,[9]),(11,[11])]
 f:=aov [(0,fun _=>.p false (.seq 3 (fun _=>[.val (.slice none 0 0),iP 0]))),(1,fun _=>fkI [0]),(2,fun _=>fkI [1,2]),(3,fun _=>fkX),(4,fun _=>fkT [0] [1,2]),
  (5,fun _=>fkI [1,2]),(6,fun _=>fkI [0]),(7,fun _=>fkX),(8,fun _=>fkT [1,2] [0]),(9,fun ns=>.row (hd0 ns)),
  (10,fun ns=>.agg [.p true (iP 1),.p true (.val (.slice none 0 0)),.p false (.seq 3 (fun _=>[.val (.slice none 0 0),iP 0])),.row (hd0 ns)]),(11,fun ns=>.own (hd0 ns) 0)]
 ob:=aoG [(9,fun _=>.row 81 5 2 (bn 5 (agB [0] [1,2] (pI true)++agB [1,2] [0] (pI true)))),
  (11,fun _=>.cells 26 [.p true (iP 0),.p true (.val (.slice none 0 0)),.p true (.val (.slice none 0 0)),.p true (.val (.slice none 0 0))])]
theorem akj:aG Tryz.prog 58 (gX (fun a:Bool=>[.p false (bP a)]) (fun _=>True) jA):=by
 refine jC [4000006,4000007,4000008,4000011,4000012,4000020] ?_
 refine aU (Tb:=tab) mixed ay Tryz.func58 rfl rfl ?_
 rintro (a:Bool) hpre
 refine ai (ai rfl (ai rfl rfl)) ?_
 refine ei _ (ai (anE) (ei (true) (ei [] (ai (a4 (ai (fun _=>Or.inl rfl) (ai nof (Or.inl rfl)))) (ai (by exact rfl) (ai trivial (ai (trivial) ?_)))))))
 refine ei (.set fkS (.one 12 .done)) (ai (by kernel_rfl) (ai ?_ ?_))
 ·repeat' (first | exact trivial | refine ai ?_ ?_ | exact aoq.mk rfl rfl rfl rfl | intro s | decide)
 refine ai trivial (ai (ai trivial (ai ?_ trivial)) (ai (ai trivial (ai ?_ trivial)) trivial))
 ·refine aR (b:=a) rfl (fun h=>?_) (fun h=>?_)
  ·refine ai (ai (by decide) (by decide)) (ai (ai (by decide) (by decide)) ?_)
   refine ai (ai (fun h=>absurd (show false=true from h) (by decide)) ?_) trivial
   show ak _ (jA a)
   rw[show jA a=.agg [iP 1,.val (.slice none 0 0),.seq 3 (fun _=>[.val (.slice none 0 0),iP 0]),.seq 2 (lY (bn 5 fkE) 1 0 [aam [1]])] by unfold jA fkF;rw[if_pos h]]
   exact (ai rfl (ai rfl (ai (ai rfl (fun _ _=>rfl)) (ai rfl (fun _ _=>rfl)))))
  ·refine ai (ai (fun h=>absurd (show false=true from h) (by decide)) ?_) trivial
   show ak _ (jA a)
   rw[show jA a=.agg [iP 1,.val (.slice none 0 0),.seq 3 (fun _=>[.val (.slice none 0 0),iP 0]),.seq 2 (bn 5 fkE)] by unfold jA fkF;rw[if_neg (by rw[h];decide)]]
   exact (ai rfl (ai rfl (ai (ai rfl (fun _ _=>rfl)) (ai rfl (fun _ _=>rfl)))))
 ·refine aR (b:=a) rfl (fun h=>?_) (fun h=>?_)
  ·refine ai (ai (by decide) (by decide)) (ai (ai (by decide) (by decide)) ?_)
   refine ai (ai (fun h=>absurd (show false=true from h) (by decide)) ?_) trivial
   show ak _ (jA a)
   rw[show jA a=.agg [iP 1,.val (.slice none 0 0),.seq 3 (fun _=>[.val (.slice none 0 0),iP 0]),.seq 2 (lY (bn 5 fkE) 1 0 [aam [1]])] by unfold jA fkF;rw[if_pos h]]
   exact (ai rfl (ai rfl (ai (ai rfl (fun _ _=>rfl)) (ai rfl (fun _ _=>rfl)))))
  ·refine ai (ai (fun h=>absurd (show false=true from h) (by decide)) ?_) trivial
   show ak _ (jA a)
   rw[show jA a=.agg [iP 1,.val (.slice none 0 0),.seq 3 (fun _=>[.val (.slice none 0 0),iP 0]),.seq 2 (bn 5 fkE)] by unfold jA fkF;rw[if_neg (by rw[h];decide)]]
   exact (ai rfl (ai rfl (ai (ai rfl (fun _ _=>rfl)) (ai rfl (fun _ _=>rfl)))))
def jW (a:Bool):aN:=⟨1,[],[⟨[],0⟩,⟨[],0⟩,⟨[],0⟩],[⟨[0],[1,2],pI true⟩,⟨if a then [1] else [1,2],[0],pI true⟩]⟩
theorem apW (a:Bool):ig (jA a) (vG (jW a)):=by
 refine wQ (bK (.refl _) (bK (.nil _) (bK (gP fun k hk=>?_) (bK (gP fun k hk=>?_) nE))))
 ·match k,hk with
  | 0,_=>exact aep (.nil _) (.refl _)
  | 1,_=>exact aep (.nil _) (.refl _)
  | 2,_=>exact aep (.nil _) (.refl _)
 ·have one:∀x:Int,ig (aam [x]) (iV [x]):=fun x=>gP fun k hk=>by match k,hk with | 0,_=>exact bR.rfl' _
  have two:∀x y:Int,ig (aam [x,y]) (iV [x,y]):=fun x y=>gP fun k hk=>by match k,hk with | 0,_=>exact bR.rfl' _ | 1,_=>exact bR.rfl' _
  match k,hk with
  | 0,_=>cases a<;>exact bK (one 0) (bK (two 1 2) (bR.rfl' _))
  | 1,_=>
   cases a
   ·exact bK (two 1 2) (bK (one 0) (bR.rfl' _))
   ·exact bK (one 1) (bK (one 0) (bR.rfl' _))
theorem ai4:aG Tryz.prog 58 (gX (fun a:Bool=>[.p false (bP a)]) (fun _=>True) (fun a=>vG (jW a))):=aej akj fun a _=>apW a
def three:mO:=⟨2,[⟨[(0,true)],0⟩,⟨[(1,true)],150⟩,⟨[(0,false),(1,false)],0⟩]⟩
def aqJ (n:Int) (b:Bool):PV:=.seq 1 (bn 2 [iP n,bP b])
def uU:PV:=.agg [iP 2,.seq 3 (bn 2 [aqJ 0 true,iP 0,aqJ 1 true,iP 150,.seq 2 (bn 2 [iP 0,bP false,iP 1,bP false]),iP 0])]
theorem amC:aG Tryz.prog 57 (gX (fun _:Unit=>[]) (fun _=>True) (fun _=>uU)):=by
 refine jC [4000002,4000005,4000009,4000011] ?_
 refine aU (Tb:=tab) mixed ay Tryz.func57 rfl rfl ?_
 rintro (u:Unit) hpre
 refine ai (ai rfl (ai rfl rfl)) ?_
 refine ai (ai (fun h=>absurd (show false=true from h) (by decide)) ?_) trivial
 show ak _ (uU)
 rw[show uU=uU from rfl]
 exact (ai rfl (ai rfl (fun _ _=>rfl)))
theorem ano:ig uU (.agg (sqK three)):=by
 refine wQ (bK (.refl _) (bK (gP fun k hk=>?_) nE))
 match k,hk with
 | 0,_=>exact aep (gP fun k hk=>by match k,hk with | 0,_=>exact bR.rfl' _) (.refl _)
 | 1,_=>exact aep (gP fun k hk=>by match k,hk with | 0,_=>exact bR.rfl' _) (.refl _)
 | 2,_=>exact aep (gP fun k hk=>by match k,hk with | 0,_=>exact bR.rfl' _ | 1,_=>exact bR.rfl' _) (.refl _)
theorem anP:aG Tryz.prog 57 (gX (fun _:Unit=>[]) (fun _=>True) (fun _=>.agg (sqK three))):=aej amC fun _ _=>ano
def vrX (n:Int):Ex:=.node 1 n []
def c3:aN:=⟨2,[[115,116,97,114,116]],[⟨[],0⟩,⟨[(0,true)],0⟩,⟨[(1,true)],0⟩,⟨[],150⟩,⟨[(0,false),(1,false)],0⟩],
 [⟨[0],[1],vrX 4⟩,⟨[1],[2],vrX 1⟩,⟨[2],[3],vrX 3⟩,⟨[3],[4],vrX 8⟩,⟨[4],[0],.node 3 0 [vrX 0,vrX 2]⟩]⟩
def anz:List UInt8:=[115,116,101,112,32,48,58,10,115,116,101,112,32,49,58,32,65,43,10,115,116,101,112,32,50,58,32,66,43,10,115,116,101,112,32,51,58,32,49,53,48,10,115,116,101,112,32,52,58,32,65,45,32,66,45,10,48,32,62,32,49,58,32,115,116,97,114,116,10,49,32,62,32,50,58,32,97,49,10,50,32,62,32,51,58,32,98,49,10,51,32,62,32,52,58,32,121,51,10,52,32,62,32,48,58,32,97,48,32,38,32,98,48,10]
theorem aqN:ofC three=c3:=by kernel_rfl
theorem ar4:wC three=0:=by decide +kernel
theorem aqX:bE c3=0:=by decide +kernel
theorem apD:akS c3=anz:=by decide +kernel
theorem arA:nR (mV c3)=[[false,false,false,false,true],[false,false,false,true,false],[false,false,true,false,false],[false,true,false,false,false],[true,false,false,false,false]]:=by decide +kernel
theorem arF:nR (mV (jW false))=[[false,true,true],[true,false,false]]:=by decide +kernel
theorem ex3:uO c3=0:=by decide +kernel
theorem as7:uO (jW false)=0:=by decide +kernel
theorem asS:uO (jW true)=0:=by decide +kernel
theorem arf:sF (jW true)=([0,1,0],true):=by decide +kernel
theorem anA:fC c3∧∀t∈c3.trs,t.wh.size≤120:=by
 refine ⟨⟨fun s hs=>?_,fun t ht=>?_⟩,fun t ht=>?_⟩
 ·have:∀s∈c3.sts,s.st.length≤2:=by decide
  have:=this s hs;omega
 ·have:∀t∈c3.trs,t.fr.length≤2∧t.to.length≤2∧t.wh.size≤10:=by decide +kernel
  have:=this t ht
  exact ⟨by omega,by omega,by omega⟩
 ·have:∀t∈c3.trs,t.wh.size≤10:=by decide +kernel
  have:=this t ht;omega
theorem asQ:∀t∈c3.trs,abN t.wh:=by
 intro t ht
 simp only[c3,ai5,List.mem_nil_iff,or_false] at ht
 rcases ht with rfl | rfl | rfl | rfl | rfl
 ·exact .inl rfl
 ·exact .inl rfl
 ·exact .inl rfl
 ·exact .inl rfl
 ·refine .inr ⟨rfl,fun y hy=>?_⟩
  simp only[ai5,List.mem_nil_iff,or_false,Ex.args] at hy
  rcases hy with rfl | rfl<;>rfl
theorem okF (a:Bool):fC (jW a)∧anc (jW a):=by
 have h1:∀a,∀s∈(jW a).sts,s.st.length≤2:=by decide
 have h2:∀a,∀t∈(jW a).trs,t.fr.length≤2∧t.to.length≤2∧t.wh.size≤10:=by decide +kernel
 refine ⟨⟨fun s hs=>?_,fun t ht=>?_⟩,?_⟩
 ·have:=h1 a s hs;omega
 ·have:=h2 a t ht;exact ⟨by omega,by omega,by omega⟩
 ·cases a<;>exact ⟨by decide,by decide⟩
def mF:List (List Bool):=[[false,true,true],[true,false,false]]
section
variable {z : Int} (hz : z = 0)
include hz
theorem aqi:aG Tryz.prog 18 (gX (fun _:Unit=>[sqA three]) (fun _=>True) (fun _=>.tup [vG c3,iP z])):=
 fF afy three trivial (by show PV.tup [vG (ofC three),iP (wC three)]=_;rw[hz,aqN,ar4])
theorem aqY:aG Tryz.prog 24 (fnG (fun _:Unit=>[iJ c3]) (fun _=>True) (fun _=>.tup [sP anz,iP z])):=by
 have h:aG Tryz.prog 24 (fnG (fun _:Unit=>[iJ c3]) (fun _=>True) (fun _=>vS c3)):=⟨adu.1,fun _ _ E vs w hg hh hA=>adu.2 c3 ⟨anA.1,fun _ t ht=>⟨anA.2 t ht,asQ t ht⟩⟩ E vs w hg hh hA⟩
 have e:vS c3=.tup [sP anz,iP z]:=by unfold vS;rw[if_pos aqX,aqX,apD,hz]
 rw[e] at h;exact h
theorem aq4:aG Tryz.prog 29 (gX (fun _:Unit=>[iJ c3]) (fun _=>True) (fun _=>.tup [bbP [[false,false,false,false,true],[false,false,false,true,false],[false,false,true,false,false],[false,true,false,false,false],[true,false,false,false,false]],iP z])):=
 fF abq c3 anA.1 (by show qZ c3=_;unfold qZ;rw[hz,arA,ex3])
theorem aq2:aG Tryz.prog 29 (gX (fun _:Unit=>[iJ (jW false)]) (fun _=>True) (fun _=>.tup [bbP mF,iP z])):=
 fF abq (jW false) (okF false).1 (by show qZ (jW false)=_;unfold qZ;rw[hz,arF,as7];rfl)
theorem arz:aG Tryz.prog 13 (gX (fun _:Unit=>[iJ (jW true)]) (fun _=>True) (fun _=>.tup [bP false,iV [0,1,0],iP z])):=
 fF aph (jW true) (okF true).1 (by show xu (jW true)=_;unfold xu;rw[if_pos asS,arf,hz];rfl)
end
def rwM:PV:=.seq 2 (bn 1 [.seq 3 (bn 1 [bP false,bP true,bP true]),.seq 3 (bn 1 [bP true,bP false,bP false])])
theorem arj:ig rwM (bbP mF):=gP fun k hk=>by
 match k,hk with
 | 0,_=>exact ach (gP fun k hk=>by match k,hk with | 0,_=>exact bR.rfl' _ | 1,_=>exact bR.rfl' _ | 2,_=>exact bR.rfl' _)
 | 1,_=>exact ach (gP fun k hk=>by match k,hk with | 0,_=>exact bR.rfl' _ | 1,_=>exact bR.rfl' _ | 2,_=>exact bR.rfl' _)
theorem smM:al1 mF:=⟨by decide,fun m hm=>by
 have:∀m∈mF,m.length≤3:=by decide
 have:=this m hm
 omega⟩
theorem aod:aG Tryz.prog 33 (bM (fun _:Unit=>[bbA mF,.p false rwM]) (fun _=>True) (fun _=>bP true)):=
 anv (rW aj5 (mF,mF) smM (by show bP (decide (mF=mF))=_;rw[decide_eq_true rfl];rfl)) fun _ _=>⟨.inl rfl,.inr ⟨_,_,rfl,rfl,arj⟩,trivial⟩
theorem ara:aG Tryz.prog 59 (bM (fun _:Unit=>[isA [0,1,0],isA [0,1,0]]) (fun _=>True) (fun _=>bP true)):=
 rW aqa ([0,1,0],[0,1,0]) (by decide) rfl
def asu:Spec:=fnG (fun _:Unit=>[]) (fun _=>True) (fun _=>bP true)
theorem tL:aG Tryz.prog 12 asu:=by
 refine jC [4000061,4000062,4000063,4000072] ?_
 refine aU (Tb:=tab) mixed ay Tryz.func12 rfl rfl ?_
 rintro ⟨⟩ hpre
 refine ai (ai rfl (ai rfl rfl)) ?_
 obtain ⟨z,hz⟩:∃z:Int,z=0:=⟨0,rfl⟩
 refine ei _ (ai (anP) (ei (()) (ei [] (ai (a4 (ai (fun _=>Or.inl rfl) (ai nof (Or.inl rfl)))) (ai (by exact trivial) (ai trivial (ai (trivial) ?_)))))))
 refine ei _ (ai ((aqi hz)) (ei (()) (ei [] (ai (a4 (ai (fun _=>Or.inl rfl) (ai nof (Or.inl rfl)))) (ai (by exact (ai rfl (ai rfl (fun _ _=>rfl)))) (ai trivial (ai (trivial) ?_)))))))
 refine ei _ (ai ((aqY hz)) (ei (()) (ei [] (ai (a4 (ai (fun _=>Or.inl rfl) (ai nof (Or.inr rfl)))) (ai (by exact (ai rfl (ai (ai rfl (fun _ _=>rfl)) (ai (ai rfl (fun _ _=>rfl)) (ai rfl (fun _ _=>rfl)))))) (ai trivial (ai (trivial) ?_)))))))
 refine ei _ (ai ((aq4 hz)) (ei (()) (ei [] (ai (a4 (ai (fun _=>Or.inl rfl) (ai nof (Or.inl rfl)))) (ai (by exact (ai rfl (ai (ai rfl (fun _ _=>rfl)) (ai (ai rfl (fun _ _=>rfl)) (ai rfl (fun _ _=>rfl)))))) (ai trivial (ai (trivial) ?_)))))))
 refine ei _ (ai (ai4) (ei (false) (ei [] (ai (a4 (ai (fun _=>Or.inl rfl) (ai nof (Or.inl rfl)))) (ai (by exact rfl) (ai trivial (ai (trivial) ?_)))))))
 refine ei _ (ai (wF) (ei (jW false) (ei [] (ai (a4 (ai (fun _=>Or.inl rfl) (ai nof (Or.inl rfl)))) (ai (by exact (ai rfl (ai (ai rfl (fun _ _=>rfl)) (ai (ai rfl (fun _ _=>rfl)) (ai rfl (fun _ _=>rfl)))))) (ai trivial (ai ((okF false).2) ?_)))))))
 refine ei _ (ai ((aq2 hz)) (ei (()) (ei [] (ai (a4 (ai (fun _=>Or.inl rfl) (ai nof (Or.inl rfl)))) (ai (by exact (ai rfl (ai (ai rfl (fun _ _=>rfl)) (ai (ai rfl (fun _ _=>rfl)) (ai rfl (fun _ _=>rfl)))))) (ai trivial (ai (trivial) ?_)))))))
 refine ei _ (ai (ai4) (ei (true) (ei [] (ai (a4 (ai (fun _=>Or.inl rfl) (ai nof (Or.inl rfl)))) (ai (by exact rfl) (ai trivial (ai (trivial) ?_)))))))
 refine ei _ (ai (wF) (ei (jW true) (ei [] (ai (a4 (ai (fun _=>Or.inl rfl) (ai nof (Or.inl rfl)))) (ai (by exact (ai rfl (ai (ai rfl (fun _ _=>rfl)) (ai (ai rfl (fun _ _=>rfl)) (ai rfl (fun _ _=>rfl)))))) (ai trivial (ai ((okF true).2) ?_)))))))
 refine ei _ (ai ((arz hz)) (ei (()) (ei [] (ai (a4 (ai (fun _=>Or.inl rfl) (ai nof (Or.inl rfl)))) (ai (by exact (ai rfl (ai (ai rfl (fun _ _=>rfl)) (ai (ai rfl (fun _ _=>rfl)) (ai rfl (fun _ _=>rfl)))))) (ai trivial (ai (trivial) ?_)))))))
 refine aR (b:=true) (by simp only[hz,Int.add_zero,aqP];rfl) (fun _=>?_) (fun h=>absurd h (by decide))
 refine ei _ (ai (aod) (ei (()) (ei [] (ai (a4 (ai (fun _=>Or.inl rfl) (ai nof (Or.inl rfl)))) (ai ?_ (ai trivial (ai ?_ ?_)))))))
 ·exact (ai (ai rfl (fun _ _=>rfl)) (ai rfl (fun _ _=>rfl)))
 ·trivial
 refine ei _ (ai (ara) (ei (()) (ei [] (ai (a4 (ai (fun _=>Or.inl rfl) (ai nof (Or.inl rfl)))) (ai ?_ (ai trivial (ai ?_ ?_)))))))
 ·refine (ai (ai rfl (fun _ _=>rfl)) (ai rfl ?_))
  (intro k hk;have hk:k<3:=hk;match k,hk with | 0,_=>rfl | 1,_=>rfl | 2,_=>rfl)
 ·trivial
 refine ai (ai (fun _=>trivial) ?_) trivial
 exact rfl
theorem afY {c:aN} {a v:List Bool} (h:fT c a v=0):bE c=0:=(iQ (qQ h).1).1
theorem apj (c:aN) (a v:List Bool):∃(l:List Int) (n:Int),qU c a v=.tup [iV l,iP n]∧l.length≤1000000:=by
 refine ⟨_,_,rfl,?_⟩
 unfold abW
 split
 ·rename_i h
  have h1:=mW (pE c a v) c.trs.length
  have:=(dW (afY h)).2.2.2.1
  omega
 ·exact aeT _
theorem ajP (c:aN) (l:List Int):(jI c l).length≤l.length:=by
 have:=(qR c l []).1
 rw[aox,ahH] at this;exact this
theorem amZ (c:aN) (a:List Bool) (l:List Int):(zo c a l).length=a.length:=by unfold zo;rw[rY,p8]
theorem amL (c:aN) (a v:List Bool) (ha:a.length≤100):∃(m:List Bool) (l:List Int) (n:Int),pG c a v=.tup [jU m,iV l,iP n]∧m.length≤1000000∧l.length≤1000000:=by
 unfold pG
 split
 ·rename_i h
  have h1:=mW (pE c a v) c.trs.length
  have h2:=(dW (afY h)).2.2.2.1
  have h3:=ajP c (dw (pE c a v) c.trs.length)
  refine ⟨_,_,_,rfl,?_,by unfold mG;omega⟩
  rw[amZ];omega
 ·exact ⟨[],[],_,rfl,aeT _,aeT _⟩
theorem amH (c:aN) (a:List Bool):∃(l:List Sk) (n:Int),nD c a=.tup [sK l,iP n]∧l.length≤1000000:=by
 refine ⟨_,_,rfl,?_⟩
 split
 ·rename_i h
  have h1:=vP c a c.act.toNat
  have h2:=(dW (iQ h).1).1
  omega
 ·exact aeT _
def aqB:Spec:=fnG (fun a:aN×List Bool×List Bool=>[iJ a.1,kI a.2.1,kI a.2.2]) (fun _=>True) (fun _=>bP true)
theorem akW:aG Tryz.prog 10 aqB:=by
 refine aU (Tb:=tab) mixed ay Tryz.func10 rfl rfl ?_
 rintro ⟨c,a,v⟩ hpre
 refine ai (ai rfl (ai rfl rfl)) ?_
 refine ei _ (ai (am6) (ei (c) (ei [] (ai (a4 (ai (fun _=>Or.inl rfl) (ai nof (Or.inl rfl)))) (ai (by exact (ai rfl (ai (ai rfl (fun _ _=>rfl)) (ai (ai rfl (fun _ _=>rfl)) (ai rfl (fun _ _=>rfl)))))) (ai trivial (ai (trivial) ?_)))))))
 refine aR (b:=!jG c) rfl (fun h=>?_) (fun h=>?_)
 ·refine ei _ (ai (tL) (ei (()) (ei [] (ai (a4 (ai (fun _=>Or.inl rfl) (ai nof (Or.inr rfl)))) (ai (by exact trivial) (ai trivial (ai (trivial) ?_)))))))
  refine ai (ai (fun _=>trivial) ?_) trivial
  exact rfl
 refine ah (p:=100<a.length) (au (by dsimp only;omega)) (fun h1=>?_) (fun h1=>?_)
 ·refine ei _ (ai (tL) (ei (()) (ei [] (ai (a4 (ai (fun _=>Or.inl rfl) (ai nof (Or.inr rfl)))) (ai (by exact trivial) (ai trivial (ai (trivial) ?_)))))))
  refine ai (ai (fun _=>trivial) ?_) trivial
  exact rfl
 refine ah (p:=100<v.length) (au (by dsimp only;omega)) (fun h2=>?_) (fun h2=>?_)
 ·refine ei _ (ai (tL) (ei (()) (ei [] (ai (a4 (ai (fun _=>Or.inl rfl) (ai nof (Or.inr rfl)))) (ai (by exact trivial) (ai trivial (ai (trivial) ?_)))))))
  refine ai (ai (fun _=>trivial) ?_) trivial
  exact rfl
 have h:jG c=true:=by simpa using h
 obtain ⟨ho,hf,_⟩:=apy h
 obtain ⟨le,ne,ee,ll⟩:=apj c a v
 obtain ⟨mf,lf,nf,ef,lm,lfl⟩:=amL c a v (by omega)
 obtain ⟨la,na,ea,lal⟩:=amH c a
 refine ei _ (ai (wF) (ei (c) (ei [] (ai (a4 (ai (fun _=>Or.inl rfl) (ai nof (Or.inl rfl)))) (ai (by exact (ai rfl (ai (ai rfl (fun _ _=>rfl)) (ai (ai rfl (fun _ _=>rfl)) (ai rfl (fun _ _=>rfl)))))) (ai trivial (ai (hf) ?_)))))))
 refine ei _ (ai ((fF ajX (c,a,v) ho ee)) (ei (()) (ei [] (ai (a4 (ai (fun _=>Or.inl rfl) (ai nof (Or.inl rfl)))) (ai (by exact (ai (ai rfl (ai (ai rfl (fun _ _=>rfl)) (ai (ai rfl (fun _ _=>rfl)) (ai rfl (fun _ _=>rfl))))) (ai (ai rfl (fun _ _=>rfl)) (ai rfl (fun _ _=>rfl))))) (ai trivial (ai (trivial) ?_)))))))
 refine ei _ (ai ((fF abm (c,a,v) ho ee)) (ei (()) (ei [] (ai (a4 (ai (fun _=>Or.inl rfl) (ai nof (Or.inl rfl)))) (ai (by exact (ai (ai rfl (ai (ai rfl (fun _ _=>rfl)) (ai (ai rfl (fun _ _=>rfl)) (ai rfl (fun _ _=>rfl))))) (ai (ai rfl (fun _ _=>rfl)) (ai rfl (fun _ _=>rfl))))) (ai trivial (ai (trivial) ?_)))))))
 refine ei _ (ai (wF) (ei (c) (ei [] (ai (a4 (ai (fun _=>Or.inl rfl) (ai nof (Or.inl rfl)))) (ai (by exact (ai rfl (ai (ai rfl (fun _ _=>rfl)) (ai (ai rfl (fun _ _=>rfl)) (ai rfl (fun _ _=>rfl)))))) (ai trivial (ai (hf) ?_)))))))
 refine ei _ (ai ((fF aps (c,a,v) ho ((aks c a v).trans ef))) (ei (()) (ei [] (ai (a4 (ai (fun _=>Or.inl rfl) (ai nof (Or.inl rfl)))) (ai (by exact (ai (ai rfl (ai (ai rfl (fun _ _=>rfl)) (ai (ai rfl (fun _ _=>rfl)) (ai rfl (fun _ _=>rfl))))) (ai (ai rfl (fun _ _=>rfl)) (ai rfl (fun _ _=>rfl))))) (ai trivial (ai (trivial) ?_)))))))
 refine ei _ (ai ((fF ang (c,a,v) ho ef)) (ei (()) (ei [] (ai (a4 (ai (fun _=>Or.inl rfl) (ai nof (Or.inl rfl)))) (ai (by exact (ai (ai rfl (ai (ai rfl (fun _ _=>rfl)) (ai (ai rfl (fun _ _=>rfl)) (ai rfl (fun _ _=>rfl))))) (ai (ai rfl (fun _ _=>rfl)) (ai rfl (fun _ _=>rfl))))) (ai trivial (ai (trivial) ?_)))))))
 refine ei _ (ai (wF) (ei (c) (ei [] (ai (a4 (ai (fun _=>Or.inl rfl) (ai nof (Or.inl rfl)))) (ai (by exact (ai rfl (ai (ai rfl (fun _ _=>rfl)) (ai (ai rfl (fun _ _=>rfl)) (ai rfl (fun _ _=>rfl)))))) (ai trivial (ai (hf) ?_)))))))
 refine ei _ (ai ((fF apq (c,a) ho ea)) (ei (()) (ei [] (ai (a4 (ai (fun _=>Or.inl rfl) (ai nof (Or.inl rfl)))) (ai (by exact (ai (ai rfl (ai (ai rfl (fun _ _=>rfl)) (ai (ai rfl (fun _ _=>rfl)) (ai rfl (fun _ _=>rfl))))) (ai rfl (fun _ _=>rfl)))) (ai trivial (ai (trivial) ?_)))))))
 refine ei _ (ai ((fF am2 (c,a) ho ea)) (ei (()) (ei [] (ai (a4 (ai (fun _=>Or.inl rfl) (ai nof (Or.inl rfl)))) (ai (by exact (ai (ai rfl (ai (ai rfl (fun _ _=>rfl)) (ai (ai rfl (fun _ _=>rfl)) (ai rfl (fun _ _=>rfl))))) (ai rfl (fun _ _=>rfl)))) (ai trivial (ai (trivial) ?_)))))))
 refine ei _ (ai (tL) (ei (()) (ei [] (ai (a4 (ai (fun _=>Or.inl rfl) (ai nof (Or.inr rfl)))) (ai (by exact trivial) (ai trivial (ai (trivial) ?_)))))))
 refine ei _ (ai (ahn) (ei ((le,le)) (ei [] (ai (a4 (ai (fun _=>Or.inl rfl) (ai nof (Or.inl rfl)))) (ai (by exact (ai (ai rfl (fun _ _=>rfl)) (ai rfl (fun _ _=>rfl)))) (ai trivial (ai (ll) ?_)))))))
 refine aR (b:=true) (by exact decide_eq_true rfl) (fun _=>?_) (fun h=>absurd h (by decide))
 refine aR (b:=true) (by exact beq_self_eq_true ne) (fun _=>?_) (fun h=>absurd h (by decide))
 refine ei _ (ai (ahE) (ei ((mf,mf)) (ei [] (ai (a4 (ai (fun _=>Or.inl rfl) (ai nof (Or.inl rfl)))) (ai (by exact (ai (ai rfl (fun _ _=>rfl)) (ai rfl (fun _ _=>rfl)))) (ai trivial (ai (lm) ?_)))))))
 refine aR (b:=true) (by exact decide_eq_true rfl) (fun _=>?_) (fun h=>absurd h (by decide))
 refine ei _ (ai (ahn) (ei ((lf,lf)) (ei [] (ai (a4 (ai (fun _=>Or.inl rfl) (ai nof (Or.inl rfl)))) (ai (by exact (ai (ai rfl (fun _ _=>rfl)) (ai rfl (fun _ _=>rfl)))) (ai trivial (ai (lfl) ?_)))))))
 refine aR (b:=true) (by exact decide_eq_true rfl) (fun _=>?_) (fun h=>absurd h (by decide))
 refine aR (b:=true) (by exact beq_self_eq_true nf) (fun _=>?_) (fun h=>absurd h (by decide))
 refine ei _ (ai (amF) (ei ((la,la)) (ei [] (ai (a4 (ai (fun _=>Or.inl rfl) (ai nof (Or.inl rfl)))) (ai (by exact (ai (ai rfl (fun _ _=>rfl)) (ai rfl (fun _ _=>rfl)))) (ai trivial (ai (lal) ?_)))))))
 refine aR (b:=true) (by exact decide_eq_true rfl) (fun _=>?_) (fun h=>absurd h (by decide))
 refine ai (ai (fun _=>trivial) ?_) trivial
 show ak _ (bP true)
 rw[(beq_self_eq_true na).symm]
 exact rfl
end Go.Sx.Pe
namespace Go.Sx.Pe
open Go Go.Proofs Go.Sx.Pn Go.ChangeShapes Go.WideShapes Go.ChangeAt Go.RowKit Go.Deep Go.Lib
theorem al9 {H:Type} {enc:TypeId×Value→H} {P:Program} {f:Func} {s:ChangeSpec} {S:List TypeId} (hS:Closed P S) {tb:TypeId} (hb:P.underlying tb=some .bool) (hres:f.resultTypes=#[tb])
  {W W':World} {args:Array Value} {ds:List (DataW H)} {before:List MemPlace} (hW:DataW.Whole enc P f.params.toList s.vars false W args.toList ds [] before) (hv:s.vars=[])
  (hA:DataW.TrodAll enc P W 0 (fun _=>true) true f.params.toList args.toList ds before) (hts:∀t∈f.params.toList,t∈S) (hfn:s.fn H (ds++[])={ results:=[.lit (.bool true)],args:=ds,vars:=[] }) (hg:Below W.heap.size W W') :
  s.post enc P f false true false false W args (.bool true) W':=by
 have hlt:=hW.lt
 have hold:∀p∈before,(fun b=>decide (b<W.heap.size)) p.block=true:=fun p hp=>by simpa using hlt p hp
 have hargs:∀sp:Nat→Bool,(∀p∈before,sp p.block=true)→DataW.TrodAll enc P W' 0 sp true f.params.toList args.toList ds before:=fun sp hsp=>aat hS hg.block hts hA hsp
 have hrt:(Value.bool true).resultList f.resultTypes.size=[.bool true]:=by rw[hres];rfl
 have hr:∀(b:Nat) (sp:Nat→Bool) (hd:Bool),DataW.TrodAll enc P W' b sp hd f.resultTypes.toList ((Value.bool true).resultList f.resultTypes.size) [.lit (.bool true)] []:=fun b sp hd=>by
  rw[hrt,hres];exact trodAll_cons_mk (shut_bool hb true) trodAll_mk0
 refine ⟨ds,[],before,[],before,[],hW,by rw[hfn];exact hr _ _ _,by rw[hfn];exact hargs _ hold,by rw[hfn,hv];rfl,World.keptBut_mono (fun p hp=>⟨hp,.inr (.inl hp)⟩) (hg.frame (·∈before)),fun h=>by cases h⟩
theorem apz:ownKnob Tryz.prog.godebug=none:=by kernel_rfl
theorem apE {d1 d2 d4 d5:DataW Unit} {n1 n2 n4 n5:String} {W:World} (h:laidMet Tryz.prog [(n1,d1),(n2,d2),("internal/strconv.uint64pow10",Go.Proofs.YteenedbiifampaaGreatDoor.Rows.laid_internal_strconv_uint64pow10),(n4,d4),(n5,d5)] W):∀p∈glP,fJ W p.1=some p.2:=by
 have h3:TabIs Tryz.prog W "internal/strconv.uint64pow10" .u64 Lib.pow10Tab:=
  tabIs_of_head (rest:=[(n4,d4),(n5,d5)]) (show Tryz.prog.globalNamed "internal/strconv.uint64pow10"=some 0 by kernel_rfl) (show (Tryz.prog.globals[0]?).map (·.type)=some 275 by kernel_rfl) Tryz.underlying275 Tryz.underlying252 (by kernel_rfl) (by kernel_rfl) (laidMet.tail (laidMet.tail h))
 intro p hp
 rw[aiz.1 hp]
 have h4:World.var? Tryz.prog W "internal/strconv.uint64pow10"=some p10:=h3
 unfold World.var? at h4
 rw[show Tryz.prog.globalNamed "internal/strconv.uint64pow10"=some 0 by kernel_rfl] at h4
 exact h4
def ahD (vs:List Value):Obj→Obj
 | .cells _ t frozen=>.cells vs.toArray t frozen
 | o=>o
def u8s (l:List Nat):List Value:=l.map fun n:Nat=>Value.int .u8 (n:Int)
noncomputable def zy (os:Os):World:=
 { World.holding Tryz.prog os ⟨#[],#[],[]⟩ with heap:=((((((World.holding Tryz.prog os ⟨#[],#[],[]⟩).heap.modify 2 (ahD (u8s Lib.deBruijn32tab))).modify 3 (ahD (u8s Lib.deBruijn64tab))).modify 0 (ahD p10.toList)).modify 5 (ahD (u8s ([128,191,160,191,128,159,144,191,128,143]++List.replicate 22 0)))).modify 4 (ahD (u8s Go.Pinned.utf8FirstZ))) }
theorem ajs {E:Env} {v:Value} {d d':PV} (h:aO E v (.p false d)) (e:ig d d'):aO E v (.p false d'):=by
 cases h with | p _ _ _ hp=>exact .p _ _ _ (r9 e hp)
theorem l9 {P:Program} {t:TypeId} {fs:Array Field} {n:Nat} {l:List PV} {ts:List TypeId} (hu:P.underlying t=some (.struct fs)) (hts:fs.toList.map (·.type)=ts) (h:Shape P n t l) :
  ∃(n':Nat) (ls:List (List PV)),n=n'+1∧l=ls.flatten∧ag5 P n' ts ls:=by
 cases n with
 | zero=>exact h.elim
 | succ n=>
  unfold Shape at h;rw[hu] at h
  obtain ⟨ls,rfl,h1,h2⟩:=h
  refine ⟨n,ls,rfl,rfl,afp ts ls (by rw[h1,←hts];simp) fun i t x ht hx=>?_⟩
  subst hts
  simp only[ajv,afd,atl] at ht
  obtain ⟨f,hf,rfl⟩:=ht
  exact h2 i f x hf hx
theorem aas {P:Program} {t e:TypeId} {n:Nat} {l:List PV} (hu:P.underlying t=some (.slice e)) (h:Shape P n t l):∃(n' m:Nat) (f:Nat→List PV),n=n'+1∧l=[.seq m f]∧∀j,j<m→Shape P n' e (f j):=by
 cases n with
 | zero=>exact h.elim
 | succ n=>unfold Shape at h;rw[hu] at h;obtain ⟨m,f,h1,h2,h3⟩:=h;exact ⟨n,m,f,rfl,h2,h3⟩
theorem afr {α:Type} (d:α) {g:α→List PV} {m:Nat} {f:Nat→List PV} (h:∀j,j<m→∃x,bR (f j) (g x)):∃L:List α,L.length=m∧∀j,j<m→bR (f j) (g (L.getD j d)):=by
 have h1:∀j,∃x:α,j<m→bR (f j) (g x):=fun j=>by
  by_cases hj:j<m
  ·obtain ⟨x,hx⟩:=h j hj;exact ⟨x,fun _=>hx⟩
  ·exact ⟨d,fun h=>absurd h hj⟩
 obtain ⟨c,hc⟩:=Classical.axiomOfChoice h1
 refine ⟨(List.range m).map c,by simp,fun j hj=>?_⟩
 have:((List.range m).map c).getD j d=c j:=by simp[abl,hj]
 rw[this];exact hc j hj
theorem nA {α:Type} (d:α) {g:α→List PV} {P:Program} {t e:TypeId} {n:Nat} {l:List PV} (hu:P.underlying t=some (.slice e)) (he:∀k x,k<n→Shape P k e x→∃y,bR x (g y)) (h:Shape P n t l):∃L:List α,bR l [.seq L.length (fun j=>g (L.getD j d))]:=by
 obtain ⟨n',m,f,rfl,rfl,hf⟩:=aas hu h
 obtain ⟨L,rfl,hL⟩:=afr d fun j hj=>he n' (f j) (Nat.lt_succ_self _) (hf j hj)
 exact ⟨L,ach (gP hL)⟩
theorem qB:∀{a b c d:List PV},bR a b→bR c d→bR (a++c) (b++d)
 | [],[],_,_,_,h=>h
 | x :: a,y :: b,c,d,h,k=>bK (h.2 0 x y rfl rfl) (qB ⟨by simpa using h.1,fun j s s' hs hs'=>h.2 (j+1) s s' hs hs'⟩ k)
 | [],_ :: _,_,_,h,_=>by have:=h.1;simp at this
 | _ :: _,[],_,_,h,_=>by have:=h.1;simp at this
theorem aeZ {a b c a' b' c':List PV} (h1:bR a a') (h2:bR b b') (h3:bR c c'):bR [a,b,c].flatten (a'++(b'++c')):=by
 have:[a,b,c].flatten=a++(b++c):=by simp
 rw[this];exact qB h1 (qB h2 h3)
theorem ae7 {a b a' b':List PV} (h1:bR a a') (h2:bR b b'):bR [a,b].flatten (a'++b'):=by
 have:[a,b].flatten=a++b:=by simp
 rw[this];exact qB h1 h2
theorem alp {a b c d a' b' c' d':List PV} (h1:bR a a') (h2:bR b b') (h3:bR c c') (h4:bR d d'):bR [a,b,c,d].flatten (a'++(b'++(c'++d'))):=by
 have:[a,b,c,d].flatten=a++(b++(c++d)):=by simp
 rw[this];exact qB h1 (qB h2 (qB h3 h4))
theorem wU {n:Nat} {l:List PV} (h:Shape Tryz.prog n 3 l):∃m:Int,bR l [iP m]:=by
 obtain ⟨m,_,rfl⟩:=akU Tryz.underlying3 h
 exact ⟨m,bR.rfl' _⟩
theorem aiQ {n:Nat} {l:List PV} (h:Shape Tryz.prog n 4 l):∃b:Bool,bR l [bP b]:=by
 obtain ⟨m,rfl⟩:=akq Tryz.underlying4 h
 exact ⟨m,bR.rfl' _⟩
theorem arx {n:Nat} {l:List PV} (h:Shape Tryz.prog n 9 l):∃s:List UInt8,bR l [sP s]:=by
 obtain ⟨s,_,rfl⟩:=ahu Tryz.underlying9 h
 refine ⟨s.data.toList,bR.of ?_⟩
 have:strOf s.data.toList=s:=by cases s;simp[strOf]
 show _=[PV.val (.string (strOf s.data.toList))]
 rw[this]
theorem ai9 {n:Nat} {l:List PV} (h:Shape Tryz.prog n 29 l):∃L:List Int,bR l [iV L]:=nA 0 (g:=fun x=>[iP x]) Tryz.underlying29 (fun _ _ _ h=>wU h) h
theorem aoj {n:Nat} {l:List PV} (h:Shape Tryz.prog n 72 l):∃L:List Bool,bR l [jU L]:=nA false (g:=fun x=>[bP x]) Tryz.underlying72 (fun _ _ _ h=>aiQ h) h
theorem apc {n:Nat} {l:List PV} (h:Shape Tryz.prog n 22 l):∃L:List (List UInt8),bR l [ssP L]:=nA [] (g:=fun x=>[sP x]) Tryz.underlying22 (fun _ _ _ h=>arx h) h
theorem asn {n:Nat} {l:List PV} (h:Shape Tryz.prog n 94 l):∃x:Sk,bR l (skK x):=by
 obtain ⟨n',ls,rfl,rfl,h2⟩:=l9 (ts:=[3,4]) Tryz.underlying94 (by decide) h
 match ls,h2 with
 | [a,b],⟨ha,hb,_⟩=>
  obtain ⟨x,hx⟩:=wU ha
  obtain ⟨y,hy⟩:=aiQ hb
  exact ⟨(x,y),ae7 hx hy⟩
theorem aqI {n:Nat} {l:List PV} (h:Shape Tryz.prog n 87 l):∃L:List Sk,bR l [sK L]:=nA bB (g:=skK) Tryz.underlying87 (fun _ _ _ h=>asn h) h
theorem aqm {n:Nat} {l:List PV} (h:Shape Tryz.prog n 108 l):∃x:Stp,bR l (stK x):=by
 obtain ⟨n',ls,rfl,rfl,h2⟩:=l9 (ts:=[87,3]) Tryz.underlying108 (by decide) h
 match ls,h2 with
 | [a,b],⟨ha,hb,_⟩=>
  obtain ⟨x,hx⟩:=aqI ha
  obtain ⟨y,hy⟩:=wU hb
  exact ⟨⟨x,y⟩,ae7 hx hy⟩
theorem aqc {n:Nat} {l:List PV} (h:Shape Tryz.prog n 23 l):∃L:List Stp,bR l [ajW L]:=nA st0 (g:=stK) Tryz.underlying23 (fun _ _ _ h=>aqm h) h
theorem afx {d:PV} {n:Nat} {f g:Nat→List PV} (h:ig d (.seq n f)) (e:∀k,k<n→f k=g k):ig d (.seq n g):=by
 cases h with
 | refl=>exact gP fun k hk=>bR.of (e k hk)
 | nil=>exact .nil _
 | seq _ f0 _ hl he=>exact .seq n f0 g (fun j hj=>by rw[←e j hj];exact hl j hj) fun j k s s' hj hs hs'=>he j k s s' hj hs (by rw[e j hj];exact hs')
theorem anH {L:List Ex} {j:Nat} {x:List PV} (h:bR x (vD (L.getD j bV))):bR x (exF L j):=by
 match x,h with
 | [p,q,r],⟨hl,h⟩=>
  refine bK (h 0 _ _ rfl rfl) (bK (h 1 _ _ rfl rfl) (ach ?_))
  exact afx (h 2 _ _ rfl rfl) fun k hk=>ajU _ k hk
 | [],⟨hl,_⟩=>simp[vD] at hl
 | [_],⟨hl,_⟩=>simp[vD] at hl
 | [_,_],⟨hl,_⟩=>simp[vD] at hl
 | _ :: _ :: _ :: _ :: _,⟨hl,_⟩=>simp[vD] at hl
theorem asb:∀(n:Nat) (l:List PV),Shape Tryz.prog n 79 l→∃x:Ex,bR l (vD x):=by
 intro n
 induction n using Nat.strongRecOn with
 | _ n ih=>
  intro l h
  obtain ⟨n',ls,rfl,rfl,h2⟩:=l9 (ts:=[3,3,77]) Tryz.underlying79 (by decide) h
  match ls,h2 with
  | [a,b,c],⟨ha,hb,hc,_⟩=>
   obtain ⟨x,hx⟩:=wU ha
   obtain ⟨y,hy⟩:=wU hb
   obtain ⟨n2,m,f,rfl,rfl,hf⟩:=aas Tryz.underlying77 hc
   obtain ⟨L,rfl,hL⟩:=afr bV fun j hj=>ih n2 (by omega) (f j) (hf j hj)
   refine ⟨.node x y L,aeZ hx hy (ach (gP fun j hj=>?_))⟩
   exact anH (hL j hj)
theorem aqF {n:Nat} {l:List PV} (h:Shape Tryz.prog n 81 l):∃x:jK,bR l (trK x):=by
 obtain ⟨n',ls,rfl,rfl,h2⟩:=l9 (ts:=[29,29,79]) Tryz.underlying81 (by decide) h
 match ls,h2 with
 | [a,b,c],⟨ha,hb,hc,_⟩=>
  obtain ⟨x,hx⟩:=ai9 ha
  obtain ⟨y,hy⟩:=ai9 hb
  obtain ⟨z,hz⟩:=asb _ _ hc
  exact ⟨⟨x,y,z⟩,aeZ hx hy hz⟩
theorem aoV {n:Nat} {l:List PV} (h:Shape Tryz.prog n 24 l):∃L:List jK,bR l [anB L]:=nA aD (g:=trK) Tryz.underlying24 (fun _ _ _ h=>aqF h) h
def adz:List TypeId:=[3,4,9,29,72,22,94,87,95,41,43,108,23,79,77,81,24,26]
theorem oK:Closed Tryz.prog adz:=by
 intro t ht
 simp only[adz,ai5,List.mem_nil_iff,or_false] at ht
 rcases ht with rfl | rfl | rfl | rfl | rfl | rfl | rfl | rfl | rfl | rfl | rfl | rfl | rfl | rfl | rfl | rfl | rfl | rfl<;>kernel_rfl
section
variable {w : World} {r : Reach} {b : Nat} {v : Value} {n : Nat} {l : List PV}
theorem amx (hv:Value.okWide Tryz.prog w r b 26 v) (hs:Shape Tryz.prog n 26 l) (hr:Rel (fJ w) v.cells.toList l):∃c:aN,aO (E0 w) v (iJ c):=by
 obtain ⟨cs,hc⟩:=alD Tryz.underlying26 hv
 have hS:=aqL hc hr
 obtain ⟨n',ls,rfl,rfl,h2⟩:=l9 (ts:=[3,22,23,24]) Tryz.underlying26 (by decide) hs
 match ls,h2 with
 | [a,b,c,d],⟨ha,hb,hc,hd,_⟩=>
  obtain ⟨x,hx⟩:=wU ha
  obtain ⟨y,hy⟩:=apc hb
  obtain ⟨z,hz⟩:=aqc hc
  obtain ⟨u,hu⟩:=aoV hd
  exact ⟨⟨x,y,z,u⟩,ajs hS (wQ (alp hx hy hz hu))⟩
theorem aeY (hv:Value.okWide Tryz.prog w r b 72 v) (hs:Shape Tryz.prog n 72 l) (hr:Rel (fJ w) v.cells.toList l):∃L:List Bool,aO (E0 w) v (kI L):=by
 obtain ⟨m,f,n',hm,rfl,hf⟩:=aiw Tryz.underlying72 hs
 have hS:=aqR (ok_slice Tryz.underlying72 hv) hr
 obtain ⟨L,hL⟩:=aoj hs
 exact ⟨L,ajs hS (hL.2 0 _ _ rfl rfl)⟩
end
end Go.Sx.Pe
namespace Go.Proofs.YteenedbiifampaaGreatDoor.chartFires
open Go.ChangeShapes Go.WideShapes Go.ChangeAt Go.RowKit Go.Joins Go.Deep Go.Sx Go.Sx.Pn Go.Sx.Pe
set_option maxRecDepth 100000 in
theorem contract (H:Type) (enc:TypeId×Value→H) (W:World) (base:Nat) (args:Array Value) (ds gs:List (DataW H)) (before:List MemPlace)
  (hval:∀(j:Nat) t v,Tryz.f10.params[j]?=some t→args[j]?=some v→Value.okWide Tryz.prog W .any base t v)
  (hW:DataW.Whole enc Tryz.prog Tryz.f10.params.toList Rows.chartFiresSpec.vars false W args.toList ds gs before) (hL:laidMetH Tryz.prog Rows.chartFiresRow.laid W) :
  Calls Tryz.prog 10 args W fun e W'=>∃v,e=.returned v∧Rows.chartFiresSpec.post enc Tryz.prog Tryz.f10 false true false false W args v W':=by
 have hW':=hW
 obtain ⟨p,q,hA0,hV,rfl,hfz,hnd⟩:=hW
 obtain ⟨rfl,rfl⟩:=trodVars_none hV
 have hA:DataW.TrodAll enc Tryz.prog W 0 (fun _=>true) true Tryz.f10.params.toList args.toList ds p:=hA0
 have hA1:=hA
 rw[Tryz.params10] at hA hval
 clear hA0
 obtain ⟨v0,vs0,d0,ds0,p0,q0,hargs0,rfl,rfl,⟨fu0,h0⟩,r0⟩:=trodAll_cons hA
 obtain ⟨v1,vs1,d1,ds1,p1,q1,hargs1,rfl,rfl,⟨fu1,h1⟩,r1⟩:=trodAll_cons r0
 obtain ⟨v2,vs2,d2,ds2,p2,q2,hargs2,rfl,rfl,⟨fu2,h2⟩,r2⟩:=trodAll_cons r1
 obtain ⟨rfl,rfl,rfl⟩:=trodAll_nil r2
 obtain rfl:args=#[v0,v1,v2]:=by cases args;simp_all
 obtain ⟨l0,s0,e0⟩:=wY oK fu0 26 _ _ (by decide) h0
 obtain ⟨a0,S0⟩:=amx (hval 0 _ v0 rfl rfl) s0 e0
 obtain ⟨l1,s1,e1⟩:=wY oK fu1 72 _ _ (by decide) h1
 obtain ⟨a1,S1⟩:=aeY (hval 1 _ v1 rfl rfl) s1 e1
 obtain ⟨l2,s2,e2⟩:=wY oK fu2 72 _ _ (by decide) h2
 obtain ⟨a2,S2⟩:=aeY (hval 2 _ v2 rfl rfl) s2 e2
 simp only[aqH] at hW' hA1
 refine (ahQ akW (a0,a1,a2) trivial W (apE hL) _ (akv (vs:=[v0,v1,v2]) (ai S0 (ai S1 (ai S2 trivial))))).mono fun e W' ⟨he,hg⟩=>?_
 subst he
 exact ⟨_,rfl,al9 oK Tryz.underlying4 (by kernel_rfl) hW' rfl hA1 (by rw[Tryz.params10];decide) rfl hg⟩
theorem laid_met (os:Os):laidMet Tryz.prog Rows.chartFiresRow.laid ((zy os).forCall (fun _ _=>0) ⟨#[],#[.agg #[.int .i64 0,.slice none 0 0,.slice none 0 0,.slice none 0 0],.slice none 0 0,.slice none 0 0],[]⟩).memory:=
 laidMet_of_run' 8 (by kernel_rfl) (by kernel_rfl)
theorem reads (os:Os) {H:Type} (enc:TypeId×Value→H):∃places,DataW.whole enc Tryz.prog ((zy os).forCall (fun _ _=>0) ⟨#[],#[.agg #[.int .i64 0,.slice none 0 0,.slice none 0 0,.slice none 0 0],.slice none 0 0,.slice none 0 0],[]⟩).memory Tryz.f10.params.toList Rows.chartFiresSpec.vars false (Array.toList (α:=Value) #[.agg #[.int .i64 0,.slice none 0 0,.slice none 0 0,.slice none 0 0],.slice none 0 0,.slice none 0 0]) 8=some ([.agg [.lit (.int .i64 0),.nil,.nil,.nil],.nil,.nil],[],places):=
 ⟨[],by kernel_rfl⟩
set_option maxRecDepth 100000 in
theorem lifted (os:Os) (started:os.Started) (H:Type) (enc:TypeId×Value→H) (F:Stop.Interp) :
  ReturnsInHanded {} Tryz.checked os 10 .any ((OpenSpec.ofChange Rows.chartFiresSpec).preRow enc Tryz.prog Tryz.f10 Rows.chartFiresRow.domain false Rows.chartFiresRow.laid) (((OpenSpec.ofChange Rows.chartFiresSpec).at F).post enc Tryz.prog Tryz.f10 false true false false):=by
 obtain ⟨places,hx⟩:=reads os enc
 refine returnsInHanded_of_row (C:=Tryz.checked) (s:=OpenSpec.ofChange Rows.chartFiresSpec) apz started (by kernel_rfl) Tryz.func10
  (witness_row_at (enc:=enc) (C:=Tryz.checked) false (zy os) #[.agg #[.int .i64 0,.slice none 0 0,.slice none 0 0,.slice none 0 0],.slice none 0 0,.slice none 0 0] rfl (by kernel_rfl) (by kernel_rfl) (by kernel_rfl)
   (OpenSpec.preRow_of_cond 8 hx (by kernel_rfl) (fun k hk=>by cases hk) (by kernel_rfl) (laid_met os))) ?_
 intro W base args ds gs before hval hW _ _ _ hL _ _
 exact contract H enc W base args ds gs before hval hW hL
theorem facts:joinedFacts Tryz.pinned.checked.prog 10 Tryz.f10 (OpenSpec.ofChange Rows.chartFiresSpec).bare Rows.chartFiresRow=true:=by kernel_rfl
theorem named:Tryz.pinned.checked.prog.funcNamed Rows.chartFiresRow.func=some 10:=by kernel_rfl
theorem inst:Tryz.f10.isInstance Tryz.pinned.checked.prog Rows.chartFiresRow.origin Rows.chartFiresRow.targs:=of_decide_eq_true (by kernel_rfl)
theorem wrap:Tryz.f10.isWrapper Tryz.pinned.checked.prog Rows.chartFiresRow.wrapper Rows.chartFiresRow.mainSum:=by unfold Func.isWrapper;first | (rw[if_pos (by decide +kernel)];kernel_rfl) | (rw[if_neg (by decide +kernel)];exact ⟨rfl,rfl⟩)
theorem said:Rows.ChartFiresSaid:=
 OpenClaim.holds_of_cond 10 Tryz.f10 rfl rfl rfl rfl rfl rfl rfl ⟨rfl,rfl,rfl,rfl,rfl⟩ rfl rfl rfl rfl rfl named Tryz.func10 facts inst wrap
  (fun os started H enc _ F=>by rw[OpenClaim.pre_eq_preRow];exact lifted os started H enc F)
theorem plain (f:FuncId) (fn:Func) (hf:Tryz.pinned.checked.prog.funcNamed "pneumatic/pneumaticlaw35.ChartFires"=some f) (hfn:Tryz.pinned.checked.prog.funcs[f]?=some fn) :
  false=Tryz.pinned.checked.prog.looks []∧∀(j:Nat) t,fn.params[j]?=some t→Tryz.pinned.checked.prog.wantsStandIn t=false:=by
 obtain rfl:f=10:=Option.some.inj ((show Tryz.prog.funcNamed "pneumatic/pneumaticlaw35.ChartFires"=some 10 by kernel_rfl).symm.trans hf) |>.symm
 obtain rfl:fn=Tryz.f10:=(Option.some.inj (Tryz.func10.symm.trans hfn)).symm
 refine ⟨by kernel_rfl,fun j t ht=>?_⟩
 rw[Tryz.params10] at ht
 have hm:∀t∈#[26,72,72],Tryz.prog.wantsStandIn t=false:=by decide +kernel
 exact hm t (atD ht)
theorem card:Rows.ChartFiresCardSaid:=
 Claim7.holds_tied_plain_at .later [] _ _ _ _ said (fun _ h=>by cases h) (by kernel_rfl) (fun _ h=>by cases h) chartFires_row_tie rfl ⟨rfl,rfl⟩ (by kernel_rfl) rfl plain (by kernel_rfl)
end Go.Proofs.YteenedbiifampaaGreatDoor.chartFires
