/- ChartShares, part 6 of its proof: declarations that the last part uses. -/
import Derived.Test.YteenedbiifampaaGreatDoorH5
set_option maxHeartbeats 1000000
set_option maxRecDepth 4000
set_option linter.unusedSimpArgs false
set_option linter.unusedVariables false
set_option linter.unusedSectionVars false
namespace Go.Sx.Pe
open Go Go.Proofs Go.Sx.Pn
set_option maxHeartbeats 16000000 in
theorem ah1:aL Tryz.prog 18 (iO (fun s:mI=>[sqA s]) (fun _=>True) ofRaw):=by
 refine jy [68,3000020,4000077,4000084] ?_
 refine aY (Tb:=tab) mixed aB Tryz.func18 rfl rfl ?_
 rintro (s:mI) hpre
 refine ai (ai rfl (ai rfl rfl)) ?_
 refine ei _ (ai (al6) (ei (s) (ei [] (ai (a4 (ai (fun _=>Or.inl rfl) (ai nof (Or.inl rfl)))) (ai (by exact (ai rfl (ai rfl (fun _ _=>rfl)))) (ai trivial (ai (trivial) ?_)))))))
 refine bg (p:=kS s=0) (bK (by omega)) (fun h1=>?_) (fun h1=>?_)
 ·have e:wu s=kS s:=if_pos h1
  refine ai (ai (fun h=>absurd (show false=true from h) (by decide)) ?_) trivial
  show ak _ (ofRaw s)
  rw[ofRaw,e,if_neg h1]
  exact (ai (ai rfl (ai rfl (ai rfl rfl))) rfl)
 obtain ⟨⟨ha1,ha6⟩,h64,hck⟩:=seq_ok h1
 have hw2:IntKind.i64.wrap (2*s.act)=2*s.act:=wrI (by omega) (by omega)
 refine ei _ (ai (oo) (ei (2*s.act) (ei [] (ai (a4 (ai (fun _=>Or.inl rfl) (ai nof (Or.inl rfl)))) (ai ?_ (ai (by exact trivial) (ai (trivial) ?_)))))))
 ·exact hw2
 refine eF (ao1) (⟨s.act,[],.val (.slice none 0 0),0,iP 1,iP (2*s.act),.val (.slice none 0 0),(⟨[],0⟩,ze (2*s.act))⟩) [3,4] (a4 (ai rfl rfl)) (Or.inl rfl) (by exact (ai (ai rfl rfl) (ai (ai rfl (ai (iE (by omega)) rfl)) (ai (ai rfl rfl) (ai rfl rfl))))) (by exact (ai (ai rfl (ai rfl (ai (ai rfl (fun _ _=>rfl)) (ai rfl rfl)))) (ai rfl rfl))) (⟨⟨afc _,rfl,rfl⟩,fun _=>rfl⟩) ?_
 have hL:=agB s
 refine ei (bE.inv { X:=Nat,up:=fun k=>[(34,.s (iA k))],uo:=fun k=>[⟨3,36,[.s (iA s.act),.s (.p false abC),.rw 89 2 (dI s k).length (fun j=>uU ((dI s k).getD j qd).1),.s ab3]⟩,⟨4,77,[.rw 79 3 (dI s k).length (fun j=>yV ((dI s k).getD j qd).2)]⟩],inv:=fun k=>k≤s.sts.length∧(True),meas:=fun k=>s.sts.length-k,x0:=0 }) ?_
 refine ai (ai (ai (by exact (a4 (ai rfl rfl))) (ai ?_ ?_)) rfl) (ai (ai (afc _) ?_) ?_)
 ·exact (ai (ai (fun _=>rfl) (iE (by simp only[zz,reduceCtorEq];rfl))) rfl)
 ·exact (ai (ai (ai (ai nof rfl) rfl) (ai (ai (ai nof (ai rfl (fun _ _=>rfl))) rfl) (ai (ai rfl (ai rfl (ai rfl (fun _ _=>rfl)))) (ai (ai nof rfl) rfl)))) (ai (ai rfl (ai rfl (ai rfl (fun _ _=>rfl)))) trivial))
 ·trivial
 intro (k:Nat) ⟨hk,_⟩
 obtain ⟨hk1,hk2⟩:=hL k hk
 refine ah (p:=k<s.sts.length) (au (by omega)) (fun h2=>?_) (fun h2=>?_)
 ·refine ai (ai (abq _) (iN (n:=s.sts.length) (by omega))) (ai rfl ?_)
  have hm:=adh (bI st0 h2)
  obtain ⟨⟨hx0,hx6⟩,hxs,hxw⟩:=xg (hck _ hm)
  have hsm:agi (s.sts.getD k st0).st:=⟨by omega,hxs⟩
  have hst:=aeN h2
  have hne:(s.sts.getD k st0).st≠[]:=fun e=>by rw[e] at hx0;simp at hx0
  refine ei (.one 0 (.one 1 (.one 2 (.one 5 (.one 6 (.one 3 (.one 4 (.one 7 (.wr 8 .done))))))))) (ai (by kernel_rfl) ?_)
  refine ei _ (ai (apd) (ei ((s.sts.getD k st0).st) (ei [] (ai (a4 (ai (fun _=>Or.inl rfl) (ai nof (Or.inl rfl)))) (ai (by exact (ai rfl (fun _ _=>rfl))) (ai trivial (ai ((by show (s.sts.getD k st0).st.length≤1000000;omega)) ?_)))))))
  by_cases h1l:(s.sts.getD k st0).st.length=1
  ·have ee:=ahP h1l
   refine ei _ (ai ((jc ag7 (s.sts.getD k st0).st ⟨hsm,hx0⟩ (r:=.agg [iP 1,iP (mR ((s.sts.getD k st0).st.getD 0 bJ)),.val (.slice none 0 0)]) (congrArg PV.agg ee))) (ei (()) (ei [] (ai (a4 (ai (fun _=>Or.inl rfl) (ai nof (Or.inl rfl)))) (ai (by exact (ai rfl (fun _ _=>rfl))) (ai trivial (ai (trivial) ?_)))))))
   refine eF (acn) (⟨s.act,dI s k,za (s.sts.getD k st0).st,0,iP 1,iP (mR ((s.sts.getD k st0).st.getD 0 bJ)),.val (.slice none 0 0),(⟨(s.sts.getD k st0).st,0⟩,lG (s.sts.getD k st0).st)⟩) [3,4,7,8] (a4 (ai rfl rfl)) (Or.inl rfl) (by exact (ai (ai (ai rfl (fun _ _=>rfl)) rfl) (ai (ai rfl (ai rfl rfl)) (ai (ai rfl rfl) (ai rfl rfl))))) (by exact (ai (ai rfl (ai rfl (ai (ai rfl (fun _ _=>rfl)) (ai rfl rfl)))) (ai (ai rfl rfl) (ai (ai rfl (ai rfl (ai rfl (fun _ _=>rfl)))) (ai rfl (ai rfl (ai rfl (fun _ _=>rfl)))))))) (⟨⟨by show (dI s k).length≤1000;omega,by show uU ⟨(s.sts.getD k st0).st,0⟩=_;unfold uU;rw[if_neg hne],ee⟩,fun h=>by cases h⟩) ?_
   refine ah (p:=0<(s.sts.getD k st0).wt) (au Iff.rfl) (fun h3=>?_) (fun h3=>?_)
   ·have e:dI s (k+1)=(dI s k++[(⟨(s.sts.getD k st0).st,0⟩,lG (s.sts.getD k st0).st)])++[(⟨[],(s.sts.getD k st0).wt⟩,ze (2*s.act+1+(((dI s k).length+1:Nat):Int)))]:=by rw[hst];unfold um;rw[if_pos h3]
    have hpl:(dI s k++[((⟨(s.sts.getD k st0).st,0⟩:Stp),lG (s.sts.getD k st0).st)]).length=(dI s k).length+1:=by rw[aaf];rfl
    refine ei (.one 0 (.one 1 (.one 2 (.one 3 (.one 4 (.one 5 (.one 6 (.one 7 (.one 8 (.one 9 (.one 10 (.wr 11 .done)))))))))))) (ai (by kernel_rfl) ?_)
    refine ei _ (ai (oo) (ei (2*s.act+1+(((dI s k).length+1:Nat):Int)) (ei [] (ai (a4 (ai (fun _=>Or.inl rfl) (ai nof (Or.inl rfl)))) (ai ?_ (ai (by exact trivial) (ai (trivial) ?_)))))))
    ·show IntKind.i64.wrap (IntKind.i64.wrap (IntKind.i64.wrap (2*s.act)+1)+(((dI s k++[((⟨(s.sts.getD k st0).st,0⟩:Stp),lG (s.sts.getD k st0).st)]).length:Nat):Int))=_
     rw[hpl,hw2,wrI (n:=2*s.act+1) (by omega) (by omega),wrI (by omega) (by omega)]
    refine eF (acn) (⟨s.act,dI s k++[(⟨(s.sts.getD k st0).st,0⟩,lG (s.sts.getD k st0).st)],.val (.slice none 0 0),(s.sts.getD k st0).wt,iP 1,iP (2*s.act+1+(((dI s k).length+1:Nat):Int)),.val (.slice none 0 0),(⟨[],(s.sts.getD k st0).wt⟩,ze (2*s.act+1+(((dI s k).length+1:Nat):Int)))⟩) [3,4,10,11] (a4 (ai rfl rfl)) (Or.inl rfl) (by exact (ai (ai rfl (iE (by simp only[zz,reduceCtorEq]))) (ai (ai rfl (ai rfl rfl)) (ai (ai rfl rfl) (ai rfl rfl))))) (by exact (ai (ai rfl (ai rfl (ai (ai rfl (fun _ _=>rfl)) (ai rfl rfl)))) (ai (ai rfl rfl) (ai (ai rfl (ai rfl (ai rfl (fun _ _=>rfl)))) (ai rfl (ai rfl (ai rfl (fun _ _=>rfl)))))))) (⟨⟨by show (dI s k++[((⟨(s.sts.getD k st0).st,0⟩:Stp),lG (s.sts.getD k st0).st)]).length≤1000;rw[hpl];omega,rfl,rfl⟩,fun h=>by cases h⟩) ?_
    refine ei (k+1) (ai (ai rfl rfl) (ai (ai (ai rfl (ai (ai rfl rfl) (ai (ai rfl rfl) (ai (ai (ai (fun _=>rfl) (aP (by omega))) rfl) (ai (ai (ai (ai nof rfl) rfl) (ai (ai (ai nof (ai rfl (fun _ _=>rfl))) rfl) (ai (ai rfl (ai rfl (ai ?_ ?_))) (ai (ai nof rfl) rfl)))) (ai (ai rfl (ai rfl (ai ?_ ?_))) trivial)))))) rfl) (ai (ai (iL (by omega)) trivial) (iM (by omega)))))
    all_goals rw[e]
    ·exact fun _ _=>rfl
    ·exact fun _ _=>rfl
   ·have e:dI s (k+1)=dI s k++[(⟨(s.sts.getD k st0).st,0⟩,lG (s.sts.getD k st0).st)]:=by rw[hst];unfold um;rw[if_neg h3]
    refine ei (k+1) (ai (ai rfl rfl) (ai (ai (ai rfl (ai (ai rfl rfl) (ai (ai rfl rfl) (ai (ai (ai (fun _=>rfl) (aP (by omega))) rfl) (ai (ai (ai (ai nof rfl) rfl) (ai (ai (ai nof (ai rfl (fun _ _=>rfl))) rfl) (ai (ai rfl (ai rfl (ai ?_ ?_))) (ai (ai nof rfl) rfl)))) (ai (ai rfl (ai rfl (ai ?_ ?_))) trivial)))))) rfl) (ai (ai (iL (by omega)) trivial) (iM (by omega)))))
    all_goals rw[e]
    ·exact fun _ _=>rfl
    ·exact fun _ _=>rfl
  ·have ee:=ae4 h1l
   refine ei _ (ai ((jc ag7 (s.sts.getD k st0).st ⟨hsm,hx0⟩ (r:=.agg [iP 3,iP 0,.seq (s.sts.getD k st0).st.length (xw (s.sts.getD k st0).st)]) (congrArg PV.agg ee))) (ei (()) (ei [] (ai (a4 (ai (fun _=>Or.inl rfl) (ai nof (Or.inl rfl)))) (ai (by exact (ai rfl (fun _ _=>rfl))) (ai trivial (ai (trivial) ?_)))))))
   refine eF (acn) (⟨s.act,dI s k,za (s.sts.getD k st0).st,0,iP 3,iP 0,.seq (s.sts.getD k st0).st.length (xw (s.sts.getD k st0).st),(⟨(s.sts.getD k st0).st,0⟩,lG (s.sts.getD k st0).st)⟩) [3,4,7,8] (a4 (ai rfl rfl)) (Or.inl rfl) (by exact (ai (ai (ai rfl (fun _ _=>rfl)) rfl) (ai (ai rfl (ai rfl (ai rfl (fun _ _=>rfl)))) (ai (ai rfl rfl) (ai rfl rfl))))) (by exact (ai (ai rfl (ai rfl (ai (ai rfl (fun _ _=>rfl)) (ai rfl rfl)))) (ai (ai rfl rfl) (ai (ai rfl (ai rfl (ai rfl (fun _ _=>rfl)))) (ai rfl (ai rfl (ai rfl (fun _ _=>rfl)))))))) (⟨⟨by show (dI s k).length≤1000;omega,by show uU ⟨(s.sts.getD k st0).st,0⟩=_;unfold uU;rw[if_neg hne],ee⟩,fun h=>by cases h⟩) ?_
   refine ah (p:=0<(s.sts.getD k st0).wt) (au Iff.rfl) (fun h3=>?_) (fun h3=>?_)
   ·have e:dI s (k+1)=(dI s k++[(⟨(s.sts.getD k st0).st,0⟩,lG (s.sts.getD k st0).st)])++[(⟨[],(s.sts.getD k st0).wt⟩,ze (2*s.act+1+(((dI s k).length+1:Nat):Int)))]:=by rw[hst];unfold um;rw[if_pos h3]
    have hpl:(dI s k++[((⟨(s.sts.getD k st0).st,0⟩:Stp),lG (s.sts.getD k st0).st)]).length=(dI s k).length+1:=by rw[aaf];rfl
    refine ei (.one 0 (.one 1 (.one 2 (.one 3 (.one 4 (.one 5 (.one 6 (.one 7 (.one 8 (.one 9 (.one 10 (.wr 11 .done)))))))))))) (ai (by kernel_rfl) ?_)
    refine ei _ (ai (oo) (ei (2*s.act+1+(((dI s k).length+1:Nat):Int)) (ei [] (ai (a4 (ai (fun _=>Or.inl rfl) (ai nof (Or.inl rfl)))) (ai ?_ (ai (by exact trivial) (ai (trivial) ?_)))))))
    ·show IntKind.i64.wrap (IntKind.i64.wrap (IntKind.i64.wrap (2*s.act)+1)+(((dI s k++[((⟨(s.sts.getD k st0).st,0⟩:Stp),lG (s.sts.getD k st0).st)]).length:Nat):Int))=_
     rw[hpl,hw2,wrI (n:=2*s.act+1) (by omega) (by omega),wrI (by omega) (by omega)]
    refine eF (acn) (⟨s.act,dI s k++[(⟨(s.sts.getD k st0).st,0⟩,lG (s.sts.getD k st0).st)],.val (.slice none 0 0),(s.sts.getD k st0).wt,iP 1,iP (2*s.act+1+(((dI s k).length+1:Nat):Int)),.val (.slice none 0 0),(⟨[],(s.sts.getD k st0).wt⟩,ze (2*s.act+1+(((dI s k).length+1:Nat):Int)))⟩) [3,4,10,11] (a4 (ai rfl rfl)) (Or.inl rfl) (by exact (ai (ai rfl (iE (by simp only[zz,reduceCtorEq]))) (ai (ai rfl (ai rfl rfl)) (ai (ai rfl rfl) (ai rfl rfl))))) (by exact (ai (ai rfl (ai rfl (ai (ai rfl (fun _ _=>rfl)) (ai rfl rfl)))) (ai (ai rfl rfl) (ai (ai rfl (ai rfl (ai rfl (fun _ _=>rfl)))) (ai rfl (ai rfl (ai rfl (fun _ _=>rfl)))))))) (⟨⟨by show (dI s k++[((⟨(s.sts.getD k st0).st,0⟩:Stp),lG (s.sts.getD k st0).st)]).length≤1000;rw[hpl];omega,rfl,rfl⟩,fun h=>by cases h⟩) ?_
    refine ei (k+1) (ai (ai rfl rfl) (ai (ai (ai rfl (ai (ai rfl rfl) (ai (ai rfl rfl) (ai (ai (ai (fun _=>rfl) (aP (by omega))) rfl) (ai (ai (ai (ai nof rfl) rfl) (ai (ai (ai nof (ai rfl (fun _ _=>rfl))) rfl) (ai (ai rfl (ai rfl (ai ?_ ?_))) (ai (ai nof rfl) rfl)))) (ai (ai rfl (ai rfl (ai ?_ ?_))) trivial)))))) rfl) (ai (ai (iL (by omega)) trivial) (iM (by omega)))))
    all_goals rw[e]
    ·exact fun _ _=>rfl
    ·exact fun _ _=>rfl
   ·have e:dI s (k+1)=dI s k++[(⟨(s.sts.getD k st0).st,0⟩,lG (s.sts.getD k st0).st)]:=by rw[hst];unfold um;rw[if_neg h3]
    refine ei (k+1) (ai (ai rfl rfl) (ai (ai (ai rfl (ai (ai rfl rfl) (ai (ai rfl rfl) (ai (ai (ai (fun _=>rfl) (aP (by omega))) rfl) (ai (ai (ai (ai nof rfl) rfl) (ai (ai (ai nof (ai rfl (fun _ _=>rfl))) rfl) (ai (ai rfl (ai rfl (ai ?_ ?_))) (ai (ai nof rfl) rfl)))) (ai (ai rfl (ai rfl (ai ?_ ?_))) trivial)))))) rfl) (ai (ai (iL (by omega)) trivial) (iM (by omega)))))
    all_goals rw[e]
    ·exact fun _ _=>rfl
    ·exact fun _ _=>rfl
 ·obtain rfl:k=s.sts.length:=by omega
  refine ah (p:=24<(dI s s.sts.length).length) (au (by omega)) (fun h4=>?_) (fun h4=>?_)
  ·have e:wu s=5:=by unfold wu;rw[if_neg (fun h=>h h1),if_pos h4]
   refine ai (ai (fun h=>absurd (show false=true from h) (by decide)) ?_) trivial
   show ak _ (ofRaw s)
   rw[ofRaw,e,if_neg (show ¬(5:Int)=0 by decide)]
   exact (ai (ai rfl (ai rfl (ai rfl rfl))) rfl)
  have e0:wu s=0:=by unfold wu;rw[if_neg (fun h=>h h1),if_neg h4]
  have hA:ofRaw s=.tup [afz s.act (dI s s.sts.length),iP 0]:=by unfold ofRaw;rw[if_pos e0]
  have hp0:=(hL s.sts.length (aha _)).2
  clear hL
  generalize dI s s.sts.length=p at *
  refine ei (bE.inv { X:=Nat,up:=fun k=>[(71,.s (iA k))],uo:=fun k=>[⟨3,36,[.s (iA s.act),.s (.p false abC),.rw 89 2 p.length (fun j=>uU (p.getD j qd).1),asV p k]⟩],inv:=fun k=>k≤p.length∧(True),meas:=fun k=>p.length-k,x0:=0 }) ?_
  refine ai (ai (ai (by exact (a4 (ai rfl rfl))) (ai ?_ ?_)) rfl) (ai (ai (afc _) ?_) ?_)
  ·exact (ai (ai (fun _=>rfl) (iE (by simp only[zz,reduceCtorEq];rfl))) rfl)
  ·exact (ai (ai (ai (ai nof rfl) rfl) (ai (ai (ai nof (ai rfl (fun _ _=>rfl))) rfl) (ai (ai rfl (ai rfl (ai rfl (fun _ _=>rfl)))) rfl))) trivial)
  ·trivial
  intro (k:Nat) ⟨hk,_⟩
  refine ah (p:=k<p.length) (au (by omega)) (fun h5=>?_) (fun h5=>?_)
  ·have hw1:IntKind.i64.wrap ((k:Int)+1)=((k+1:Nat):Int):=aP (by omega)
   refine ei (.one 0 (.one 1 (.one 2 (.one 4 (.one 5 (.one 6 (.one 7 (.one 8 (.one 9 (.one 11 (.one 12 (.one 13 (.one 14 (.alt 3 (.one 10 (.one 15 (.one 16 (.one 17 (.one 18 (.one 19 .done)))))) (.alt 10 (.one 3 (.one 15 (.one 16 (.one 17 (.one 18 (.one 19 .done)))))) .stop))))))))))))))) (ai (by kernel_rfl) ?_)
   refine ai (by show ¬(p.length:Int)=0;omega) ?_
   refine ai (ai (abq _) (by show (k:Int)<(p.length:Int);omega)) ?_
   refine ai (by show k<p.length;exact h5) ?_
   refine ai ?_ (ai ?_ trivial)
   ·refine ai (mxL (n:=k+1) (by omega) (by decide)) (ai (fun j hj=>by
     have hj:j<1:=hj
     obtain rfl:j=0:=by omega
     rfl) ?_)
    refine ei (k+1) (ai (ai rfl rfl) (ai (ai (ai rfl (ai (ai rfl rfl) (ai (ai rfl rfl) (ai (ai (ai (fun _=>rfl) (aP (by omega))) rfl) (ai (ai (ai (ai nof rfl) rfl) (ai (ai (ai nof (ai rfl (fun _ _=>rfl))) rfl) (ai (ai rfl (ai rfl (ai rfl (fun _ _=>rfl)))) (ai rfl (ai rfl (ai rfl ?_)))))) trivial))))) rfl) (ai (ai (iL (by omega)) trivial) (iM (by omega)))))
    refine aiX p k ?_
    show [PV.seq 1 (bn 1 [iP (k:Int)]),.seq 1 (bn 1 [iP ((IntKind.i64.wrap ((k:Int)+1)).tmod (p.length:Int))]),(p.getD k qd).2.1,(p.getD k qd).2.2.1,(p.getD k qd).2.2.2]=_
    rw[hw1];rfl
   ·refine ai (mxL (n:=k+1) (by omega) (by decide)) (ai (fun j hj=>by
     have hj:j<1:=hj
     obtain rfl:j=0:=by omega
     rfl) ?_)
    refine ei (k+1) (ai (ai rfl rfl) (ai (ai (ai rfl (ai (ai rfl rfl) (ai (ai rfl rfl) (ai (ai (ai (fun _=>rfl) (aP (by omega))) rfl) (ai (ai (ai (ai nof rfl) rfl) (ai (ai (ai nof (ai rfl (fun _ _=>rfl))) rfl) (ai (ai rfl (ai rfl (ai rfl (fun _ _=>rfl)))) (ai rfl (ai rfl (ai rfl ?_)))))) trivial))))) rfl) (ai (ai (iL (by omega)) trivial) (iM (by omega)))))
    refine aiX p k ?_
    show [PV.seq 1 (bn 1 [iP (k:Int)]),.seq 1 (bn 1 [iP ((IntKind.i64.wrap ((k:Int)+1)).tmod (p.length:Int))]),(p.getD k qd).2.1,(p.getD k qd).2.2.1,(p.getD k qd).2.2.2]=_
    rw[hw1];rfl
  ·obtain rfl:k=p.length:=by omega
   refine ai (ai (fun h=>absurd (show false=true from h) (by decide)) ?_) trivial
   show ak _ (ofRaw s)
   rw[hA]
   exact (ai (ai rfl (ai (ai rfl (fun _ _=>rfl)) (ai (ai rfl (fun _ _=>rfl)) (ai rfl (fun _ _=>rfl))))) rfl)
def toC (x:Ex):C3:=(iP x.op,iP x.idx,if x.op=1 then .val (.slice none 0 0) else .seq x.args.length (fun k=>uf (x.args.getD k dF).idx))
theorem apx (n:Int):ze n=toC (vN n):=rfl
theorem ajb (l:List Sk):lG l=toC (afP l):=by
 match l with
 | [y]=>rfl
 | []=>
  show (iP 3,iP 0,PV.seq 0 (xw []))=(iP 3,iP 0,PV.seq 0 (fun k=>uf (([]:List Ex).getD k dF).idx))
  exact congrArg (fun f:Nat→List PV=>((iP 3,iP 0,PV.seq 0 f):C3)) (funext fun k=>by cases k<;>rfl)
 | a :: b :: l=>
  show (iP 3,iP 0,PV.seq (a :: b :: l).length (xw (a :: b :: l)))=(iP 3,iP 0,PV.seq ((a :: b :: l).map fun y=>vN (mR y)).length (fun k=>uf (((a :: b :: l).map fun y=>vN (mR y)).getD k dF).idx))
  rw[amo]
  refine congrArg (fun f:Nat→List PV=>((iP 3,iP 0,PV.seq (a :: b :: l).length f):C3)) (funext fun k=>?_)
  show uf (mR ((a :: b :: l).getD k bJ))=_
  rw[abo,abo,ajs]
  cases (a :: b :: l)[k]?<;>rfl
def okX (x:Ex):Prop:=(x.op=1∧x.args=[])∨(x.op=3∧∀y∈x.args,y.op=1∧y.args=[])
theorem aiO (n:Int):okX (vN n):=.inl ⟨rfl,rfl⟩
theorem ajx (l:List Sk):okX (afP l):=by
 match l with
 | [y]=>exact .inl ⟨rfl,rfl⟩
 | []=>exact .inr ⟨rfl,fun y hy=>by simp[afP] at hy⟩
 | a :: b :: l=>
  refine .inr ⟨rfl,fun y hy=>?_⟩
  obtain ⟨z,_,rfl⟩:=asJ.1 hy
  exact ⟨rfl,rfl⟩
abbrev SX := Stp × Ex
def sx0:SX:=(st0,vN 0)
def agJ (act:Int) (p:List SX) (x:Stp):List SX:=
 if 0<x.wt then (p++[(⟨x.st,0⟩,afP x.st)])++[(⟨[],x.wt⟩,vN (2*act+1+((p.length+1:Nat):Int)))] else p++[(⟨x.st,0⟩,afP x.st)]
def an5 (s:mI):List SX:=s.sts.foldl (agJ s.act) [(⟨[],0⟩,vN (2*s.act))]
def adz (q:SX):SC:=(q.1,toC q.2)
theorem aoh (s:mI):dI s s.sts.length=(an5 s).map adz:=by
 have key:∀(l:List Stp) (p:List SX),l.foldl (um s.act) (p.map adz)=(l.foldl (agJ s.act) p).map adz:=by
  intro l
  induction l with
  | nil=>intro p;rfl
  | cons x l ih=>
   intro p
   rw[asL,asL,←ih]
   congr 1
   unfold um agJ
   rw[amo]
   split
   ·rw[asG,asG,ajb,apx];rfl
   ·rw[asG,ajb];rfl
 have:=key s.sts [(⟨[],0⟩,vN (2*s.act))]
 unfold dI
 rw[ahb]
 exact this
theorem apk (s:mI):∀q∈an5 s,okX q.2:=by
 have key:∀(l:List Stp) (p:List SX),(∀q∈p,okX q.2)→∀q∈l.foldl (agJ s.act) p,okX q.2:=by
  intro l
  induction l with
  | nil=>intro p h;exact h
  | cons x l ih=>
   intro p h
   rw[asL]
   refine ih _ fun q hq=>?_
   unfold agJ at hq
   split at hq
   ·rcases ahN.1 hq with hq | hq
    ·rcases ahN.1 hq with hq | hq
     ·exact h q hq
     ·simp only[aiy] at hq;subst hq;exact ajx _
    ·simp only[aiy] at hq;subst hq;exact aiO _
   ·rcases ahN.1 hq with hq | hq
    ·exact h q hq
    ·simp only[aiy] at hq;subst hq;exact ajx _
 exact key s.sts _ fun q hq=>by simp only[aiy] at hq;subst hq;exact aiO _
def alz:List UInt8:=[115,116,97,114,116]
def agb (p:List SX) (k:Nat):jP:=⟨[(k:Int)],[toN k p.length],(p.getD k sx0).2⟩
def chX (act:Int) (p:List SX):aJ:=⟨act,[alz],p.map (·.1),(List.range p.length).map (agb p)⟩
def ofC (s:mI):aJ:=if wu s=0 then chX s.act (an5 s) else ⟨0,[],[],[]⟩
theorem bG {a b:PV} {l m:List PV} (h:gW a b) (hl:bN l m):bN (a :: l) (b :: m):=by
 refine ⟨by simp[hl.1],fun k s s' hs hs'=>?_⟩
 match k with
 | 0=>cases hs;cases hs';exact h
 | k+1=>exact hl.2 k s s' (by simpa using hs) (by simpa using hs')
theorem ng:bN [] []:=⟨rfl,fun k s s' hs _=>by simp at hs⟩
theorem gK {n:Nat} {f g:Nat→List PV} (h:∀k,k<n→bN (f k) (g k)):gW (.seq n f) (.seq n g):=
 .seq n f g (fun j hj=>(h j hj).1) fun j k s s' hj hs hs'=>(h j hj).2 k s s' hs hs'
theorem vX {l m:List PV} (h:bN l m):gW (.agg l) (.agg m):=.agg l m h.1 h.2
theorem ai4 {l m:List PV} (h:bN l m):gW (.tup l) (.tup m):=.tup l m h.1 h.2
theorem amL (x:Int):gW (.seq 1 (bn 1 [iP x])) (jD [x]):=aol rfl fun j hj=>by
 obtain rfl:j=0:=by omega
 rfl
theorem arF {x:Ex} (h:okX x):bN (yV (toC x)) (vk x):=by
 refine bG (.refl _) (bG (.refl _) (bG ?_ ng))
 show gW (if x.op=1 then .val (.slice none 0 0) else .seq x.args.length (fun k=>uf (x.args.getD k dF).idx)) (.seq x.args.length (exF x.args))
 rcases h with ⟨h1,h2⟩ | ⟨h1,h2⟩
 ·rw[if_pos h1,h2];exact .nil _
 ·rw[if_neg (by rw[h1];decide)]
  refine gK fun k hk=>?_
  have hy:=h2 _ (adh (bI dF hk))
  show bN (uf (x.args.getD k dF).idx) (exF x.args k)
  unfold exF uf
  rw[hy.1,hy.2]
  exact bG (.refl _) (bG (.refl _) (bG (.nil _) ng))
theorem aqY:gW abC (ssP [alz]):=gK fun k hk=>by
 obtain rfl:k=0:=by omega
 exact bN.rfl' _
theorem arB (x:Stp):bN (uU x) (stK x):=by
 refine bG ?_ (bG (.refl _) ng)
 split
 ·rename_i h;rw[h];exact .nil _
 ·exact .refl _
theorem agy (p:List SX) {k:Nat} (hk:k<p.length):(p.map adz).getD k qd=adz (p.getD k sx0):=by
 rw[abo,abo,ajs,abn hk];rfl
theorem anB (act:Int) {p:List SX} (h:∀q∈p,okX q.2):gW (afz act (p.map adz)) (vC (chX act p)):=by
 unfold afz vC chK chX
 rw[amo]
 refine vX (bG (.refl _) (bG aqY (bG ?_ (bG ?_ ng))))
 ·show gW _ (.seq (p.map (·.1)).length (fun k=>stK ((p.map (·.1)).getD k st0)))
  rw[amo]
  refine gK fun k hk=>?_
  rw[agy p hk]
  have:(p.map (·.1)).getD k st0=(p.getD k sx0).1:=by
   rw[abo,abo,ajs,abn hk];rfl
  rw[this]
  exact arB _
 ·show gW _ (.seq ((List.range p.length).map (agb p)).length (fun k=>trK (((List.range p.length).map (agb p)).getD k aF)))
  rw[amo,List.length_range]
  refine gK fun k hk=>?_
  have e1:((List.range p.length).map (agb p)).getD k aF=agb p k:=by
   rw[abo,ajs,aud hk];rfl
  rw[e1]
  unfold aaX
  rw[agy p hk,amo]
  have h3:=arF (h _ (adh (bI sx0 hk)))
  exact bG (amL _) (bG (amL _) h3)
theorem anT (s:mI):gW (ofRaw s) (.tup [vC (ofC s),iP (wu s)]):=by
 unfold ofRaw ofC
 by_cases h:wu s=0
 ·rw[if_pos h,if_pos h,h,aoh]
  exact ai4 (bG (anB _ (apk s)) (bG (.refl _) ng))
 ·rw[if_neg h,if_neg h]
  refine ai4 (bG ?_ (bG (.refl _) ng))
  exact vX (bG (.refl _) (bG (.nil _) (bG (.nil _) (bG (.nil _) ng))))
def ofP (s:mI):PV:=.tup [vC (ofC s),iP (wu s)]
theorem afr:aL Tryz.prog 18 (iO (fun s:mI=>[sqA s]) (fun _=>True) ofP):=adP ah1 fun s _=>anT s
abbrev Bst := List Int × Bool
def xD (c:aJ) (y:Mk) (k:Nat):Bool:=allM y.1 (uZ c k).fr&&zf c y.1 k
def jH (c:aJ) (y:Mk) (s:Bst) (k:Nat):Bst:=if xD c y k then (if !s.2||decide (cmpL (y.2++[(k:Int)]) s.1<0) then (y.2++[(k:Int)],true) else s) else s
def dA (c:aJ) (y:Mk) (s:Bst):Nat→Bst
 | 0=>s
 | k+1=>jH c y (dA c y s k) k
def vL (c:aJ):List Mk→Bst→Bst
 | [],s=>s
 | y :: l,s=>if s.2&&decide (s.1.length<y.2.length+1) then s else vL c l (dA c y s c.trs.length)
def su (c:aJ):Bst:=vL c (lZ c) ([],false)
def xM (c:aJ):PV:=if uF c=0 then .tup [bP (!(su c).2),jD (su c).1,iP 0] else .tup [bP false,jD [],iP (uF c)]
theorem aa2 (l:List Int) (k:Nat):∀j,j<0+l.length+1→bS (0+l.length) (bS 0 (bn 1 []) (fun j=>[iP (l.getD j 0)])) (bn 1 [iP (k:Int)]) j=[iP ((l++[(k:Int)]).getD j 0)]:=fun j hj=>
 adS (a:=l) (b:=[(k:Int)]) (aiF _) (fun j hj=>afF (n:=l.length) j (by omega)) (fun j hj=>by
  have hj:j<1:=hj
  obtain rfl:j=0:=by omega
  rfl) j (by rw[aaf];show j<l.length+1;omega)
theorem apq:aL Tryz.prog 13 (iO (fun c:aJ=>[jJ c]) jd xM):=by
 refine jy [63] ?_
 refine aY (Tb:=tab) mixed aB Tryz.func13 rfl rfl ?_
 rintro (c:aJ) hpre
 refine ai (ai rfl (ai rfl rfl)) ?_
 have ho:jd c:=hpre
 refine ei _ (ai (aby) (ei (c) (ei [] (ai (a4 (ai (fun _=>Or.inl rfl) (ai nof (Or.inl rfl)))) (ai (by exact (ai rfl (ai (ai rfl (fun _ _=>rfl)) (ai (ai rfl (fun _ _=>rfl)) (ai rfl (fun _ _=>rfl)))))) (ai trivial (ai (ho) ?_)))))))
 refine bg (p:=uF c=0) (bK (by omega)) (fun h1=>?_) (fun h1=>?_)
 ·refine ai (ai (fun h=>absurd (show false=true from h) (by decide)) ?_) trivial
  show ak _ (xM c)
  rw[xM,if_neg h1]
  exact (ai rfl (ai rfl rfl))
 have hA:xM c=.tup [bP (!(su c).2),jD (su c).1,iP 0]:=by unfold xM;rw[if_pos h1]
 obtain ⟨hc,hx⟩:=agW h1
 obtain ⟨hg,hl,hw⟩:=agr h1
 have h32:=(gL hc).2.2.2.1
 have hS:su c=vL c (lZ c) ([],false):=rfl
 generalize lZ c=L at *
 refine ei (bE.inv { X:=Nat×Bst,up:=fun x=>[(27,.s (iA x.1)),(8,isR x.2.1),(9,.s (.p false (bP x.2.2)))],uo:=fun _=>[],inv:=fun x=>x.1≤L.length∧su c=vL c (L.drop x.1) x.2,meas:=fun x=>L.length-x.1,x0:=(0,([],false)) }) ?_
 refine ai (ai (ai (by exact (a4 (ai rfl rfl))) (ai ?_ ?_)) ?_) (ai ?_ ?_)
 ·exact (ai (ai (ai (fun _=>rfl) (iE (by simp only[zz,reduceCtorEq];rfl))) rfl) (ai rfl (ai (ai (fun _=>rfl) rfl) rfl)))
 ·exact trivial
 ·rfl
 ·exact ⟨afc _,hS⟩
 rintro ⟨a,s⟩ ⟨hal,hs⟩
 have hal:a≤L.length:=hal
 have hs:su c=vL c (L.drop a) s:=hs
 refine ah (p:=a<L.length) (au (by omega)) (fun h2=>?_) (fun h2=>?_)
 ·refine ai (ai (abq _) (iN (n:=L.length) (by omega))) (ai rfl ?_)
  refine ei (eP (L.getD a ay).1) (ai (ahz _) ?_)
  have hy:=adh (bI ay h2)
  have hd:L.drop a=L.getD a ay :: L.drop (a+1):=by
   rw[aoN h2,abo,abn h2];rfl
  have hga:=hg _ hy
  have hwa:=hw _ hy
  rw[hd] at hs
  refine aX (b:=s.2) rfl (fun h3=>?_) (fun h3=>?_)
  ·refine ai (ai (abq _) (iN (n:=L.length) (by omega))) (ai rfl ?_)
   refine ah (p:=s.1.length<(L.getD a ay).2.length+1) (by exact au (show (s.1.length:Int)<IntKind.i64.wrap (((L.getD a ay).2.length:Int)+1)↔_ by rw[show IntKind.i64.wrap (((L.getD a ay).2.length:Int)+1)=((L.getD a ay).2.length:Int)+1 from aP (by omega)];omega)) (fun h4=>?_) (fun h4=>?_)
   ·have e:su c=s:=by rw[hs,vL,if_pos (by rw[h3,decide_eq_true h4];rfl)]
    refine ai (ai (fun h=>absurd (show false=true from h) (by decide)) ?_) trivial
    show ak _ (xM c)
    rw[hA,e]
    exact (ai rfl (ai (ai rfl (fun _ _=>rfl)) rfl))
   ·have hs2:su c=vL c (L.drop (a+1)) (dA c (L.getD a ay) s c.trs.length):=by rw[hs,vL,if_neg (by rw[decide_eq_false h4];simp)]
    refine ei (bE.inv { X:=Nat,up:=fun k=>[(47,.s (iA k)),(8,isR (dA c (L.getD a ay) s k).1),(9,.s (.p false (bP (dA c (L.getD a ay) s k).2)))],uo:=fun k=>[],inv:=fun k=>k≤c.trs.length∧(True),meas:=fun k=>c.trs.length-k,x0:=0 }) ?_
    refine ai (ai (ai (by exact (a4 (ai rfl rfl))) (ai ?_ ?_)) rfl) (ai (ai (afc _) ?_) ?_)
    ·exact (ai (ai (ai (fun _=>rfl) (iE (by simp only[zz,reduceCtorEq];rfl))) rfl) (ai (ai rfl (ai rfl (ai rfl (fun _ _=>rfl)))) (ai (ai nof rfl) rfl)))
    ·exact trivial
    ·trivial
    intro (k:Nat) ⟨hk,_⟩
    have hst:dA c (L.getD a ay) s (k+1)=jH c (L.getD a ay) (dA c (L.getD a ay) s k) k:=rfl
    refine ah (p:=k<c.trs.length) (au (by omega)) (fun h5=>?_) (fun h5=>?_)
    ·refine ei _ (ai ((jc aaR (c,(L.getD a ay).1,k) ⟨hc,ho,hga.1,h5⟩ (r:=.tup [mQ (bf c (L.getD a ay).1 k).1,bP (qc c k (L.getD a ay).1)]) (by show aad c (L.getD a ay).1 k=_;unfold aad;rw[aqL]))) (ei (()) (ei [] (ai (a4 (ai (fun _=>Or.inl rfl) (ai nof (Or.inl rfl)))) (ai (by exact (ai (ai rfl (ai (ai rfl (fun _ _=>rfl)) (ai (ai rfl (fun _ _=>rfl)) (ai rfl (fun _ _=>rfl))))) (ai (ai rfl (fun _ _=>rfl)) rfl))) (ai trivial (ai (trivial) ?_)))))))
     refine aX (b:=!qc c k (L.getD a ay).1) rfl (fun h6=>?_) (fun h6=>?_)
     ·have h6:allM (L.getD a ay).1 (uZ c k).fr=false:=by simpa [qc] using h6
      have e:dA c (L.getD a ay) s (k+1)=dA c (L.getD a ay) s k:=by rw[hst];unfold jH;rw[if_neg (by unfold xD;rw[h6];simp)]
      refine ei (k+1) (ai (ai rfl rfl) (ai (ai (ai rfl (ai (ai rfl rfl) (ai (ai rfl rfl) (ai (ai (ai (ai (fun _=>rfl) (aP (by omega))) rfl) (ai (ai rfl (ai rfl (ai ?_ ?_))) (ai (ai nof ?_) rfl))) trivial)))) rfl) (ai (ai (iL (by omega)) trivial) (iM (by omega)))))
      all_goals rw[e]
      ·exact fun _ _=>rfl
      ·exact rfl
     have h6:allM (L.getD a ay).1 (uZ c k).fr=true:=by simpa [qc] using h6
     refine ei _ (ai (aeu) (ei ((c,(L.getD a ay).1,k)) (ei [] (ai (a4 (ai (fun _=>Or.inl rfl) (ai nof (Or.inl rfl)))) (ai (by exact (ai (ai rfl (ai (ai rfl (fun _ _=>rfl)) (ai (ai rfl (fun _ _=>rfl)) (ai rfl (fun _ _=>rfl))))) (ai (ai rfl (fun _ _=>rfl)) rfl))) (ai trivial (ai (⟨hc,ho,h5⟩) ?_)))))))
     refine aX (b:=!zf c (L.getD a ay).1 k) rfl (fun h7=>?_) (fun h7=>?_)
     ·have h7:zf c (L.getD a ay).1 k=false:=by simpa using h7
      have e:dA c (L.getD a ay) s (k+1)=dA c (L.getD a ay) s k:=by rw[hst];unfold jH;rw[if_neg (by unfold xD;rw[h7];simp)]
      refine ei (k+1) (ai (ai rfl rfl) (ai (ai (ai rfl (ai (ai rfl rfl) (ai (ai rfl rfl) (ai (ai (ai (ai (fun _=>rfl) (aP (by omega))) rfl) (ai (ai rfl (ai rfl (ai ?_ ?_))) (ai (ai nof ?_) rfl))) trivial)))) rfl) (ai (ai (iL (by omega)) trivial) (iM (by omega)))))
      all_goals rw[e]
      ·exact fun _ _=>rfl
      ·exact rfl
     have h7:zf c (L.getD a ay).1 k=true:=by simpa using h7
     have hbad:xD c (L.getD a ay) k=true:=by unfold xD;rw[h6,h7];rfl
     refine ai (ai (abq _) (iN (n:=L.length) (by omega))) (ai rfl ?_)
     have hcl:((L.getD a ay).2++[(k:Int)]).length≤1000000:=by rw[aaf];show (L.getD a ay).2.length+1≤_;omega
     refine fE mixed aB Tryz.func63 rfl rfl ?_
     refine ai rfl ?_
     intro b hb
     refine aZ (fun hb0=>?_) (fun hb0=>?_)
     ·have hb1:(L.getD a ay).2.length=0:=hb hb0
      have hb2:=aqH.1 hb1
      refine ai (ai (by decide) (by decide)) (ai (aI 1 rfl) ?_)
      refine aX (b:=!(dA c (L.getD a ay) s k).2) rfl (fun h8=>?_) (fun h8=>?_)
      ·have e:dA c (L.getD a ay) s (k+1)=((L.getD a ay).2++[(k:Int)],true):=by rw[hst];unfold jH;rw[if_pos hbad,if_pos (by rw[h8];rfl)]
       refine ei (k+1) (ai (ai rfl rfl) (ai (ai (ai rfl (ai (ai rfl rfl) (ai (ai rfl rfl) (ai (ai (ai (ai (fun _=>rfl) (aP (by omega))) rfl) (ai (ai rfl (ai rfl (ai ?_ ?_))) (ai (ai (fun _=>rfl) ?_) rfl))) trivial)))) rfl) (ai (ai (iL (by omega)) trivial) (iM (by omega)))))
       all_goals rw[e]
       ·(rw[hb2];first | done | rfl)
       ·(rw[hb2];intro j hj;have hj:j<1:=hj;obtain rfl:j=0:=(by omega);rfl)
       ·exact rfl
      refine ei _ (ai (aaI) (ei (((L.getD a ay).2++[(k:Int)],(dA c (L.getD a ay) s k).1)) (ei [] (ai (ai rfl (ai rfl (ai rfl (ai rfl (ai (fun _=>Or.inl rfl) (ai (fun _=>ai rfl rfl) (Or.inl rfl))))))) (ai ?_ (ai (by exact trivial) (ai (hcl) ?_)))))))
      ·refine (ai (ai ?_ ?_) (ai rfl (fun _ _=>rfl)))
       ·(rw[hb2];first | done | rfl)
       ·(rw[hb2];intro j hj;have hj:j<1:=hj;obtain rfl:j=0:=(by omega);rfl)
      refine ah (p:=cmpL ((L.getD a ay).2++[(k:Int)]) (dA c (L.getD a ay) s k).1<0) (au Iff.rfl) (fun h9=>?_) (fun h9=>?_)
      ·have e:dA c (L.getD a ay) s (k+1)=((L.getD a ay).2++[(k:Int)],true):=by rw[hst];unfold jH;rw[if_pos hbad,if_pos (by rw[decide_eq_true h9];simp)]
       refine ei (k+1) (ai (ai rfl rfl) (ai (ai (ai rfl (ai (ai rfl rfl) (ai (ai rfl rfl) (ai (ai (ai (ai (fun _=>rfl) (aP (by omega))) rfl) (ai (ai rfl (ai rfl (ai ?_ ?_))) (ai (ai (fun _=>rfl) ?_) rfl))) trivial)))) rfl) (ai (ai (iL (by omega)) trivial) (iM (by omega)))))
       all_goals rw[e]
       ·(rw[hb2];first | done | rfl)
       ·(rw[hb2];intro j hj;have hj:j<1:=hj;obtain rfl:j=0:=(by omega);rfl)
       ·exact rfl
      ·have e:dA c (L.getD a ay) s (k+1)=dA c (L.getD a ay) s k:=by rw[hst];unfold jH;rw[if_pos hbad,if_neg (by rw[h8,decide_eq_false h9];simp)]
       refine ei (k+1) (ai (ai rfl rfl) (ai (ai (ai rfl (ai (ai rfl rfl) (ai (ai rfl rfl) (ai (ai (ai (ai (fun _=>rfl) (aP (by omega))) rfl) (ai (ai rfl (ai rfl (ai ?_ ?_))) (ai (ai nof ?_) rfl))) trivial)))) rfl) (ai (ai (iL (by omega)) trivial) (iM (by omega)))))
       all_goals rw[e]
       ·exact fun _ _=>rfl
       ·exact rfl
     ·refine ai (mxL (n:=0+(L.getD a ay).2.length) (by omega) (by decide)) (ai (fun _ _=>rfl) ?_)
      refine ai (mxL (n:=0+(L.getD a ay).2.length+1) (by omega) (by decide)) (ai (aI 1 rfl) ?_)
      refine aX (b:=!(dA c (L.getD a ay) s k).2) rfl (fun h8=>?_) (fun h8=>?_)
      ·have e:dA c (L.getD a ay) s (k+1)=((L.getD a ay).2++[(k:Int)],true):=by rw[hst];unfold jH;rw[if_pos hbad,if_pos (by rw[h8];rfl)]
       refine ei (k+1) (ai (ai rfl rfl) (ai (ai (ai rfl (ai (ai rfl rfl) (ai (ai rfl rfl) (ai (ai (ai (ai (fun _=>rfl) (aP (by omega))) rfl) (ai (ai rfl (ai rfl (ai ?_ ?_))) (ai (ai (fun _=>rfl) ?_) rfl))) trivial)))) rfl) (ai (ai (iL (by omega)) trivial) (iM (by omega)))))
       all_goals rw[e]
       ·(rw[aaf];exact congrArg (·+1) (aiF _))
       ·exact aa2 _ _
       ·exact rfl
      refine ei _ (ai (aaI) (ei (((L.getD a ay).2++[(k:Int)],(dA c (L.getD a ay) s k).1)) (ei [] (ai (ai rfl (ai rfl (ai rfl (ai rfl (ai (fun _=>Or.inl rfl) (ai (fun _=>ai rfl rfl) (Or.inl rfl))))))) (ai ?_ (ai (by exact trivial) (ai (hcl) ?_)))))))
      ·refine (ai (ai ?_ ?_) (ai rfl (fun _ _=>rfl)))
       ·(rw[aaf];exact congrArg (·+1) (aiF _))
       ·exact aa2 _ _
      refine ah (p:=cmpL ((L.getD a ay).2++[(k:Int)]) (dA c (L.getD a ay) s k).1<0) (au Iff.rfl) (fun h9=>?_) (fun h9=>?_)
      ·have e:dA c (L.getD a ay) s (k+1)=((L.getD a ay).2++[(k:Int)],true):=by rw[hst];unfold jH;rw[if_pos hbad,if_pos (by rw[decide_eq_true h9];simp)]
       refine ei (k+1) (ai (ai rfl rfl) (ai (ai (ai rfl (ai (ai rfl rfl) (ai (ai rfl rfl) (ai (ai (ai (ai (fun _=>rfl) (aP (by omega))) rfl) (ai (ai rfl (ai rfl (ai ?_ ?_))) (ai (ai (fun _=>rfl) ?_) rfl))) trivial)))) rfl) (ai (ai (iL (by omega)) trivial) (iM (by omega)))))
       all_goals rw[e]
       ·(rw[aaf];exact congrArg (·+1) (aiF _))
       ·exact aa2 _ _
       ·exact rfl
      ·have e:dA c (L.getD a ay) s (k+1)=dA c (L.getD a ay) s k:=by rw[hst];unfold jH;rw[if_pos hbad,if_neg (by rw[h8,decide_eq_false h9];simp)]
       refine ei (k+1) (ai (ai rfl rfl) (ai (ai (ai rfl (ai (ai rfl rfl) (ai (ai rfl rfl) (ai (ai (ai (ai (fun _=>rfl) (aP (by omega))) rfl) (ai (ai rfl (ai rfl (ai ?_ ?_))) (ai (ai nof ?_) rfl))) trivial)))) rfl) (ai (ai (iL (by omega)) trivial) (iM (by omega)))))
       all_goals rw[e]
       ·exact fun _ _=>rfl
       ·exact rfl
    ·obtain rfl:k=c.trs.length:=by omega
     refine ei ((a+1,dA c (L.getD a ay) s c.trs.length)) (ai (ai rfl rfl) (ai (ai ?_ rfl) (ai ?_ ?_)))
     ·exact (ai rfl (ai (ai rfl rfl) (ai (ai rfl rfl) (ai (ai (ai (ai (fun _=>rfl) (aP (by omega))) rfl) (ai (ai rfl (ai rfl (ai rfl (fun _ _=>rfl)))) (ai (ai nof rfl) rfl))) trivial))))
     ·exact ⟨h2,hs2⟩
     ·show L.length-(a+1)<L.length-a;omega
  ·have hs2:su c=vL c (L.drop (a+1)) (dA c (L.getD a ay) s c.trs.length):=by rw[hs,vL,if_neg (by rw[h3];simp)]
   refine ei (bE.inv { X:=Nat,up:=fun k=>[(47,.s (iA k)),(8,isR (dA c (L.getD a ay) s k).1),(9,.s (.p false (bP (dA c (L.getD a ay) s k).2)))],uo:=fun k=>[],inv:=fun k=>k≤c.trs.length∧(True),meas:=fun k=>c.trs.length-k,x0:=0 }) ?_
   refine ai (ai (ai (by exact (a4 (ai rfl rfl))) (ai ?_ ?_)) rfl) (ai (ai (afc _) ?_) ?_)
   ·exact (ai (ai (ai (fun _=>rfl) (iE (by simp only[zz,reduceCtorEq];rfl))) rfl) (ai (ai rfl (ai rfl (ai rfl (fun _ _=>rfl)))) (ai (ai nof rfl) rfl)))
   ·exact trivial
   ·trivial
   intro (k:Nat) ⟨hk,_⟩
   have hst:dA c (L.getD a ay) s (k+1)=jH c (L.getD a ay) (dA c (L.getD a ay) s k) k:=rfl
   refine ah (p:=k<c.trs.length) (au (by omega)) (fun h5=>?_) (fun h5=>?_)
   ·refine ei _ (ai ((jc aaR (c,(L.getD a ay).1,k) ⟨hc,ho,hga.1,h5⟩ (r:=.tup [mQ (bf c (L.getD a ay).1 k).1,bP (qc c k (L.getD a ay).1)]) (by show aad c (L.getD a ay).1 k=_;unfold aad;rw[aqL]))) (ei (()) (ei [] (ai (a4 (ai (fun _=>Or.inl rfl) (ai nof (Or.inl rfl)))) (ai (by exact (ai (ai rfl (ai (ai rfl (fun _ _=>rfl)) (ai (ai rfl (fun _ _=>rfl)) (ai rfl (fun _ _=>rfl))))) (ai (ai rfl (fun _ _=>rfl)) rfl))) (ai trivial (ai (trivial) ?_)))))))
    refine aX (b:=!qc c k (L.getD a ay).1) rfl (fun h6=>?_) (fun h6=>?_)
    ·have h6:allM (L.getD a ay).1 (uZ c k).fr=false:=by simpa [qc] using h6
     have e:dA c (L.getD a ay) s (k+1)=dA c (L.getD a ay) s k:=by rw[hst];unfold jH;rw[if_neg (by unfold xD;rw[h6];simp)]
     refine ei (k+1) (ai (ai rfl rfl) (ai (ai (ai rfl (ai (ai rfl rfl) (ai (ai rfl rfl) (ai (ai (ai (ai (fun _=>rfl) (aP (by omega))) rfl) (ai (ai rfl (ai rfl (ai ?_ ?_))) (ai (ai nof ?_) rfl))) trivial)))) rfl) (ai (ai (iL (by omega)) trivial) (iM (by omega)))))
     all_goals rw[e]
     ·exact fun _ _=>rfl
     ·exact rfl
    have h6:allM (L.getD a ay).1 (uZ c k).fr=true:=by simpa [qc] using h6
    refine ei _ (ai (aeu) (ei ((c,(L.getD a ay).1,k)) (ei [] (ai (a4 (ai (fun _=>Or.inl rfl) (ai nof (Or.inl rfl)))) (ai (by exact (ai (ai rfl (ai (ai rfl (fun _ _=>rfl)) (ai (ai rfl (fun _ _=>rfl)) (ai rfl (fun _ _=>rfl))))) (ai (ai rfl (fun _ _=>rfl)) rfl))) (ai trivial (ai (⟨hc,ho,h5⟩) ?_)))))))
    refine aX (b:=!zf c (L.getD a ay).1 k) rfl (fun h7=>?_) (fun h7=>?_)
    ·have h7:zf c (L.getD a ay).1 k=false:=by simpa using h7
     have e:dA c (L.getD a ay) s (k+1)=dA c (L.getD a ay) s k:=by rw[hst];unfold jH;rw[if_neg (by unfold xD;rw[h7];simp)]
     refine ei (k+1) (ai (ai rfl rfl) (ai (ai (ai rfl (ai (ai rfl rfl) (ai (ai rfl rfl) (ai (ai (ai (ai (fun _=>rfl) (aP (by omega))) rfl) (ai (ai rfl (ai rfl (ai ?_ ?_))) (ai (ai nof ?_) rfl))) trivial)))) rfl) (ai (ai (iL (by omega)) trivial) (iM (by omega)))))
     all_goals rw[e]
     ·exact fun _ _=>rfl
     ·exact rfl
    have h7:zf c (L.getD a ay).1 k=true:=by simpa using h7
    have hbad:xD c (L.getD a ay) k=true:=by unfold xD;rw[h6,h7];rfl
    refine ai (ai (abq _) (iN (n:=L.length) (by omega))) (ai rfl ?_)
    have hcl:((L.getD a ay).2++[(k:Int)]).length≤1000000:=by rw[aaf];show (L.getD a ay).2.length+1≤_;omega
    refine fE mixed aB Tryz.func63 rfl rfl ?_
    refine ai rfl ?_
    intro b hb
    refine aZ (fun hb0=>?_) (fun hb0=>?_)
    ·have hb1:(L.getD a ay).2.length=0:=hb hb0
     have hb2:=aqH.1 hb1
     refine ai (ai (by decide) (by decide)) (ai (aI 1 rfl) ?_)
     refine aX (b:=!(dA c (L.getD a ay) s k).2) rfl (fun h8=>?_) (fun h8=>?_)
     ·have e:dA c (L.getD a ay) s (k+1)=((L.getD a ay).2++[(k:Int)],true):=by rw[hst];unfold jH;rw[if_pos hbad,if_pos (by rw[h8];rfl)]
      refine ei (k+1) (ai (ai rfl rfl) (ai (ai (ai rfl (ai (ai rfl rfl) (ai (ai rfl rfl) (ai (ai (ai (ai (fun _=>rfl) (aP (by omega))) rfl) (ai (ai rfl (ai rfl (ai ?_ ?_))) (ai (ai (fun _=>rfl) ?_) rfl))) trivial)))) rfl) (ai (ai (iL (by omega)) trivial) (iM (by omega)))))
      all_goals rw[e]
      ·(rw[hb2];first | done | rfl)
      ·(rw[hb2];intro j hj;have hj:j<1:=hj;obtain rfl:j=0:=(by omega);rfl)
      ·exact rfl
     refine ei _ (ai (aaI) (ei (((L.getD a ay).2++[(k:Int)],(dA c (L.getD a ay) s k).1)) (ei [] (ai (ai rfl (ai rfl (ai rfl (ai rfl (ai (fun _=>Or.inl rfl) (ai (fun _=>ai rfl rfl) (Or.inl rfl))))))) (ai ?_ (ai (by exact trivial) (ai (hcl) ?_)))))))
     ·refine (ai (ai ?_ ?_) (ai rfl (fun _ _=>rfl)))
      ·(rw[hb2];first | done | rfl)
      ·(rw[hb2];intro j hj;have hj:j<1:=hj;obtain rfl:j=0:=(by omega);rfl)
     refine ah (p:=cmpL ((L.getD a ay).2++[(k:Int)]) (dA c (L.getD a ay) s k).1<0) (au Iff.rfl) (fun h9=>?_) (fun h9=>?_)
     ·have e:dA c (L.getD a ay) s (k+1)=((L.getD a ay).2++[(k:Int)],true):=by rw[hst];unfold jH;rw[if_pos hbad,if_pos (by rw[decide_eq_true h9];simp)]
      refine ei (k+1) (ai (ai rfl rfl) (ai (ai (ai rfl (ai (ai rfl rfl) (ai (ai rfl rfl) (ai (ai (ai (ai (fun _=>rfl) (aP (by omega))) rfl) (ai (ai rfl (ai rfl (ai ?_ ?_))) (ai (ai (fun _=>rfl) ?_) rfl))) trivial)))) rfl) (ai (ai (iL (by omega)) trivial) (iM (by omega)))))
      all_goals rw[e]
      ·(rw[hb2];first | done | rfl)
      ·(rw[hb2];intro j hj;have hj:j<1:=hj;obtain rfl:j=0:=(by omega);rfl)
      ·exact rfl
     ·have e:dA c (L.getD a ay) s (k+1)=dA c (L.getD a ay) s k:=by rw[hst];unfold jH;rw[if_pos hbad,if_neg (by rw[h8,decide_eq_false h9];simp)]
      refine ei (k+1) (ai (ai rfl rfl) (ai (ai (ai rfl (ai (ai rfl rfl) (ai (ai rfl rfl) (ai (ai (ai (ai (fun _=>rfl) (aP (by omega))) rfl) (ai (ai rfl (ai rfl (ai ?_ ?_))) (ai (ai nof ?_) rfl))) trivial)))) rfl) (ai (ai (iL (by omega)) trivial) (iM (by omega)))))
      all_goals rw[e]
      ·exact fun _ _=>rfl
      ·exact rfl
    ·refine ai (mxL (n:=0+(L.getD a ay).2.length) (by omega) (by decide)) (ai (fun _ _=>rfl) ?_)
     refine ai (mxL (n:=0+(L.getD a ay).2.length+1) (by omega) (by decide)) (ai (aI 1 rfl) ?_)
     refine aX (b:=!(dA c (L.getD a ay) s k).2) rfl (fun h8=>?_) (fun h8=>?_)
     ·have e:dA c (L.getD a ay) s (k+1)=((L.getD a ay).2++[(k:Int)],true):=by rw[hst];unfold jH;rw[if_pos hbad,if_pos (by rw[h8];rfl)]
      refine ei (k+1) (ai (ai rfl rfl) (ai (ai (ai rfl (ai (ai rfl rfl) (ai (ai rfl rfl) (ai (ai (ai (ai (fun _=>rfl) (aP (by omega))) rfl) (ai (ai rfl (ai rfl (ai ?_ ?_))) (ai (ai (fun _=>rfl) ?_) rfl))) trivial)))) rfl) (ai (ai (iL (by omega)) trivial) (iM (by omega)))))
      all_goals rw[e]
      ·(rw[aaf];exact congrArg (·+1) (aiF _))
      ·exact aa2 _ _
      ·exact rfl
     refine ei _ (ai (aaI) (ei (((L.getD a ay).2++[(k:Int)],(dA c (L.getD a ay) s k).1)) (ei [] (ai (ai rfl (ai rfl (ai rfl (ai rfl (ai (fun _=>Or.inl rfl) (ai (fun _=>ai rfl rfl) (Or.inl rfl))))))) (ai ?_ (ai (by exact trivial) (ai (hcl) ?_)))))))
     ·refine (ai (ai ?_ ?_) (ai rfl (fun _ _=>rfl)))
      ·(rw[aaf];exact congrArg (·+1) (aiF _))
      ·exact aa2 _ _
     refine ah (p:=cmpL ((L.getD a ay).2++[(k:Int)]) (dA c (L.getD a ay) s k).1<0) (au Iff.rfl) (fun h9=>?_) (fun h9=>?_)
     ·have e:dA c (L.getD a ay) s (k+1)=((L.getD a ay).2++[(k:Int)],true):=by rw[hst];unfold jH;rw[if_pos hbad,if_pos (by rw[decide_eq_true h9];simp)]
      refine ei (k+1) (ai (ai rfl rfl) (ai (ai (ai rfl (ai (ai rfl rfl) (ai (ai rfl rfl) (ai (ai (ai (ai (fun _=>rfl) (aP (by omega))) rfl) (ai (ai rfl (ai rfl (ai ?_ ?_))) (ai (ai (fun _=>rfl) ?_) rfl))) trivial)))) rfl) (ai (ai (iL (by omega)) trivial) (iM (by omega)))))
      all_goals rw[e]
      ·(rw[aaf];exact congrArg (·+1) (aiF _))
      ·exact aa2 _ _
      ·exact rfl
     ·have e:dA c (L.getD a ay) s (k+1)=dA c (L.getD a ay) s k:=by rw[hst];unfold jH;rw[if_pos hbad,if_neg (by rw[h8,decide_eq_false h9];simp)]
      refine ei (k+1) (ai (ai rfl rfl) (ai (ai (ai rfl (ai (ai rfl rfl) (ai (ai rfl rfl) (ai (ai (ai (ai (fun _=>rfl) (aP (by omega))) rfl) (ai (ai rfl (ai rfl (ai ?_ ?_))) (ai (ai nof ?_) rfl))) trivial)))) rfl) (ai (ai (iL (by omega)) trivial) (iM (by omega)))))
      all_goals rw[e]
      ·exact fun _ _=>rfl
      ·exact rfl
   ·obtain rfl:k=c.trs.length:=by omega
    refine ei ((a+1,dA c (L.getD a ay) s c.trs.length)) (ai (ai rfl rfl) (ai (ai ?_ rfl) (ai ?_ ?_)))
    ·exact (ai rfl (ai (ai rfl rfl) (ai (ai rfl rfl) (ai (ai (ai (ai (fun _=>rfl) (aP (by omega))) rfl) (ai (ai rfl (ai rfl (ai rfl (fun _ _=>rfl)))) (ai (ai nof rfl) rfl))) trivial))))
    ·exact ⟨h2,hs2⟩
    ·show L.length-(a+1)<L.length-a;omega
 ·have e:su c=s:=by rw[hs,atM (by omega)];rfl
  refine ai (ai (fun h=>absurd (show false=true from h) (by decide)) ?_) trivial
  show ak _ (xM c)
  rw[hA,e]
  exact (ai rfl (ai (ai rfl (fun _ _=>rfl)) rfl))
end Go.Sx.Pe
namespace Go.Proofs
open Go.Shelf
def Tryz.xH:Go.Shelf.Ren:=⟨fun | 6=>99 | 15=>153 | 14=>152 | 28=>192 | 29=>193 | 20=>184 | 21=>185 | 22=>186 | 23=>187 | 24=>188 | 25=>189 | 26=>190 | 27=>191 | 46=>210 | 47=>211 | 48=>212 | 49=>213 | 50=>214 | 57=>225 | n=>n,fun | 22=>62 | 24=>72 | 25=>169 | 3=>3 | 39=>214 | 0=>0 | 53=>250 | 55=>252 | 4=>4 | 46=>244 | 45=>243 | 50=>101 | 5=>5 | 9=>9 | 66=>265 | 70=>269 | 76=>282 | 77=>283 | n=>n,fun | n=>n⟩
theorem Tryz.al0 : Go.Proofs.SlLaysF.n6 Tryz.prog Tryz.xH := {
  mixed := by kernel_rfl
  f6 := ⟨Tryz.f99.name, by decide, Tryz.func99.trans (congrArg some (by kernel_rfl))⟩
  f14 := ⟨Tryz.f152.name, by decide, Tryz.func152.trans (congrArg some (by kernel_rfl))⟩
  f15 := Tryz.func153.trans (congrArg some (by kernel_rfl))
  f20 := ⟨Tryz.f184.name, by decide, Tryz.func184.trans (congrArg some (by kernel_rfl))⟩
  f21 := ⟨Tryz.f185.name, by decide, Tryz.func185.trans (congrArg some (by kernel_rfl))⟩
  f22 := ⟨Tryz.f186.name, by decide, Tryz.func186.trans (congrArg some (by kernel_rfl))⟩
  f23 := ⟨Tryz.f187.name, by decide, Tryz.func187.trans (congrArg some (by kernel_rfl))⟩
  f24 := ⟨Tryz.f188.name, by decide, Tryz.func188.trans (congrArg some (by kernel_rfl))⟩
  f25 := ⟨Tryz.f189.name, by decide, Tryz.func189.trans (congrArg some (by kernel_rfl))⟩
  f26 := ⟨Tryz.f190.name, by decide, Tryz.func190.trans (congrArg some (by kernel_rfl))⟩
  f27 := ⟨Tryz.f191.name, by decide, Tryz.func191.trans (congrArg some (by kernel_rfl))⟩
  f28 := Tryz.func192.trans (congrArg some (by kernel_rfl))
  f29 := Tryz.func193.trans (congrArg some (by kernel_rfl))
  f46 := ⟨Tryz.f210.name, by decide, Tryz.func210.trans (congrArg some (by kernel_rfl))⟩
  f47 := Tryz.func211.trans (congrArg some (by kernel_rfl))
  f48 := Tryz.func212.trans (congrArg some (by kernel_rfl))
  f49 := ⟨Tryz.f213.name, by decide, Tryz.func213.trans (congrArg some (by kernel_rfl))⟩
  f50 := ⟨Tryz.f214.name, by decide, Tryz.func214.trans (congrArg some (by kernel_rfl))⟩
  f57 := ⟨Tryz.f225.name, by decide, Tryz.func225.trans (congrArg some (by kernel_rfl))⟩
  t0 := Tryz.underlying0
  a0 := Tryz.isAgg0
  z0 := Tryz.sizeOf0
  v0 := Tryz.zeroValue0
  t3 := Tryz.underlying3
  a3 := Tryz.isAgg3
  z3 := Tryz.sizeOf3
  v3 := Tryz.zeroValue3
  t4 := Tryz.underlying4
  a4 := Tryz.isAgg4
  z4 := Tryz.sizeOf4
  v4 := Tryz.zeroValue4
  t5 := Tryz.underlying5
  a5 := Tryz.isAgg5
  z5 := Tryz.sizeOf5
  v5 := Tryz.zeroValue5
  t9 := Tryz.underlying9
  a9 := Tryz.isAgg9
  z9 := Tryz.sizeOf9
  v9 := Tryz.zeroValue9
  t22 := Tryz.underlying62
  a22 := Tryz.isAgg62
  z22 := Tryz.sizeOf62
  v22 := Tryz.zeroValue62
  a24 := Tryz.isAgg72
  z24 := Tryz.sizeOf72
  t25 := Tryz.underlying169
  a25 := Tryz.isAgg169
  z25 := Tryz.sizeOf169
  v25 := Tryz.zeroValue169
  t39 := Tryz.underlying214
  a39 := Tryz.isAgg214
  z39 := Tryz.sizeOf214
  v39 := Tryz.zeroValue214
  t45 := Tryz.underlying243
  a45 := Tryz.isAgg243
  z45 := Tryz.sizeOf243
  v45 := Tryz.zeroValue243
  t46 := Tryz.underlying244
  a46 := Tryz.isAgg244
  z46 := Tryz.sizeOf244
  v46 := Tryz.zeroValue244
  t50 := Tryz.underlying101
  a50 := Tryz.isAgg101
  z50 := Tryz.sizeOf101
  v50 := Tryz.zeroValue101
  t53 := Tryz.underlying250
  a53 := Tryz.isAgg250
  z53 := Tryz.sizeOf250
  v53 := Tryz.zeroValue250
  t55 := Tryz.underlying252
  a55 := Tryz.isAgg252
  z55 := Tryz.sizeOf252
  v55 := Tryz.zeroValue252
  t66 := Tryz.underlying265
  a66 := Tryz.isAgg265
  z66 := Tryz.sizeOf265
  v66 := Tryz.zeroValue265
  t70 := Tryz.underlying269
  a70 := Tryz.isAgg269
  z70 := Tryz.sizeOf269
  v70 := Tryz.zeroValue269
  t76 := Tryz.underlying282
  a76 := Tryz.isAgg282
  z76 := Tryz.sizeOf282
  v76 := Tryz.zeroValue282
  t77 := Tryz.underlying283
  a77 := Tryz.isAgg283
  z77 := Tryz.sizeOf283
  v77 := Tryz.zeroValue283 }
end Go.Proofs
namespace Go.Sx.Pe
open Go Go.Proofs Go.Sx.Pn Go.RowKit Go.Shelf
def BS (w:World) (v:Value) (l:List Bool):Prop:=∃p c,v=.slice p l.length c∧∀k,k<l.length→∃bb o,p=some ⟨bb,o,none⟩∧w.cell? ⟨bb,o+k,none⟩=some (.bool (l.getD k false))
theorem ain (a b:List Bool) (v1 v2:Value) (w:World) (hab:a.length=b.length) (hl:a.length≤1000000) (h1:BS w v1 a) (h2:BS w v2 b) :
  Calls Tryz.prog 100 #[v1,v2] w fun e w'=>e=.returned (.int .i64 (ig a b))∧w'=w:=by
 obtain ⟨p1,c1,rfl,g1⟩:=h1
 obtain ⟨p2,c2,rfl,g2⟩:=h2
 rw[←hab] at g2 ⊢
 have g1:=Lib.hid g1
 have g2:=Lib.hid g2
 go_enter Tryz.func100,Tryz.ntmps100
 go_wp2_with (fail)
 go_loop [9] (fun i=>∃k:Nat,k≤a.length∧i=.int .i64 k∧a.take k=b.take k) (fun i=>a.length-(Proofs.intOf i).toNat)
 case atStart=>exact ⟨0,afc _,rfl,rfl⟩
 case round=>
  obtain ⟨k,hk,rfl,hall⟩:=hrel
  have hall:=Lib.hid hall
  by_cases hlt:k<a.length
  ·obtain ⟨x1,o1,rfl,e1⟩:=g1.out k hlt
   obtain ⟨x2,o2,hp2,e2⟩:=g2.out k hlt
   have he:=Lib.hid (apo hab hlt hall.out)
   have hs:=Lib.hid (ac6 false hlt (by omega) hall.out)
   obtain ⟨ba,hba⟩:∃x,a.getD k false=x:=⟨_,rfl⟩
   obtain ⟨bb,hbb⟩:∃x,b.getD k false=x:=⟨_,rfl⟩
   rw[hba] at e1
   rw[hbb] at e2
   replace hba:=Lib.hid hba
   replace hbb:=Lib.hid hbb
   subst hp2
   cases ba<;>cases bb
   ·go_wp2_with (fail)
    go_round
    case rel=>exact ⟨k+1,by omega,by go_num,hs.out (hba.out.trans hbb.out.symm)⟩
    case measure=>simp[Proofs.intOf];omega
   ·have hr:ig a b=-1:=by rw[he.out (by rw[hba.out,hbb.out];decide),hbb.out];rfl
    have hr:=Lib.hid hr
    go_wp2_with (fail)
    go_ret
    exact ⟨by first | rfl | (rw[hr.out];rfl),rfl⟩
   ·have hr:ig a b=1:=by rw[he.out (by rw[hba.out,hbb.out];decide),hbb.out];rfl
    have hr:=Lib.hid hr
    go_wp2_with (fail)
    go_ret
    exact ⟨by first | rfl | (rw[hr.out];rfl),rfl⟩
   ·go_wp2_with (fail)
    go_round
    case rel=>exact ⟨k+1,by omega,by go_num,hs.out (hba.out.trans hbb.out.symm)⟩
    case measure=>simp[Proofs.intOf];omega
  ·obtain rfl:k=a.length:=by omega
   have hr:ig a b=0:=ajd (by have:=hall.out;rw[ahb,hab,ahb] at this;exact this)
   have hr:=Lib.hid hr
   go_wp2_with (fail)
   go_ret
   exact ⟨by first | rfl | (rw[hr.out];rfl),rfl⟩
end Go.Sx.Pe
namespace Go.Sx.Pe
open Go Go.Proofs Go.Sx.Pn
theorem aav:∀a b:List Bool,ig b a=-ig a b
 | [],[]=>rfl
 | [],_ :: _=>rfl
 | _ :: _,[]=>rfl
 | x :: a,y :: b=>by
  have ih:=aav a b
  cases x<;>cases y<;>simp[ig,ih]
theorem afa:∀{a b:List Bool},a.length=b.length→ig a b=0→a=b
 | [],[],_,_=>rfl
 | [],_ :: _,h,_=>by simp at h
 | _ :: _,[],h,_=>by simp at h
 | x :: a,y :: b,h,e=>by
  have ih:=afa (a:=a) (b:=b) (by simpa using h)
  cases x<;>cases y<;>simp[ig] at e<;>rw[ih e]
theorem xB:∀{a b c:List Bool},a.length=b.length→b.length=c.length→ig a b<0→ig b c<0→ig a c<0
 | [],[],_,_,_,h,_=>by simp[ig] at h
 | [],_ :: _,_,h,_,_,_=>by simp at h
 | _ :: _,[],_,h,_,_,_=>by simp at h
 | _ :: _,_ :: _,[],_,h,_,_=>by simp at h
 | x :: a,y :: b,z :: c,h1,h2,h,k=>by
  have ih:=xB (a:=a) (b:=b) (c:=c) (by simpa using h1) (by simpa using h2)
  cases x<;>cases y<;>cases z<;>simp[ig] at h k ⊢<;>exact ih h k
def oW (a b:List Bool):Prop:=ig a b<0
theorem ai2 {n:Nat} {a b:List Bool} (ha:a.length=n) (hb:b.length=n) (h:¬oW a b):oW b a∨a=b:=by
 unfold oW at *
 by_cases e:ig a b=0
 ·exact .inr (afa (ha.trans hb.symm) e)
 ·left;rw[aav a b];omega
theorem akF (a:List Bool):¬oW a a:=by unfold oW;rw[ajd rfl];decide
theorem ams {a b:List Bool} (h:oW a b):¬oW b a:=by unfold oW at *;rw[aav a b];omega
theorem acG {n:Nat} {a b c:List Bool} (ha:a.length=n) (hb:b.length=n) (hc:c.length=n) (h:¬oW a b) (k:¬oW b c):¬oW a c:=by
 intro h3
 rcases ai2 ha hb h with h | rfl
 ·exact k (xB (hb.trans ha.symm) (ha.trans hc.symm) h h3)
 ·exact k h3
theorem ahA (a b:List Bool):am7 a b=true↔oW a b:=by
 unfold am7 oW
 rw[beq_iff_eq]
 have:ig a b=-1∨ig a b=0∨ig a b=1:=by
  induction a generalizing b with
  | nil=>exact .inr (.inl (by cases b<;>rfl))
  | cons x a ih=>
   cases b with
   | nil=>exact .inr (.inl rfl)
   | cons y b=>
    rw[ig]
    split
    ·exact ih b
    ·split
     ·exact .inl rfl
     ·exact .inr (.inr rfl)
 omega
def posR (A:List (List Bool)) (x:List Bool):Nat→Nat
 | 0=>0
 | k+1=>if am7 x (A.getD k []) then posR A x k else k+1
def rowAt (A:List (List Bool)) (x:List Bool) (k:Nat):List (List Bool):=A.take k++x :: A.drop k
def akg (A:List (List Bool)) (x:List Bool):List (List Bool):=rowAt A x (posR A x A.length)
def nN (l:List (List Bool)):List (List Bool):=l.foldl akg []
theorem aeP (l:List (List Bool)) (x:List Bool):nN (l++[x])=akg (nN l) x:=by unfold nN;rw[asK];rfl
theorem akG (A:List (List Bool)) (x:List Bool) (k:Nat):(rowAt A x k).Perm (x :: A):=by
 unfold rowAt
 refine List.perm_middle.trans ?_
 rw[ato]
theorem ahu {α:Type} {p:List α→Prop} (h0:p []) (hs:∀l x,p l→p (l++[x])) (l:List α):p l:=by
 rw[←List.reverse_reverse l]
 induction l.reverse with
 | nil=>exact h0
 | cons x l ih=>rw[List.reverse_cons];exact hs _ _ ih
theorem aeL (l:List (List Bool)):(nN l).Perm l:=by
 refine ahu (p:=fun l=>(nN l).Perm l) .nil (fun l x ih=>?_) l
 rw[aeP]
 refine (akG _ _ _).trans ?_
 refine (ih.cons x).trans ?_
 exact (List.perm_append_singleton x l).symm
def aaz (l:List (List Bool)):Prop:=l.Pairwise fun a b=>¬oW b a
theorem ajh (A:List (List Bool)) (x:List Bool):∀k,posR A x k≤k
 | 0=>aha _
 | k+1=>by
  rw[posR];split
  ·have:=ajh A x k;omega
  ·exact aha _
theorem ajr (A:List (List Bool)) (x:List Bool):∀k j,posR A x k≤j→j<k→oW x (A.getD j [])
 | 0,j,_,h=>by omega
 | k+1,j,h1,h2=>by
  rw[posR] at h1
  split at h1
  ·rename_i h
   by_cases e:j=k
   ·subst e;exact (ahA _ _).1 h
   ·exact ajr A x k j h1 (by omega)
  ·omega
theorem aiE (A:List (List Bool)) (x:List Bool):∀k,0<posR A x k→¬oW x (A.getD (posR A x k-1) [])
 | 0,h=>by simp[posR] at h
 | k+1,h=>by
  rw[posR] at h ⊢
  split
  ·rename_i hb;rw[if_pos hb] at h;exact aiE A x k h
  ·rename_i hb
   exact fun hl=>hb ((ahA _ _).2 hl)
theorem anJ {n:Nat} {A:List (List Bool)} {x:List Bool} (hx:x.length=n) (hA:∀y∈A,y.length=n) (h:aaz A):aaz (akg A x):=by
 have hp:=ajh A x A.length
 have hlo:=aiE A x A.length
 have hhi:=ajr A x A.length
 unfold akg rowAt
 generalize posR A x A.length=p at *
 have hs:aaz (A.take p++A.drop p):=by rw[ato];exact h
 obtain ⟨s1,s2,s3⟩:=aub.1 hs
 have hd:∀y∈A.drop p,oW x y:=fun y hy=>by
  obtain ⟨i,hi,rfl⟩:=arp hy
  rw[arP] at hi
  have:=hhi (p+i) (by omega) (by omega)
  rw[List.getElem_drop]
  rwa [abo,abn (by omega)] at this
 have ht:∀y∈A.take p,¬oW x y:=fun y hy=>by
  obtain ⟨i,hi,rfl⟩:=arp hy
  rw[ajz] at hi
  rw[List.getElem_take]
  have h0:=hlo (by omega)
  rw[abo,abn (by omega)] at h0
  by_cases e:i=p-1
  ·subst e;exact h0
  ·have h1:=atT.1 h i (p-1) (by omega) (by omega) (by omega)
   exact acG hx (hA _ (atL _)) (hA _ (atL _)) h0 h1
 refine aub.2 ⟨s1,at0.2 ⟨fun y hy=>ams (hd y hy),s2⟩,fun a ha b hb=>?_⟩
 rcases ai0.1 hb with rfl | hb
 ·exact ht a ha
 ·exact s3 a ha b hb
theorem aor {n:Nat} {l:List (List Bool)} (hl:∀y∈l,y.length=n):aaz (nN l):=by
 refine ahu (p:=fun l=>(∀y∈l,y.length=n)→aaz (nN l)) (fun _=>List.Pairwise.nil) (fun l x ih hl=>?_) l hl
 rw[aeP]
 refine anJ (n:=n) (hl x (by simp)) (fun y hy=>hl y ?_) (ih fun y hy=>hl y (by simp[hy]))
 have:=(aeL l).mem_iff.1 hy
 simp[this]
theorem ac5 {n:Nat}:∀{a b:List (List Bool)},a.Perm b→(∀y∈a,y.length=n)→aaz a→aaz b→a=b
 | [],b,h,_,_,_=>by rw[List.nil_perm.1 h]
 | x :: a,[],h,_,_,_=>by have:=h.length_eq;simp at this
 | x :: a,y :: b,h,hn,ha,hb=>by
  obtain ⟨a1,a2⟩:=at0.1 ha
  obtain ⟨b1,b2⟩:=at0.1 hb
  have e:x=y:=by
   rcases ai0.1 (h.mem_iff.1 (aoP ..)) with e | hx
   ·exact e
   ·rcases ai0.1 (h.mem_iff.2 (aoP ..)) with e | hy
    ·exact e.symm
    ·have h1:=b1 x hx
     have h2:=a1 y hy
     rcases ai2 (n:=n) (hn x (aoP ..)) (hn y (aoI _ hy)) h1 with h3 | h3
     ·exact absurd h3 h2
     ·exact h3
  subst e
  rw[ac5 ((List.perm_cons x).1 h) (fun y hy=>hn y (aoI _ hy)) a2 b2]
end Go.Sx.Pe
namespace Go.Sx.Pe
open Go Go.Proofs Go.Sx.Pn Go.RowKit Go.Sort
theorem aoX {E:Env} {W:World} (hm:acF E.mem W) {v:Value} {l:List Bool} (h:aO E.mem v (kJ l)):BS W v l:=by
 unfold kJ at h
 cases hl:l with
 | nil=>
  subst hl
  cases h with
  | nil=>exact ⟨none,0,rfl,fun k hk=>absurd hk (alJ _)⟩
  | emp a cap=>exact ⟨_,_,rfl,fun k hk=>absurd hk (alJ _)⟩
  | seq b o n cap sz f cs u hm' hcap hmax hl' hc he=>exact ⟨_,_,rfl,fun k hk=>absurd hk (alJ _)⟩
 | cons x t=>
  rw[←hl]
  have hpos:0<l.length:=by rw[hl];simp
  generalize hn:l.length=n at h hpos
  cases h with
  | nil=>exact absurd hpos (Nat.lt_irrefl _)
  | emp a cap=>exact absurd hpos (Nat.lt_irrefl _)
  | seq b o _ cap sz f cs u hm' hcap hmax hl' hc he=>
   refine ⟨some ⟨b,o,none⟩,cap,by rw[hn],fun k hk=>⟨b,o,rfl,?_⟩⟩
   have hk:k<n:=by omega
   obtain ⟨T,fr,hw⟩:=hm _ _ hm'
   have hs:sz=1:=(hl' k hk).symm
   subst hs
   have h1:=hc k 0 _ hk rfl
   have h2:=he k 0 _ hk rfl
   rw[h2.aN,apT,atm] at h1
   simp only[World.cell?,hw]
   exact h1.1
def sI (l:List (List Bool)):Ob:=.row 72 1 l.length (fun k=>[kJ (l.getD k [])])
def aqy (n:Nat) (l:List (List Bool)):Prop:=l.length≤1000000000∧∀x∈l,x.length=n
def apj (n:Nat):Spec:={ A:=List (List Bool),args:=fun _=>[.row 0,.fn 100 []],objs:=fun l=>[sI l],pre:=aqy n,res:=fun _=>.tup [],objs':=fun l=>[sI (nN l)],fresh:=true,ro:=0 }
theorem alq (n : Nat) (hn : n ≤ 1000000) : aL Tryz.prog 99 (apj n) := by
  refine ⟨⟨Tryz.f99, Tryz.func99, rfl, rfl⟩, fun (l : List (List Bool)) hpre E vs w _ hh hA => ?_⟩
  obtain ⟨hbig, hlen⟩ := hpre
  have hbig : l.length ≤ 1000000000 := hbig
  have hob : (iI [sI l]).obj 0 = some (.row 72 1 l.length (fun k => [kJ (l.getD k [])])) := rfl
  obtain ⟨hs1, hs2⟩ := hA
  obtain ⟨v, fv, rfl⟩ : ∃ v fv, vs = #[v, fv] := by
    have h1 : vs.size = 2 := hs1
    exact ⟨vs[0]'(by omega), vs[1]'(by omega), by
      apply Array.ext
      · simp [h1]
      · intro i hi hi2
        match i, hi2 with
        | 0, _ => rfl
        | 1, _ => rfl⟩
  have hv := hs2 0 v (.row 0) rfl rfl
  have hf := hs2 1 fv (.fn 100 []) rfl rfl
  obtain rfl : fv = .func (.func 100) #[] #[] := by
    cases hf with
    | fn _ us _ hl he => 
      have : us = #[] := Array.eq_empty_of_size_eq_zero (by simpa using hl)
      rw [this]
  have hR := hh.ob 0 _ hob
  have hrep := hR
  cases hv with
  | row _ _ hd0 hsl =>
  cases hR with
  | row _ _ _ _ v' xs u hhd hw hmax hl hc he =>
  rw [hd0] at hhd
  obtain rfl := Option.some.inj hhd
  have hnone : ∀ (p : Option Addr) (cap : Nat), Calls Tryz.prog 99 #[.slice p 0 cap, .func (.func 100) #[] #[]] w fun e w' => e = .returned (.tuple #[]) ∧ w' = w := fun p cap =>
    AnyF.slices_SortFunc_none (P := Tryz.prog) (ρ := Tryz.xH) { Tryz.al0 with } p cap _ w
  by_cases h0 : l = []
  · subst h0
    have hw2 := hw.2
    obtain ⟨p, cap, rfl⟩ : ∃ p cap, v = .slice p 0 cap := by
      rcases hw2 with ⟨rfl, _⟩ | ⟨g, cap, cur, rfl, _⟩
      · exact ⟨_, _, rfl⟩
      · exact ⟨_, _, rfl⟩
    refine (hnone p cap).mono ?_
    rintro e w' ⟨rfl, rfl⟩
    exact ⟨.tuple #[], E, rfl, .tup _ _ rfl (fun k u s hu => by simp at hu), hh⟩
  have hpos : 0 < l.length := aue.2 h0
  rcases hw.2 with ⟨rfl, hn0⟩ | ⟨g, cap, cur, rfl, _⟩
  · exact absurd hn0 (by omega)
  obtain ⟨_, cur, u', hA⟩ := hrep.jQ hd0
  -- the elements, with what they stand for
  let α : Type := { p : Value × List Bool // p.2.length = n ∧ p.1.oneCell' = true ∧ aO E.mem p.1 (kJ p.2) }
  have hel : ∀ j, j < l.length → cur[j]? = some (u' j 0) ∧ (u' j 0).oneCell' = true ∧ aO E.mem (u' j 0) (kJ (l.getD j [])) := fun j hj => by
    have c1 := hA.hc j 0 (kJ (l.getD j [])) hj rfl
    have c2 := hA.he j 0 (kJ (l.getD j [])) hj rfl
    rw [apT, atm] at c1
    exact ⟨c1.1, c1.2, c2⟩
  have mem : ∀ j, j < l.length → (l.getD j []).length = n := fun j hj => hlen _ (adh (bI [] hj))
  let el : Fin l.length → α := fun j => ⟨(u' j 0, l.getD j []), mem j j.2, (hel j j.2).2.1, (hel j j.2).2.2⟩
  haveI : Inhabited α := ⟨el ⟨0, hpos⟩⟩
  let enc : α → Value := fun x => x.1.1
  have h1 : ∀ a, (enc a).oneCell' = true := fun a => a.2.2.1
  let d : Array α := Array.ofFn el
  have hds : d.size = l.length := Array.size_ofFn
  have hdat : ∀ j (hj : j < l.length), d[j]! = el ⟨j, hj⟩ := fun j hj => by
    rw [getElem!_pos d j (by rw [hds]; exact hj)]
    simp [d]
  let cf : α → α → Int := fun x y => ig x.1.2 y.1.2
  have hlt : ∀ x y : α, ltOf cf x y = true ↔ oW x.1.2 y.1.2 := fun x y => by
    show decide (ig x.1.2 y.1.2 < 0) = true ↔ _
    rw [decide_eq_true_iff]; rfl
  have hltf : ∀ x y : α, ltOf cf x y = false ↔ ¬ oW x.1.2 y.1.2 := fun x y => by rw [← hlt, Bool.not_eq_true]
  have hO : SWO (ltOf cf) := {
    irrefl := fun x => (hltf x x).2 (akF _)
    trans := fun x y z h k => (hlt x z).2 (xB (x.2.1.trans y.2.1.symm) (y.2.1.trans z.2.1.symm) ((hlt x y).1 h) ((hlt y z).1 k))
    ntrans := fun x y z h k => (hltf x z).2 (acG x.2.1 y.2.1 z.2.1 ((hltf x y).1 h) ((hltf y z).1 k)) }
  have hg : g < w.heap.size := (abB.1 hA.heap).1
  have hnc := hA.hn
  have hsz := hA.size
  -- the world with another order
  have hW : ∀ (m : Nat) (os : Array Obj) (dk : Array α), dk.size = l.length → bq (kP w E [sI l] 0) E ((iI [sI l]).bX 0 (some (sI (dk.toList.map fun x => x.1.2)))) (sortWorld enc w g 0 m dk os) := by
    intro m os dk hdk
    have hw1 : (putRow enc (Sort.ahead w m) g 0 dk).heap[g]? = some (.cells (putCells enc 0 dk cur) 72 (0, 0)) := by
      show (w.heap.modify g (onCells _))[g]? = _
      rw [asH, if_pos rfl, hA.heap]; rfl
    have hw2 : ∀ k, k ≠ g → (putRow enc (Sort.ahead w m) g 0 dk).heap[k]? = w.heap[k]? := fun k hk => by
      show (w.heap.modify g (onCells _))[k]? = _
      rw [asH, if_neg fun e => hk e.symm]
    have hbang : ∀ k, k < l.length → (dk.toList.map fun x : α => x.1.2).getD k [] = (dk[k]!).1.2 := fun k hk => by
      rw [abo, ajs, aeX, aex (by omega), getElem!_pos dk k (by omega)]; rfl
    have hlm : (dk.toList.map fun x : α => x.1.2).length = l.length := by rw [amo, al7, hdk]
    have hat : ∀ j, j < l.length → (putCells enc 0 dk cur)[j]? = some (enc dk[j]!) := fun j hj => by
      rw [air, if_pos (by omega), if_pos (by omega)]
    have hh2 : bq (kP w E [sI l] 0) E ((iI [sI l]).bX 0 (some (sI (dk.toList.map fun x => x.1.2)))) (putRow enc (Sort.ahead w m) g 0 dk) := by
      refine hh.write (i := 0) (b := g) hob (by simp [Env.blk, hd0, aG]) (aha _)
        (.row 72 1 _ _ _ ((putCells enc 0 dk cur).toList.take (l.length * 1)) (fun j _ => enc dk[j]!) hd0 ?_ (by rw [hlm]; exact hA.hmax) (fun j _ => rfl) ?_ ?_) rfl rfl rfl (by simp) hw2
      · rw [hlm]
        refine ⟨?_, .inr ⟨g, cap, _, rfl, afc _, hw1, hA.hn, hA.hcap, by rw [yT]; exact hA.size, rfl⟩⟩
        have h3 : (putCells enc 0 dk cur).toList.length = cap * 1 := by rw [al7, yT]; exact hA.size
        rw [ajz, h3]
        omega
      · intro j k s hj hs
        rw [hlm] at hj
        have hk : k = 0 := by
          have := (abA.1 hs).1
          simpa using this
        subst hk
        rw [alD, if_pos (by omega), aeX, apT, atm]
        exact ⟨hat j hj, h1 _⟩
      · intro j k s hj hs
        rw [hlm] at hj
        have hk : k = 0 := by
          have := (abA.1 hs).1
          simpa using this
        subst hk
        simp only [auh, Option.some.injEq] at hs
        subst hs
        rw [hbang j hj]
        exact (dk[j]!).2.2.2
    exact hh2.below (w' := sortWorld enc w g 0 m dk os) ⟨rfl, rfl, rfl, by simp [sortWorld], fun k hk => by
      show (_ ++ os)[k]? = _
      rw [aoC hk]⟩
  have hcmp : CmpLays1 Tryz.prog 100 #[] enc cf g 0 d.size w := CmpReads.lays fun m os dk hdk x y => by
    have hm := (hW m os dk (by rw [hdk, hds])).mem
    refine (ain x.1.2 y.1.2 x.1.1 y.1.1 _ (x.2.1.trans y.2.1.symm) (by rw [x.2.1]; exact hn) (aoX hm x.2.2.2) (aoX hm y.2.2.2)).mono ?_
    rintro e w' ⟨rfl, rfl⟩
    exact ⟨rfl, 0, rfl⟩
  have hH : Holds enc w g 0 d := fun j hj => by
    have hj : j < l.length := by omega
    refine ⟨?_, ?_⟩
    · simp only [World.cell?, hA.heap, aiF]
      rw [hdat j hj]; exact (hel j hj).1
    · simp [World.frozen?, hA.heap]
  have hsort := Any.slices_SortFunc (P := Tryz.prog) (ρ := Tryz.xH) Tryz.al0 enc h1 cf hO 100 #[] g 0 cap d w (enters_of Tryz.func100 (by kernel_rfl) rfl) hcmp hH hg (by omega)
  rw [hds] at hsort
  refine Calls.mono hsort ?_
  rintro e w' ⟨rfl, d', m, os, hp, hs, rfl⟩
  have hd's : d'.size = l.length := hp.1.trans hds
  have hl' : (d'.toList.map fun x : α => x.1.2) = nN l := by
    have hpd : d'.toList.Perm d.toList := by
      have := hp.2.2
      rwa [show d'.extract 0 l.length = d' by rw [← hd's]; simp, show d.extract 0 l.length = d by rw [← hds]; simp] at this
    have hdl : (d.toList.map fun x : α => x.1.2) = l := by
      apply List.ext_getElem?
      intro k
      rw [ajs, aeX]
      by_cases hk : k < l.length
      · rw [aex (by omega), abn hk]
        simp only [d, Array.getElem_ofFn, aoF, Option.some.injEq]
        show l.getD k [] = _
        rw [abo, abn hk]; rfl
      · rw [aoB (by omega), asF (by omega)]; rfl
    have hperm : (d'.toList.map fun x : α => x.1.2).Perm l := by
      have := hpd.map fun x : α => x.1.2
      rwa [hdl] at this
    refine ac5 (n := n) (hperm.trans (aeL l).symm) (fun y hy => hlen y (hperm.mem_iff.1 hy)) ?_ (aor hlen)
    unfold aaz
    rw [List.pairwise_map, atT]
    intro i j hi hj hij
    have hi : i < d'.size := by simpa using hi
    have hj : j < d'.size := by simpa using hj
    have := hs i j (afc _) hij (by omega)
    rw [hltf, getElem!_pos d' i hi, getElem!_pos d' j hj] at this
    exact this
  have hfin := hW m os d' hd's
  rw [hl'] at hfin
  refine ⟨.tuple #[], E, rfl, .tup _ _ rfl (fun k u s hu => by simp at hu), ?_⟩
  have key : ∀ (st : St), (∀ i o, st.obj i = some o → ((iI [sI l]).bX 0 (some (sI (nN l)))).obj i = some o) → st.no = 1 → st.k = none → bq (kP w E [sI l] 0) E st (sortWorld enc w g 0 m d' os) := fun st ho hno hk => by
    have hkk := hfin.kk
    exact ⟨fun i o h => hfin.ob i o (ho i o h), fun i j o o' b h1 h2 => hfin.sep i j o o' b (ho i o h1) (ho j o' h2), fun i o b h => hfin.own i o b (ho i o h), hfin.mem, hfin.mem0, hfin.memnew, fun i hi => hfin.new i (by rw [hno] at hi; exact hi), hfin.base, hfin.fr, hfin.hd0, by rw [hno]; exact hfin.mno, hfin.mkh, by rw [hk]; exact hkk⟩
  refine key _ (fun i o ho => ?_) rfl rfl
  have e1 : St.obj ⟨[], [(0, some (sI (nN l)))], 1, none⟩ i = some o := ho
  rw [kX (no := 1) (c := none)] at e1
  have e2 := kX (iI [sI l]).fr (iI [sI l]).ob 1 1 (c := none) (c' := none) 0 (some (sI (nN l))) i
  refine Eq.trans e2 ?_
  by_cases hi : 0 = i
  · rw [if_pos hi] at e1 ⊢; exact e1
  · rw [if_neg hi] at e1
    simp [St.obj, look] at e1
end Go.Sx.Pe
namespace Go.Sx.Pe
open Go Go.Proofs Go.Sx.Pn
def bbP (l:List (List Bool)):PV:=.seq l.length (fun k=>[kJ (l.getD k [])])
def bbR (l:List (List Bool)):LV:=.rw 72 1 l.length (fun k=>[kJ (l.getD k [])])
def mU (c:aJ):List (List Bool):=(lZ c).map (·.1)
def qW (c:aJ):PV:=.tup [bbP (nN (mU c)),iP (uF c)]
theorem apK (a:List (List Bool)) (x:List Bool):∀k,k<a.length+1→bS a.length (fun k=>[kJ (a.getD k [])]) (bn 1 [kJ x]) k=[kJ ((a++[x]).getD k [])]:=by
 intro k hk
 unfold bS
 by_cases h:k<a.length
 ·rw[if_pos h]
  show [kJ (a.getD k [])]=_
  rw[abo,abo,afk h]
 ·obtain rfl:k=a.length:=by omega
  rw[if_neg h,atn,abo,agH (aha _),atn];rfl
theorem ano:aL Tryz.prog 98 (bT (fun a:aJ×List Bool=>[jJ a.1,uE a.2]) (fun a=>a.1.sts.length≤24∧a.2.length=a.1.sts.length) (fun a=>kJ a.2)):=by
 refine ⟨ad1.1,fun ⟨c,m⟩ hp E vs w hg hh hA=>?_⟩
 obtain ⟨h1,h2⟩:=hp
 have h1:c.sts.length≤24:=h1
 have h2:m.length=c.sts.length:=h2
 have e1:uE (bL m)=uE m:=by unfold uE mQ;rw[aaZ]
 have key:=ad1.2 (c,bL m) ⟨h1,mK (by omega)⟩ E vs w hg hh (by
  show jV E vs [jJ c,uE (bL m)]
  rw[e1];exact hA)
 refine key.mono fun e w' ⟨v,E',h3,h4,h5⟩=>⟨v,E',h3,?_,h5⟩
 have e2:(bL m).take c.sts.length=m:=by unfold bL;rw[←h2,List.take_left'];rfl
 show aO _ v (kJ m)
 rw[←e2];exact h4
theorem abu:aL Tryz.prog 29 (iO (fun c:aJ=>[jJ c]) jd qW):=by
 refine aY (Tb:=tab) mixed aB Tryz.func29 rfl rfl ?_
 rintro (c:aJ) hpre
 refine ai (ai rfl (ai rfl rfl)) ?_
 have ho:jd c:=hpre
 refine ei _ (ai (aby) (ei (c) (ei [] (ai (a4 (ai (fun _=>Or.inl rfl) (ai nof (Or.inl rfl)))) (ai (by exact (ai rfl (ai (ai rfl (fun _ _=>rfl)) (ai (ai rfl (fun _ _=>rfl)) (ai rfl (fun _ _=>rfl)))))) (ai trivial (ai (ho) ?_)))))))
 refine bg (p:=uF c=0) (bK (by omega)) (fun h1=>?_) (fun h1=>?_)
 ·have e:mU c=[]:=by
   unfold mU lZ
   unfold uF at h1
   split
   ·rename_i h
    rw[if_pos h] at h1
    cases ee:uq c with
    | none=>rfl
    | some l=>rw[ee] at h1;exact absurd rfl h1
   ·rfl
  refine ai (ai (fun h=>absurd (show false=true from h) (by decide)) ?_) trivial
  show ak _ (qW c)
  rw[qW,e]
  exact (ai rfl rfl)
 obtain ⟨hc,hx⟩:=agW h1
 obtain ⟨hg,hl,hw⟩:=agr h1
 have h24:=(gL hc).2.2.1.2
 have hA:qW c=.tup [bbP (nN (mU c)),iP 0]:=by unfold qW;rw[h1]
 have hml:(mU c).length=(lZ c).length:=amo _
 have htk:∀k,k<(lZ c).length→(mU c).take (k+1)=(mU c).take k++[((lZ c).getD k ay).1]:=fun k hk=>by
  rw[aQ [] (by omega)]
  congr 2
  unfold mU
  rw[abo,abo,ajs,abn hk];rfl
 refine ei (bE.inv { X:=Nat,up:=fun k=>[(21,.s (iA k)),(7,bbR ((mU c).take k))],uo:=fun k=>[],inv:=fun k=>k≤(lZ c).length∧(True),meas:=fun k=>(lZ c).length-k,x0:=0 }) ?_
 refine ai (ai (ai (by exact (a4 (ai rfl rfl))) (ai (by exact (ai (ai (ai (fun _=>rfl) (iE (by simp only[zz,reduceCtorEq];rfl))) rfl) rfl)) (by exact trivial))) rfl) (ai (ai (afc _) ?_) ?_)
 ·trivial
 intro (k:Nat) ⟨hk,_⟩
 have hkl:((mU c).take k).length=k:=by rw[ajz];omega
 refine ah (p:=k<(lZ c).length) (au (by omega)) (fun h2=>?_) (fun h2=>?_)
 ·refine ai (ai (abq _) (iN (n:=(lZ c).length) (by omega))) (ai rfl ?_)
  refine ei (eP ((lZ c).getD k ay).1) (ai (ahz _) ?_)
  have hgk:=hg _ (adh (bI ay h2))
  refine ei _ (ai (ano) (ei ((c,((lZ c).getD k ay).1)) (ei [] (ai (a4 (ai (fun _=>Or.inl rfl) (ai nof (Or.inl rfl)))) (ai (by exact (ai (ai rfl (ai (ai rfl (fun _ _=>rfl)) (ai (ai rfl (fun _ _=>rfl)) (ai rfl (fun _ _=>rfl))))) (ai rfl (fun _ _=>rfl)))) (ai trivial (ai (⟨h24,hgk.1⟩) ?_)))))))
  refine ai (mxL (n:=((mU c).take k).length+1) (by omega) (by decide)) (ai (aI 1 rfl) ?_)
  refine ei (k+1) (ai (ai rfl rfl) (ai (ai (ai rfl (ai (ai rfl rfl) (ai (ai rfl rfl) (ai (ai (ai (ai (fun _=>rfl) (aP (by omega))) rfl) (ai rfl (ai rfl (ai ?_ ?_)))) trivial)))) rfl) (ai (ai (iL (by omega)) trivial) (iM (by omega)))))
  ·rw[htk k h2,aaf];rfl
  ·rw[htk k h2];exact apK _ _
 ·obtain rfl:k=(lZ c).length:=by omega
  rw[show (mU c).take (lZ c).length=mU c from atr (by omega)]
  refine ei _ (ai (alq c.sts.length (by omega)) (ei (mU c) (ei [1] (ai (ai rfl (ai rfl (ai rfl (ai rfl (ai nof (ai nof (Or.inl rfl))))))) (ai (by exact (ai rfl (ai rfl trivial))) (ai (by exact (ai rfl (ai rfl (ai rfl (fun _ _=>rfl))))) (ai (⟨by show (mU c).length≤1000000000;omega,fun x hx=>by obtain ⟨y,hy,rfl⟩:=asJ.1 hx;exact (hg y hy).1⟩) ?_)))))))
  refine ai (ai (fun h=>absurd (show false=true from h) (by decide)) ?_) trivial
  show ak _ (qW c)
  rw[hA]
  exact (ai (ai rfl (fun _ _=>rfl)) rfl)
def asg:Spec:=bT (fun a:List (Int)×List (Int)=>[isA a.1,isA a.2]) (fun a=>a.1.length≤1000000) (fun a=>bP (decide (a.1=a.2)))
theorem aqg:aL Tryz.prog 59 asg:=by
 refine aY (Tb:=tab) mixed aB Tryz.func59 rfl rfl ?_
 rintro (a:List (Int)×List (Int)) hpre
 refine ai (ai rfl (ai rfl rfl)) ?_
 have hl:a.1.length≤1000000:=hpre
 refine bg (p:=a.1.length=a.2.length) (bK (by omega)) (fun h1=>?_) (fun h1=>?_)
 ·refine ai (ai (fun _=>trivial) ?_) trivial
  show ak _ (bP (decide (a.1=a.2)))
  rw[decide_eq_false (fun h=>h1 (congrArg List.length h))]
  exact rfl
 refine ei (bE.inv { X:=Nat,up:=fun k=>[(13,.s (iA k))],uo:=fun k=>[],inv:=fun k=>k≤a.1.length∧(a.1.take k=a.2.take k),meas:=fun k=>a.1.length-k,x0:=0 }) ?_
 refine ai (ai (ai (by exact (a4 (ai rfl rfl))) (ai (by exact (ai (ai (fun _=>rfl) (iE (by simp only[zz,reduceCtorEq];rfl))) rfl)) (by exact trivial))) rfl) (ai (ai (afc _) ?_) ?_)
 ·rfl
 intro (k:Nat) ⟨hk,hall⟩
 refine ah (p:=k<a.1.length) (au (by omega)) (fun h4=>?_) (fun h4=>?_)
 ·refine ei (.seq [0,1,2,3,4,5,6,7,8]) (ai (by kernel_rfl) ?_)
  refine ai (ai (abq _) (iN (n:=a.1.length) (by omega))) (ai rfl ?_)
  refine ai (ai (abq _) (iN (n:=a.2.length) (by omega))) (ai rfl ?_)
  refine bg (p:=a.1.getD k 0=a.2.getD k 0) (by exact bne_iff_ne) (fun h5=>?_) (fun h5=>?_)
  ·refine ai (ai (fun _=>trivial) ?_) trivial
   show ak _ (bP (decide (a.1=a.2)))
   rw[decide_eq_false (fun h=>h5 (by rw[h]))]
   exact rfl
  refine ei (k+1) (ai (ai rfl rfl) (ai (ai (ai rfl (ai (ai rfl rfl) (ai (ai rfl rfl) (ai (ai (ai (fun _=>rfl) (aP (by omega))) rfl) trivial)))) rfl) (ai (ai (iL (by omega)) ?_) (iM (by omega)))))
  exact ac6 0 h4 (by omega) hall h5
 ·obtain rfl:k=a.1.length:=by omega
  rw[ahb,h1,ahb] at hall
  refine ai (ai (fun _=>trivial) ?_) trivial
  show ak _ (bP (decide (a.1=a.2)))
  rw[decide_eq_true hall]
  exact rfl
theorem ahg (f:Nat→List PV) (k:Nat) {g:Nat→List PV} (hg:g 0=f k):∀j,j<k+1→bS k f g j=f j:=by
 intro j hj
 unfold bS
 by_cases h:j<k
 ·rw[if_pos h]
 ·obtain rfl:j=k:=by omega
  rw[if_neg h,atn,hg]
def an6 (c:aJ):Prop:=c.sts.length≤1000000∧c.trs.length≤1000000
def stF (c:aJ) (k:Nat):List PV:=stK (c.sts.getD k st0)
def trF (c:aJ) (k:Nat):List PV:=trK (c.trs.getD k aF)
theorem aaY:aL Tryz.prog 14 (iO (fun c:aJ=>[jJ c]) an6 (fun c=>vC c)):=by
 refine aY (Tb:=tab) mixed aB Tryz.func14 rfl rfl ?_
 rintro (c:aJ) hpre
 refine ai (ai rfl (ai rfl rfl)) ?_
 obtain ⟨hs,ht⟩:=hpre
 have hs:c.sts.length≤1000000:=hs
 have ht:c.trs.length≤1000000:=ht
 refine ei (bE.inv { X:=Nat,up:=fun k=>[(16,.s (iA k))],uo:=fun k=>[⟨2,36,[.s (iA c.act),.s (.p false (ssP c.ins)),.rw 89 2 k (stF c),.s ab3]⟩],inv:=fun k=>k≤c.sts.length∧(True),meas:=fun k=>c.sts.length-k,x0:=0 }) ?_
 refine ai (ai (ai (by exact (a4 (ai rfl rfl))) (ai ?_ ?_)) rfl) (ai (ai (afc _) ?_) ?_)
 ·exact (ai (ai (fun _=>rfl) (iE (by simp only[zz,reduceCtorEq];rfl))) rfl)
 ·exact (ai (ai (ai (ai nof rfl) rfl) (ai (ai (ai nof (ai rfl (fun _ _=>rfl))) rfl) (ai rfl (ai (ai nof rfl) rfl)))) trivial)
 ·trivial
 intro (k:Nat) ⟨hk,_⟩
 refine ah (p:=k<c.sts.length) (au (by omega)) (fun h1=>?_) (fun h1=>?_)
 ·refine ai (ai (abq _) (iN (n:=c.sts.length) (by omega))) (ai rfl ?_)
  refine ai (mxL (n:=k+1) (by omega) (by decide)) (ai (lt1 rfl) ?_)
  refine ei (k+1) (ai (ai rfl rfl) (ai (ai (ai rfl (ai (ai rfl rfl) (ai (ai rfl rfl) (ai (ai (ai (fun _=>rfl) (aP (by omega))) rfl) (ai (ai (ai (ai nof rfl) rfl) (ai (ai (ai nof (ai rfl (fun _ _=>rfl))) rfl) (ai (ai rfl (ai rfl (ai rfl ?_))) (ai (ai nof rfl) rfl)))) trivial))))) rfl) (ai (ai (iL (by omega)) trivial) (iM (by omega)))))
  exact ahg (stF c) k rfl
 obtain rfl:k=c.sts.length:=by omega
 refine ei (bE.inv { X:=Nat,up:=fun k=>[(34,.s (iA k))],uo:=fun k=>[⟨2,36,[.s (iA c.act),.s (.p false (ssP c.ins)),.rw 89 2 c.sts.length (stF c),.rw 123 5 k (trF c)]⟩],inv:=fun k=>k≤c.trs.length∧(True),meas:=fun k=>c.trs.length-k,x0:=0 }) ?_
 refine ai (ai (ai (by exact (a4 (ai rfl rfl))) (ai ?_ ?_)) rfl) (ai (ai (afc _) ?_) ?_)
 ·exact (ai (ai (fun _=>rfl) (iE (by simp only[zz,reduceCtorEq];rfl))) rfl)
 ·exact (ai (ai (ai (ai nof rfl) rfl) (ai (ai (ai nof (ai rfl (fun _ _=>rfl))) rfl) (ai (ai rfl (ai rfl (ai rfl (fun _ _=>rfl)))) rfl))) trivial)
 ·trivial
 intro (k:Nat) ⟨hk,_⟩
 refine ah (p:=k<c.trs.length) (au (by omega)) (fun h1=>?_) (fun h1=>?_)
 ·refine ai (ai (abq _) (iN (n:=c.trs.length) (by omega))) (ai rfl ?_)
  refine ai (mxL (n:=k+1) (by omega) (by decide)) (ai (lt1 rfl) ?_)
  refine ei (k+1) (ai (ai rfl rfl) (ai (ai (ai rfl (ai (ai rfl rfl) (ai (ai rfl rfl) (ai (ai (ai (fun _=>rfl) (aP (by omega))) rfl) (ai (ai (ai (ai nof rfl) rfl) (ai (ai (ai nof (ai rfl (fun _ _=>rfl))) rfl) (ai (ai rfl (ai rfl (ai rfl (fun _ _=>rfl)))) (ai rfl (ai rfl (ai rfl ?_)))))) trivial))))) rfl) (ai (ai (iL (by omega)) trivial) (iM (by omega)))))
  exact ahg (trF c) k rfl
 obtain rfl:k=c.trs.length:=by omega
 refine ai (ai (fun h=>absurd (show false=true from h) (by decide)) ?_) trivial
 show ak _ (vC c)
 rw[show vC c=.agg [iP c.act,ssP c.ins,.seq c.sts.length (stF c),.seq c.trs.length (trF c)] from rfl]
 exact (ai rfl (ai (ai rfl (fun _ _=>rfl)) (ai (ai rfl (fun _ _=>rfl)) (ai rfl (fun _ _=>rfl)))))
def bbA (l:List (List Bool)):SV:=.p false (bbP l)
def ak3 (l:List (List Bool)):Prop:=l.length≤1000000∧∀m∈l,m.length≤1000000
theorem akI:aL Tryz.prog 33 (bT (fun a:List (List Bool)×List (List Bool)=>[bbA a.1,bbA a.2]) (fun a=>ak3 a.1) (fun a=>bP (decide (a.1=a.2)))):=by
 refine aY (Tb:=tab) mixed aB Tryz.func33 rfl rfl ?_
 rintro (a:List (List Bool)×List (List Bool)) hpre
 refine ai (ai rfl (ai rfl rfl)) ?_
 obtain ⟨hl,hm⟩:=hpre
 have hl:a.1.length≤1000000:=hl
 refine bg (p:=a.1.length=a.2.length) (bK (by omega)) (fun h1=>?_) (fun h1=>?_)
 ·refine ai (ai (fun _=>trivial) ?_) trivial
  show ak _ (bP (decide (a.1=a.2)))
  rw[decide_eq_false (fun h=>h1 (congrArg List.length h))]
  exact rfl
 refine ei (bE.inv { X:=Nat,up:=fun k=>[(5,.s (iA k))],uo:=fun k=>[],inv:=fun k=>k≤a.1.length∧(a.1.take k=a.2.take k),meas:=fun k=>a.1.length-k,x0:=0 }) ?_
 refine ai (ai (ai (by exact (a4 (ai rfl rfl))) (ai (by exact (ai (ai (fun _=>rfl) (iE (by simp only[zz,reduceCtorEq];rfl))) rfl)) (by exact trivial))) rfl) (ai (ai (afc _) ?_) ?_)
 ·rfl
 intro (k:Nat) ⟨hk,hall⟩
 refine ah (p:=k<a.1.length) (au (by omega)) (fun h4=>?_) (fun h4=>?_)
 ·refine ei (.seq [0,1,2,3,4,5,6,7,8,9]) (ai (by kernel_rfl) ?_)
  refine ai (ai (abq _) (iN (n:=a.1.length) (by omega))) (ai rfl ?_)
  refine ai (ai (abq _) (iN (n:=a.2.length) (by omega))) (ai rfl ?_)
  refine ei _ (ai (anD) (ei ((a.1.getD k [],a.2.getD k [])) (ei [] (ai (a4 (ai (fun _=>Or.inl rfl) (ai nof (Or.inl rfl)))) (ai (by exact (ai (ai rfl (fun _ _=>rfl)) (ai rfl (fun _ _=>rfl)))) (ai trivial (ai (hm _ (adh (bI [] h4))) ?_)))))))
  refine bg (p:=a.1.getD k []=a.2.getD k []) (by (show (!decide (a.1.getD k []=a.2.getD k []))=true↔_;simp)) (fun h5=>?_) (fun h5=>?_)
  ·refine ai (ai (fun _=>trivial) ?_) trivial
   show ak _ (bP (decide (a.1=a.2)))
   rw[decide_eq_false (fun h=>h5 (by rw[h]))]
   exact rfl
  refine ei (k+1) (ai (ai rfl rfl) (ai (ai (ai rfl (ai (ai rfl rfl) (ai (ai rfl rfl) (ai (ai (ai (fun _=>rfl) (aP (by omega))) rfl) trivial)))) rfl) (ai (ai (iL (by omega)) ?_) (iM (by omega)))))
  exact ac6 [] h4 (by omega) hall h5
 ·obtain rfl:k=a.1.length:=by omega
  rw[ahb,h1,ahb] at hall
  refine ai (ai (fun _=>trivial) ?_) trivial
  show ak _ (bP (decide (a.1=a.2)))
  rw[decide_eq_true hall]
  exact rfl
def qB (t:jP):Bool:=decide (t.fr.length≤40)&&(decide (t.to.length≤40)&&lq t.wh)
def jA (c:aJ):Bool:=(decide (c.ins.length≤40)&&(decide (c.sts.length≤60)&&decide (c.trs.length≤60)))&&((c.ins.all fun t=>decide (t.length≤100))&&((c.sts.all fun x=>decide (x.st.length≤40))&&((c.trs.all qB)&&((decide (c.sts.length≤7)&&decide (c.trs.length≤9))||decide (¬bD c=0)))))
theorem xA {c:aJ} (h:¬(c.ins.length≤40∧c.sts.length≤60∧c.trs.length≤60)):jA c=false:=by
 unfold jA
 rw[←auq,←auq,decide_eq_false h,aqA]
theorem an8 {c:aJ} (h:∃x∈c.ins,¬x.length≤100):jA c=false:=by
 obtain ⟨x,hx,h⟩:=h
 unfold jA
 rw[show (c.ins.all fun t=>decide (t.length≤100))=false from ar2.2 ⟨x,hx,by simpa using h⟩,aqA,aq7]
theorem ahh {c:aJ} (h:∃x∈c.sts,¬x.st.length≤40):jA c=false:=by
 obtain ⟨x,hx,h⟩:=h
 unfold jA
 rw[show (c.sts.all fun x=>decide (x.st.length≤40))=false from ar2.2 ⟨x,hx,by simpa using h⟩,aqA,aq7,aq7]
theorem xS {c:aJ} (h:∃x∈c.trs,qB x=false):jA c=false:=by
 obtain ⟨x,hx,h⟩:=h
 unfold jA
 rw[show c.trs.all qB=false from ar2.2 ⟨x,hx,by rw[h];decide⟩,aqA,aq7,aq7,aq7]
theorem anb {c:aJ} (h1:c.ins.length≤40∧c.sts.length≤60∧c.trs.length≤60) (h2:∀x∈c.ins,x.length≤100) (h3:∀x∈c.sts,x.st.length≤40) (h4:∀x∈c.trs,qB x=true):jA c=((decide (c.sts.length≤7)&&decide (c.trs.length≤9))||decide (¬bD c=0)):=by
 unfold jA
 rw[←auq,←auq,decide_eq_true h1,aiI,show (c.ins.all fun t=>decide (t.length≤100))=true from ak7.2 fun x hx=>decide_eq_true (h2 x hx),aiI,show (c.sts.all fun x=>decide (x.st.length≤40))=true from ak7.2 fun x hx=>decide_eq_true (h3 x hx),aiI,ak7.2 h4,aiI]
theorem anV {t:jP} (h:qB t=true):t.fr.length≤40∧t.to.length≤40∧lq t.wh=true:=by
 unfold qB at h
 rw[agw,agw] at h
 exact ⟨of_decide_eq_true h.1,of_decide_eq_true h.2.1,h.2.2⟩
theorem ahS {c:aJ} (h1:c.ins.length≤40∧c.sts.length≤60∧c.trs.length≤60) (h3:∀x∈c.sts,x.st.length≤40) (h4:∀x∈c.trs,qB x=true):jd c:=by
 refine ⟨fun s hs=>?_,fun t ht=>?_⟩
 ·have:=h3 s hs;omega
 ·obtain ⟨h5,h6,h7⟩:=anV (h4 t ht)
  have:=akQ h7
  exact ⟨by omega,by omega,by omega⟩
theorem arR (x:Int):decide (¬x=0)=(x != 0):=by
 by_cases h:x=0
 ·subst h;rfl
 ·rw[decide_eq_true h];exact (bne_iff_ne.2 h).symm
theorem aon:aL Tryz.prog 11 (bT (fun c:aJ=>[jJ c]) (fun _=>True) (fun c=>bP (jA c))):=by
 refine aY (Tb:=tab) mixed aB Tryz.func11 rfl rfl ?_
 rintro (c:aJ) hpre
 refine ai (ai rfl (ai rfl rfl)) ?_
 refine ah (p:=40<c.ins.length) (au (by omega)) (fun h1=>?_) (fun h1=>?_)
 ·refine ai (ai (fun _=>trivial) ?_) trivial
  show ak _ (bP (jA c))
  rw[xA (fun h=>absurd h.1 (by omega))]
  exact rfl
 refine ah (p:=60<c.sts.length) (au (by omega)) (fun h2=>?_) (fun h2=>?_)
 ·refine ai (ai (fun _=>trivial) ?_) trivial
  show ak _ (bP (jA c))
  rw[xA (fun h=>absurd h.2.1 (by omega))]
  exact rfl
 refine ah (p:=60<c.trs.length) (au (by omega)) (fun h3=>?_) (fun h3=>?_)
 ·refine ai (ai (fun _=>trivial) ?_) trivial
  show ak _ (bP (jA c))
  rw[xA (fun h=>absurd h.2.2 (by omega))]
  exact rfl
 have hs1:c.ins.length≤40∧c.sts.length≤60∧c.trs.length≤60:=⟨by omega,by omega,by omega⟩
 refine ei (bE.inv { X:=Nat,up:=fun k=>[(3,.s (iA k))],uo:=fun k=>[],inv:=fun k=>k≤c.ins.length∧(∀y∈c.ins.take k,y.length≤100),meas:=fun k=>c.ins.length-k,x0:=0 }) ?_
 refine ai (ai (ai (by exact (a4 (ai rfl rfl))) (ai (by exact (ai (ai (fun _=>rfl) (iE (by simp only[zz,reduceCtorEq];rfl))) rfl)) (by exact trivial))) rfl) (ai (ai (afc _) ?_) ?_)
 ·exact fun y hy=>absurd hy (by simp)
 intro (k:Nat) ⟨hk,hall⟩
 refine ah (p:=k<c.ins.length) (au (by omega)) (fun h4=>?_) (fun h4=>?_)
 ·refine ai (ai (abq _) (iN (n:=c.ins.length) (by omega))) (ai rfl ?_)
  have hz:=dK (c.ins.getD k [])
  refine ah (p:=100<(c.ins.getD k []).length) (by exact au (by show (100:Int)<((strOf (c.ins.getD k [])).size:Int)↔_;rw[hz];omega)) (fun h5=>?_) (fun h5=>?_)
  ·refine ai (ai (fun _=>trivial) ?_) trivial
   show ak _ (bP (jA c))
   rw[an8 ⟨_,adh (bI [] h4),by omega⟩]
   exact rfl
  refine ei (k+1) (ai (ai rfl rfl) (ai (ai (ai rfl (ai (ai rfl rfl) (ai (ai rfl rfl) (ai (ai (ai (fun _=>rfl) (aP (by omega))) rfl) trivial)))) rfl) (ai (ai (iL (by omega)) ?_) (iM (by omega)))))
  intro y hy
  rw[aQ [] h4] at hy
  rcases ahN.1 hy with hy | hy
  ·exact hall y hy
  ·simp only[aiy] at hy;subst hy;omega
 obtain rfl:k=c.ins.length:=by omega
 rw[ahb] at hall
 have hins:=hall
 clear hall
 refine ei (bE.inv { X:=Nat,up:=fun k=>[(4,.s (iA k))],uo:=fun k=>[],inv:=fun k=>k≤c.sts.length∧(∀y∈c.sts.take k,y.st.length≤40),meas:=fun k=>c.sts.length-k,x0:=0 }) ?_
 refine ai (ai (ai (by exact (a4 (ai rfl rfl))) (ai (by exact (ai (ai (fun _=>rfl) (iE (by simp only[zz,reduceCtorEq];rfl))) rfl)) (by exact trivial))) rfl) (ai (ai (afc _) ?_) ?_)
 ·exact fun y hy=>absurd hy (by simp)
 intro (k:Nat) ⟨hk,hall⟩
 refine ah (p:=k<c.sts.length) (au (by omega)) (fun h4=>?_) (fun h4=>?_)
 ·refine ai (ai (abq _) (iN (n:=c.sts.length) (by omega))) (ai rfl ?_)
  refine ah (p:=40<(c.sts.getD k st0).st.length) (by simp only[zz,reduceCtorEq];omega) (fun h5=>?_) (fun h5=>?_)
  ·refine ai (ai (fun _=>trivial) ?_) trivial
   show ak _ (bP (jA c))
   rw[ahh ⟨_,adh (bI st0 h4),by omega⟩]
   exact rfl
  refine ei (k+1) (ai (ai rfl rfl) (ai (ai (ai rfl (ai (ai rfl rfl) (ai (ai rfl rfl) (ai (ai (ai (fun _=>rfl) (aP (by omega))) rfl) trivial)))) rfl) (ai (ai (iL (by omega)) ?_) (iM (by omega)))))
  intro y hy
  rw[aQ st0 h4] at hy
  rcases ahN.1 hy with hy | hy
  ·exact hall y hy
  ·simp only[aiy] at hy;subst hy;omega
 obtain rfl:k=c.sts.length:=by omega
 rw[ahb] at hall
 have hsts:=hall
 clear hall
 refine ei (bE.inv { X:=Nat,up:=fun k=>[(5,.s (iA k))],uo:=fun k=>[],inv:=fun k=>k≤c.trs.length∧(∀y∈c.trs.take k,qB y=true),meas:=fun k=>c.trs.length-k,x0:=0 }) ?_
 refine ai (ai (ai (by exact (a4 (ai rfl rfl))) (ai (by exact (ai (ai (fun _=>rfl) (iE (by simp only[zz,reduceCtorEq];rfl))) rfl)) (by exact trivial))) rfl) (ai (ai (afc _) ?_) ?_)
 ·exact fun y hy=>absurd hy (by simp)
 intro (k:Nat) ⟨hk,hall⟩
 refine ah (p:=k<c.trs.length) (au (by omega)) (fun h4=>?_) (fun h4=>?_)
 ·refine ai (ai (abq _) (iN (n:=c.trs.length) (by omega))) (ai rfl ?_)
  refine ah (p:=40<(c.trs.getD k aF).fr.length) (by simp only[zz,reduceCtorEq];omega) (fun h5=>?_) (fun h5=>?_)
  ·refine ai (ai (fun _=>trivial) ?_) trivial
   show ak _ (bP (jA c))
   rw[xS ⟨_,adh (bI aF h4),by unfold qB;rw[decide_eq_false (by omega),aqA]⟩]
   exact rfl
  refine ah (p:=40<(c.trs.getD k aF).to.length) (by simp only[zz,reduceCtorEq];omega) (fun h6=>?_) (fun h6=>?_)
  ·refine ai (ai (fun _=>trivial) ?_) trivial
   show ak _ (bP (jA c))
   rw[xS ⟨_,adh (bI aF h4),by unfold qB;rw[decide_eq_false (p:=(c.trs.getD k aF).to.length≤40) (by omega),aqA,aq7]⟩]
   exact rfl
  refine ei _ (ai (ari) (ei ((c.trs.getD k aF).wh) (ei [] (ai (a4 (ai (fun _=>Or.inl rfl) (ai nof (Or.inl rfl)))) (ai (by exact (ai (iE (by simp only[zz,reduceCtorEq])) (ai (iE (by simp only[zz,reduceCtorEq])) (ai rfl (fun _ _=>rfl))))) (ai trivial (ai (trivial) ?_)))))))
  refine aX (b:=!lq (c.trs.getD k aF).wh) rfl (fun h7=>?_) (fun h7=>?_)
  ·have h7:lq (c.trs.getD k aF).wh=false:=by simpa using h7
   refine ai (ai (fun _=>trivial) ?_) trivial
   show ak _ (bP (jA c))
   rw[xS ⟨_,adh (bI aF h4),by unfold qB;rw[h7,aq7,aq7]⟩]
   exact rfl
  have h7:lq (c.trs.getD k aF).wh=true:=by simpa using h7
  refine ei (k+1) (ai (ai rfl rfl) (ai (ai (ai rfl (ai (ai rfl rfl) (ai (ai rfl rfl) (ai (ai (ai (fun _=>rfl) (aP (by omega))) rfl) trivial)))) rfl) (ai (ai (iL (by omega)) ?_) (iM (by omega)))))
  intro y hy
  rw[aQ aF h4] at hy
  rcases ahN.1 hy with hy | hy
  ·exact hall y hy
  ·simp only[aiy] at hy;subst hy;unfold qB;rw[decide_eq_true (by omega),decide_eq_true (by omega),h7];rfl
 obtain rfl:k=c.trs.length:=by omega
 rw[ahb] at hall
 have hy:=anb hs1 hins hsts hall
 have ho:=ahS hs1 hsts hall
 refine ah (p:=c.sts.length≤7) (cu (by omega)) (fun h4=>?_) (fun h4=>?_)
 ·refine ah (p:=c.trs.length≤9) (cu (by omega)) (fun h5=>?_) (fun h5=>?_)
  ·refine ai (ai (fun _=>trivial) ?_) trivial
   show ak _ (bP (jA c))
   rw[hy,decide_eq_true h4,decide_eq_true h5,aiI,alh]
   exact rfl
  ·refine ei _ (ai (ad6) (ei (c) (ei [] (ai (a4 (ai (fun _=>Or.inl rfl) (ai nof (Or.inl rfl)))) (ai (by exact (ai rfl (ai (ai rfl (fun _ _=>rfl)) (ai (ai rfl (fun _ _=>rfl)) (ai rfl (fun _ _=>rfl)))))) (ai trivial (ai (ho) ?_)))))))
   refine ai (ai (fun _=>trivial) ?_) trivial
   show ak _ (bP (jA c))
   rw[hy,decide_eq_false h5,aq7,aqz,arR (bD c)]
   exact rfl
 ·refine ei _ (ai (ad6) (ei (c) (ei [] (ai (a4 (ai (fun _=>Or.inl rfl) (ai nof (Or.inl rfl)))) (ai (by exact (ai rfl (ai (ai rfl (fun _ _=>rfl)) (ai (ai rfl (fun _ _=>rfl)) (ai rfl (fun _ _=>rfl)))))) (ai trivial (ai (ho) ?_)))))))
  refine ai (ai (fun _=>trivial) ?_) trivial
  show ak _ (bP (jA c))
  rw[hy,decide_eq_false h4,aqA,aqz,arR (bD c)]
  exact rfl
theorem apf {c:aJ} (h:jA c=true):jd c∧an6 c∧c.ins.length≤1000000:=by
 by_cases h1:c.ins.length≤40∧c.sts.length≤60∧c.trs.length≤60
 ·by_cases h3:∀x∈c.sts,x.st.length≤40
  ·by_cases h4:∀x∈c.trs,qB x=true
   ·exact ⟨ahS h1 h3 h4,⟨by omega,by omega⟩,by omega⟩
   ·simp only[Classical.not_forall] at h4
    obtain ⟨x,hx,h4⟩:=h4
    rw[xS ⟨x,hx,by simpa using h4⟩] at h;cases h
  ·simp only[Classical.not_forall] at h3
   obtain ⟨x,hx,h3⟩:=h3
   rw[ahh ⟨x,hx,h3⟩] at h;cases h
 ·rw[xA h1] at h;cases h
def p10:Array Value:=(Lib.pow10Tab.map fun z=>Value.int .u64 z).toArray
def glP:List (Nat×Array Value):=[(0,p10)]
def fnG {α:Type} (args:α→List SV) (pre:α→Prop) (res:α→PV):Spec:={ A:=α,args:=args,objs:=fun _=>[],pre:=pre,res:=res,objs':=fun _=>[],fresh:=true,ro:=0,gl:=glP }
theorem ate {w:World} (h:∀p∈glP,∃T fr,w.heap[p.1]?=some (.cells p.2 T fr)):Lib.TabIs Tryz.prog w "internal/strconv.uint64pow10" .u64 Lib.pow10Tab:=by
 obtain ⟨T,fr,hw⟩:=h _ (aiy.2 rfl)
 have hg:Tryz.prog.globalNamed "internal/strconv.uint64pow10"=some 0:=by kernel_rfl
 show World.var? _ w _=_
 unfold World.var?
 rw[hg]
 show (match w.heap[0]? with | some (.cells cs _ _)=>some cs | _=>none)=_
 rw[show w.heap[0]?=some (.cells p10 T fr) from hw]
 rfl
theorem ahK:aL Tryz.prog 79 (fnG (fun n:Nat=>[iA n]) (fun n=>n≤1000000) (fun n=>sP (dec n))):=
 aiW (gl:=glP) Tryz.func79 rfl rfl (vals:=fun n:Nat=>[.int .i64 n]) (pre:=fun n=>n≤1000000) (ret:=fun n=>.string (strOf (dec n))) (fun _ _=>rfl) fun n hn w h=>by
  refine (Tryz.strconv_Itoa n (by omega) (by have:n≤1000000:=hn;omega) w (ate h)).mono fun e w' hh=>?_
  obtain ⟨h1,k,os,rfl⟩:=hh
  refine ⟨?_,?_⟩
  ·rw[h1]
   have:Lib.itoa (n:Int)=dec n:=by unfold Lib.itoa;rw[if_neg (by omega)];rfl
   rw[this];rfl
  ·exact ⟨rfl,rfl,rfl,by simp[Sort.grow],fun k hk=>by rw[Sort.heap_grow_old _ _ (by exact hk)];rfl⟩
def nU (x:Sk):List UInt8:=[UInt8.ofNat (65+x.1.toNat),if x.2 then 43 else 45]
theorem akh:aL Tryz.prog 138 (bT (fun x:Sk=>[skA x]) (fun x=>0≤x.1∧x.1<6) (fun x=>sP (nU x))):=by
 refine aY (Tb:=tab) mixed aB Tryz.func138 rfl rfl ?_
 rintro ⟨n,b⟩ hpre
 refine ai (ai rfl (ai rfl rfl)) ?_
 obtain ⟨h0,h6⟩:=hpre
 have h0:0≤n:=h0
 have h6:n<6:=h6
 obtain ⟨d,rfl⟩:∃d:Nat,n=(d:Int):=⟨n.toNat,by omega⟩
 have hv:IntKind.i32.wrap (IntKind.i64.wrap (65+(d:Int)))=((65+d:Nat):Int):=by
  rw[wrI (n:=65+(d:Int)) (by omega) (by omega)]
  simp[IntKind.wrap,IntKind.bits,IntKind.signed]<;>omega
 refine ai (by show 0≤IntKind.i32.wrap (IntKind.i64.wrap (65+(d:Int)))∧IntKind.i32.wrap (IntKind.i64.wrap (65+(d:Int)))<128;rw[hv];omega) ?_
 have hx:(⟨#[UInt8.ofNat (IntKind.i32.wrap (IntKind.i64.wrap (65+(d:Int)))).toNat]⟩:ByteArray)=strOf [UInt8.ofNat (65+d)]:=by rw[hv];rfl
 have hxs:(((((⟨#[UInt8.ofNat (IntKind.i32.wrap (IntKind.i64.wrap (65+(d:Int)))).toNat]⟩:ByteArray)).size+1:Nat)):Int)≤9223372036854775807:=by rw[hx,dK];show ((1+1:Nat):Int)≤_;decide
 refine aX (b:=b) rfl (fun h=>?_) (fun h=>?_)
 ·refine ai hxs ?_
  refine ai (ai (fun _=>trivial) ?_) trivial
  show ak _ (sP (nU ((d:Int),b)))
  rw[show nU ((d:Int),b)=[UInt8.ofNat (65+d)]++[43] by unfold nU;rw[h];rfl,show sP ([UInt8.ofNat (65+d)]++[43])=.val (.string ((⟨#[UInt8.ofNat (IntKind.i32.wrap (IntKind.i64.wrap (65+(d:Int)))).toNat]⟩:ByteArray)++strOf [43])) by rw[hx,eD];rfl]
  exact rfl
 ·refine ai hxs ?_
  refine ai (ai (fun _=>trivial) ?_) trivial
  show ak _ (sP (nU ((d:Int),b)))
  rw[show nU ((d:Int),b)=[UInt8.ofNat (65+d)]++[45] by unfold nU;rw[h];rfl,show sP ([UInt8.ofNat (65+d)]++[45])=.val (.string ((⟨#[UInt8.ofNat (IntKind.i32.wrap (IntKind.i64.wrap (65+(d:Int)))).toNat]⟩:ByteArray)++strOf [45])) by rw[hx,eD];rfl]
  exact rfl
def adN (x:Sk):Int:=if 0≤x.1∧x.1<6 then 0 else 2
theorem apA:aL Tryz.prog 137 (bT (fun x:Sk=>[skA x]) (fun _=>True) (fun x=>iP (adN x))):=by
 refine aY (Tb:=tab) mixed aB Tryz.func137 rfl rfl ?_
 rintro (x:Sk) hpre
 refine ai (ai rfl (ai rfl rfl)) ?_
 refine ei _ (ai (aeB) (ei (x.1) (ei [] (ai (a4 (ai (fun _=>Or.inl rfl) (ai nof (Or.inl rfl)))) (ai (by exact rfl) (ai trivial (ai (trivial) ?_)))))))
 refine aX (b:=!(decide (0≤x.1)&&decide (x.1<6))) rfl (fun h=>?_) (fun h=>?_)
 ·have h:¬(0≤x.1∧x.1<6):=fun e=>by rw[decide_eq_true e.1,decide_eq_true e.2] at h;cases h
  refine ai (ai (fun _=>trivial) ?_) trivial
  show ak _ (iP (adN x))
  rw[adN,if_neg h]
  exact rfl
 ·have h:0≤x.1∧x.1<6:=by
   have h:(decide (0≤x.1)&&decide (x.1<6))=true:=by simpa using h
   rw[agw] at h
   exact ⟨of_decide_eq_true h.1,of_decide_eq_true h.2⟩
  refine ai (ai (fun _=>trivial) ?_) trivial
  show ak _ (iP (adN x))
  rw[adN,if_pos h]
  exact rfl
theorem agQ:aL Tryz.prog 80 (iO (fun x:Sk=>[skA x]) (fun x=>0≤x.1∧x.1<6) (fun x=>.tup [sP (nU x),iP 0])):=by
 refine aY (Tb:=tab) mixed aB Tryz.func80 rfl rfl ?_
 rintro (x:Sk) hpre
 refine ai (ai rfl (ai rfl rfl)) ?_
 obtain ⟨h0,h6⟩:=hpre
 have h0:0≤x.1:=h0
 have h6:x.1<6:=h6
 refine ei _ (ai (apA) (ei (x) (ei [] (ai (a4 (ai (fun _=>Or.inl rfl) (ai nof (Or.inl rfl)))) (ai (by exact (ai rfl rfl)) (ai trivial (ai (trivial) ?_)))))))
 refine bg (p:=adN x=0) (bK (by omega)) (fun h=>?_) (fun h=>?_)
 ·exact absurd (if_pos ⟨h0,h6⟩) h
 refine ei _ (ai (akh) (ei (x) (ei [] (ai (a4 (ai (fun _=>Or.inl rfl) (ai nof (Or.inl rfl)))) (ai (by exact (ai rfl rfl)) (ai trivial (ai (⟨h0,h6⟩) ?_)))))))
 refine ai (ai (fun _=>(by exact (ai trivial trivial))) ?_) trivial
 exact (ai rfl rfl)
def spI (l:List Int):List UInt8:=l.flatMap fun x=>dec x.toNat++[32]
theorem wD {n:Nat} (h:n<100):(dec n).length≤2:=by
 have:∀n:Fin 100,(Lib.decDigits n.1).length≤2:=by decide +kernel
 exact this ⟨n,h⟩
theorem aqc {l:List Int} (h:fU 100 l):(spI l).length≤3*l.length:=by
 induction l with
 | nil=>simp[spI]
 | cons x l ih=>
  have h1:0≤x∧x<100:=h x (by simp)
  have h2:=ih fun y hy=>h y (by simp[hy])
  have h3:=wD (n:=x.toNat) (by omega)
  show ((dec x.toNat++[32])++spI l).length≤_
  simp only[aaf,ai1,aoK];omega
theorem aN {μ:Nat→Option (Array Value)} {u v:Value} (h:aO μ u (.val v)):u=v:=by cases h;rfl
def apD (a:List (List UInt8)×List UInt8):Prop:=a.1.length≤1000000∧(Lib.join a.1 a.2).length≤140737488355328
theorem ao2:aL Tryz.prog 143 (bT (fun a:List (List UInt8)×List UInt8=>[ssA a.1,sA a.2]) apD (fun a=>sP (Lib.join a.1 a.2))):=by
 refine ⟨⟨_,Tryz.func143,rfl,rfl⟩,fun a hpre E vs w _ hh hA=>?_⟩
 obtain ⟨l,sep⟩:=a
 obtain ⟨hll,hpre⟩:=hpre
 have hll:l.length≤1000000:=hll
 have hpre:(Lib.join l sep).length≤140737488355328:=hpre
 obtain ⟨hsz,hA⟩:=hA
 have hsz:vs.size=2:=hsz
 have hp:∀{u:Value} {d:PV},aM E u (.p false d)→aO (E.m false) u d:=fun hx=>by cases hx with | p _ _ _ hp=>exact hp
 have h0:aO (E.m false) (vs[0]'(by omega)) (ssP l):=hp (hA 0 _ _ (aex (by omega)) rfl)
 have h1:vs[1]'(by omega)=.string (strOf sep):=aN (hp (hA 1 _ (sA sep) (aex (by omega)) rfl))
 have hvs:vs=#[vs[0]'(by omega),.string (strOf sep)]:=by
  apply atY
  intro k
  match k with
  | 0=>rw[aex (by omega)];rfl
  | 1=>rw[aex (by omega),h1];rfl
  | k+2=>rw[aoB (by omega)];simp
 generalize hv0:vs[0]'(by omega)=v0 at *
 clear h1 hv0 hA
 subst hvs
 have key:∀{n:Nat} {f:Nat→List PV},aO (E.m false) v0 (.seq n f)→n=l.length→f=(fun k=>[sP (l.getD k [])])→Calls Tryz.prog 143 #[v0,.string (strOf sep)] w fun e w'=>e=.returned (.string (strOf (Lib.join l sep)))∧Go.RowKit.Below w.heap.size w w':=by
  intro n f h hn hf
  cases h with
  | nil=>
   obtain rfl:l=[]:=aqH.1 hn.symm
   exact (Tryz.strings_Join_none none 0 (strOf sep) w).mono fun e w' ⟨h1,h2⟩=>by subst h2;exact ⟨h1,RowKit.Below.refl _ _⟩
  | emp a c=>
   obtain rfl:l=[]:=aqH.1 hn.symm
   exact (Tryz.strings_Join_none (some a) c (strOf sep) w).mono fun e w' ⟨h1,h2⟩=>by subst h2;exact ⟨h1,RowKit.Below.refl _ _⟩
  | seq b o _ cap sz _ cs u hm hcap hmax hl hc he=>
   subst hn;subst hf
   obtain ⟨T,fr,hw⟩:=hh.mem _ _ hm
   have hcell:∀(j:Nat) x,(l.map strOf)[j]?=some x→w.cell? ⟨b,o+j,none⟩=some (.string x):=by
    intro j x hx
    rw[ajs] at hx
    obtain ⟨y,hy,rfl⟩:=atx.1 hx
    have hj:j<l.length:=(abA.1 hy).1
    have hg:l.getD j []=y:=by rw[abo,hy];rfl
    have hs1:1=sz:=hl j hj
    subst hs1
    have h2:=hc j 0 (sP (l.getD j [])) hj rfl
    have h3:=aN (he j 0 (sP (l.getD j [])) hj rfl)
    rw[h3,hg] at h2
    have h4:=h2.1
    rw[apT,atm] at h4
    simp[World.cell?,hw,h4]
   have e:(l.map strOf).map (·.data.toList)=l:=by
    rw[List.map_map]
    exact (List.map_congr_left fun x _=>rfl).trans (List.map_id l)
   have hb:b<w.heap.size:=by
    rcases asE b w.heap.size with h | h
    ·exact h
    ·rw[aoB h] at hw;cases hw
   have:=Tryz.strings_Join b o cap (l.map strOf) (strOf sep) w hcell hb (by rw[amo];omega) (by rw[amo];exact hcap) (by rw[e];exact hpre)
   rw[amo,e] at this
   exact this.mono fun e w' ⟨h1,h2⟩=>⟨h1,h2⟩
 exact (key h0 rfl rfl).mono fun e w' ⟨he,hw⟩=>⟨_,E,he,.val _,hh.below hw⟩
def mE (l:List Int):List (List UInt8):=l.map fun x=>dec x.toNat
def inT (l:List Int):List UInt8:=Lib.join (mE l) [32]
theorem aiB:∀{l:List Int},l≠[]→spI l=inT l++[32]
 | [],h=>absurd rfl h
 | [x],_=>by show (dec x.toNat++[32])++[]=_;simp[inT,mE,Lib.join]
 | x :: y :: l,_=>by
  have:=aiB (l:=y :: l) (by simp)
  show (dec x.toNat++[32])++spI (y :: l)=_
  rw[this]
  simp[inT,mE,Lib.join,List.intercalate_cons_cons]
theorem adF {l:List Int} (h:fU 100 l):(inT l).length≤3*l.length:=by
 by_cases hl:l=[]
 ·subst hl;simp[inT,mE,Lib.join]
 ·have:=aqc h
  rw[aiB hl,aaf] at this;omega
theorem acB:aL Tryz.prog 83 (bT (fun l:List Int=>[isA l]) (fun l=>fU 100 l∧l.length≤1000) (fun l=>sP (inT l))):=by
 refine aY (Tb:=tab) mixed aB Tryz.func83 rfl rfl ?_
 rintro (l:List Int) hpre
 refine ai (ai rfl (ai rfl rfl)) ?_
 obtain ⟨hx,hl⟩:=hpre
 have hx:fU 100 l:=hx
 have hl:l.length≤1000:=hl
 refine ei (bE.inv { X:=Nat,up:=fun k=>[(8,.s (iA k)),(3,ssR (mE (l.take k)))],uo:=fun k=>[],inv:=fun k=>k≤l.length∧(True),meas:=fun k=>l.length-k,x0:=0 }) ?_
 refine ai (ai (ai (by exact (a4 (ai rfl rfl))) (ai (by exact (ai (ai (ai (fun _=>rfl) (iE (by simp only[zz,reduceCtorEq];rfl))) rfl) rfl)) (by exact trivial))) rfl) (ai (ai (afc _) ?_) ?_)
 ·trivial
 intro (k:Nat) ⟨hk,_⟩
 have hdl:(mE (l.take k)).length=k:=by unfold mE;rw[amo,ajz];omega
 refine ah (p:=k<l.length) (au (by omega)) (fun h1=>?_) (fun h1=>?_)
 ·refine ai (ai (abq _) (iN (n:=l.length) (by omega))) (ai rfl ?_)
  have hk1:=qp hx h1
  obtain ⟨d,hd⟩:∃d:Nat,l.getD k 0=(d:Int):=⟨(l.getD k 0).toNat,by omega⟩
  have e:mE (l.take (k+1))=mE (l.take k)++[dec d]:=by rw[aQ 0 h1];unfold mE;rw[asG,hd];rfl
  refine ei _ (ai (wT) (ei (d) (ei [] (ai (a4 (ai (fun _=>Or.inl rfl) (ai nof (Or.inl rfl)))) (ai ?_ (ai (by exact trivial) (ai ((by show d<100;omega)) ?_)))))))
  ·exact (iE (by simp only[zz,reduceCtorEq];omega))
  refine ai (afw (by show (mE (l.take k)).length+1≤10000;omega)) (ai (aI 1 rfl) ?_)
  refine ei (k+1) (ai (ai rfl rfl) (ai (ai (ai rfl (ai (ai rfl rfl) (ai (ai rfl rfl) (ai (ai (ai (ai (fun _=>rfl) (aP (by omega))) rfl) (ai rfl (ai rfl (ai ?_ ?_)))) trivial)))) rfl) (ai (ai (iL (by omega)) trivial) (iM (by omega)))))
  all_goals rw[e]
  ·rw[aaf];rfl
  ·exact fun j hj=>aa4 (a:=mE (l.take k)) (b:=[dec d]) (n:=(mE (l.take k)).length) (f:=fun k=>[sP ((mE (l.take _)).getD k [])]) rfl (fun _ _=>rfl) (ajg rfl) j (by rw[aaf];exact hj)
 ·obtain rfl:k=l.length:=by omega
  have et:l.take l.length=l:=ahb
  refine ei _ (ai (ao2) (ei ((mE (l.take l.length),[32])) (ei [] (ai (ai rfl (ai rfl (ai rfl (ai rfl (ai (fun _=>Or.inl rfl) (ai (fun _=>ai rfl rfl) (Or.inl rfl))))))) (ai (by exact (ai (ai rfl (fun _ _=>rfl)) rfl)) (ai trivial (ai (⟨by show (mE (l.take l.length)).length≤1000000;omega,by show (Lib.join (mE (l.take l.length)) [32]).length≤140737488355328;rw[et];have:=adF hx;unfold inT at this;omega⟩) ?_)))))))
  refine ai (ai (fun _=>trivial) ?_) trivial
  show ak _ (sP (inT l))
  rw[show inT l=Lib.join (mE (l.take l.length)) [32] by rw[et];rfl]
  exact rfl
end Go.Sx.Pe
namespace Go.Sx.Pe
open Go Go.Proofs Go.RowKit Go.Sx.Pn
theorem cell_of {w:World} {b:Nat} {vs:Array Value} {T:TypeId} {off:Nat} {v:Value} (h:w.heap[b]?=some (.cells vs T (0,0))) (hv:vs[off]?=some v):w.cell? ⟨b,off,none⟩=some v:=by
 simp[World.cell?,h,hv]
theorem ahc {w:World} {b:Nat} {vs:Array Value} {T:TypeId} (h:w.heap[b]?=some (.cells vs T (0,0))):w.shape? b=some (T,vs.size):=by
 simp[World.shape?,h]
theorem amD {w:World} {b off:Nat} {vs:Array Value} {T:TypeId} (h:w.heap[b]?=some (.cells vs T (0,0))):w.frozen? ⟨b,off,none⟩=false:=by
 simp[World.frozen?,h]
set_option maxRecDepth 100000 in
theorem amO (b:Nat) (w:World) (h0:w.cell? ⟨b,0,none⟩=some (.pointer (some ⟨b,0,none⟩))) :
  Calls Tryz.prog 135 #[.pointer (some ⟨b,0,none⟩)] w fun e w'=>e=.returned (.tuple #[])∧w'=w:=by
 obtain ⟨j,hj,_⟩:=atx.1 (show (Tryz.prog.info? 143).map (·.size)=some 2 by kernel_rfl)
 go_enter Tryz.func135,Tryz.ntmps135
 go_wp2
 rw[Lib.run_neq_ptr_same w _ Tryz.underlying140 hj]
 go_wp2
 go_end0
 exact ⟨rfl,rfl⟩
set_option maxRecDepth 100000 in
theorem amK (T n b:Nat) (hlies:liesAt Tryz.prog Tryz.prog.depth T (n / Tryz.prog.cellsOf T) 0 143 1=true) (hn:0<n) (w:World) (h0:w.cell? ⟨b,0,none⟩=some (.pointer none)) (hsh:w.shape? b=some (T,n)) (hfz:w.frozen? ⟨b,0,none⟩=false) :
  Calls Tryz.prog 135 #[.pointer (some ⟨b,0,none⟩)] w fun e w'=>e=.returned (.tuple #[])∧w'=w.setCell ⟨b,0,none⟩ (.pointer (some ⟨b,0,none⟩)):=by
 obtain ⟨j,hj,hjs⟩:=atx.1 (show (Tryz.prog.info? 143).map (·.size)=some 2 by kernel_rfl)
 go_enter Tryz.func135,Tryz.ntmps135
 go_wp2
 rw[Lib.run_to_unsafe w ⟨b,0,none⟩ Tryz.underlying140 Tryz.underlying226 hj (by rw[hjs];decide) hsh hn]
 simp only[Result.andThen]
 rw[Oper.upon_value]
 go_wp2
 rw[run_callFunc_extern Tryz.func166 (by kernel_rfl) (by kernel_rfl) (by kernel_rfl) (e:=Extern.AbiNoEscape.same) (by kernel_rfl)]
 rw[Lib.run_noEscape]
 simp only[Result.andThen]
 rw[Oper.upon_value]
 go_wp2
 rw[Lib.run_from_unsafe w ⟨b,0,none⟩ Tryz.underlying226 Tryz.underlying140 hj hsh hlies]
 simp only[Result.andThen]
 rw[Oper.upon_value]
 go_wp2
 go_end0
 exact ⟨rfl,rfl⟩
theorem ahH (T n:Nat) (hlies:liesAt Tryz.prog Tryz.prog.depth T (n / Tryz.prog.cellsOf T) 0 143 1=true) (hn:0<n):ac9 Tryz.prog 135 T n:=
 ⟨⟨_,Tryz.func135,rfl,rfl⟩,fun b vs w hw hs=>⟨fun h0=>amK T n b hlies hn w (cell_of hw h0) (by rw[ahc hw,hs]) (amD hw),fun h0=>amO b w (cell_of hw h0)⟩⟩
theorem afB:ac9 Tryz.prog 135 143 2:=ahH _ _ (by kernel_rfl) (by decide)
theorem aoQ:ac9 Tryz.prog 135 202 3:=ahH _ _ (by kernel_rfl) (by decide)
set_option maxRecDepth 100000 in
theorem ajq (T n:Nat):aoE Tryz.prog 84 T n 5:=by
 refine ⟨⟨_,Tryz.func84,rfl,rfl⟩,fun b vs w g cap cur l hw hs h1 hg hnc hcm hcs hcell h0=>?_⟩
 have hl0:l.length≠0:=by simpa using h0
 have c1:w.drew.cell? ⟨b,1,none⟩=some (.slice (some ⟨g,0,none⟩) l.length cap):=cell_of (w:=w.drew) hw h1
 have hSD:(Builtin.unsafeSliceData_ #[141] 206 #[.slice (some ⟨g,0,none⟩) l.length cap]).run Tryz.prog w.drew=.ok (.pointer (some ⟨g,0,none⟩)) w.drew:=
  Lib.run_unsafeSliceData_row _ _ _ _ _ _ (by omega)
 have hUS:(Builtin.unsafeString_ #[206,3] 9 #[.pointer (some ⟨g,0,none⟩),.int .i64 l.length]).run Tryz.prog w.drew=.ok (.string ⟨l.toArray⟩) (w.drew.freeze ⟨g,0,none⟩ l.length):=by
  refine Lib.run_unsafeString_row w.drew 206 3 9 5 Tryz.underlying206 (by kernel_rfl) g cur.size (ahc (w:=w.drew) hg) l h0 (by omega) (by unfold maxLen at hcm;omega) ?_
  intro j x hx
  rw[Addr.add_lit]
  exact cell_of (w:=w.drew) hg (by rw[aiF];exact hcell j x hx)
 have mixed:=mixed
 go_enter Tryz.func84,Tryz.ntmps84
 go_wp2
 go_region_o
 all_goals (go_wp2;go_ret;exact ⟨rfl,rfl⟩)
end Go.Sx.Pe
namespace Go.Sx.Pe
open Go Go.Proofs Go.Sx.Pn
def oJ (l:List UInt8):Ob:=.row 5 1 l.length (fun k=>[cP (l.getD k 0)])
def aqB:SV:=.p false (.val .nilIface)
theorem mZ {a b:List UInt8} {n:Nat} {f g:Nat→List PV} (hn:n=a.length) (hf:∀k,k<a.length→f k=[cP (a.getD k 0)]) (hg:∀k,k<b.length→g k=[cP (b.getD k 0)]):∀k,k<(a++b).length→bS n f g k=[cP ((a++b).getD k 0)]:=by
 intro k hk
 subst hn
 unfold bS
 by_cases h:k<a.length
 ·rw[if_pos h,hf k h,abo,abo,afk h]
 ·have hb:k-a.length<b.length:=by rw[aaf] at hk;omega
  rw[if_neg h,hg _ hb,abo,abo,agH (by omega)]
theorem one_byte {c:UInt8}:∀k,k<[c].length→bn 1 [cP c] k=[cP ([c].getD k 0)]:=by
 intro k hk
 have hk:k<1:=hk
 obtain rfl:k=0:=by omega
 rfl
theorem vB (l:List UInt8):∀k,kN (strOf l) k=[cP (l.getD k 0)]:=by
 intro k
 show [PV.val (.int .u8 ((strOf l).data.getD k 0).toNat)]=_
 have:(strOf l).data.getD k 0=l.getD k 0:=by
  show l.toArray.getD k 0=_
  simp[aeC]
 rw[this];rfl
theorem afN (l:List UInt8):(strOf l).size=l.length:=by
 show l.toArray.size=_
 simp
def adr:Bool→SV
 | true=>.own 0 0
 | false=>.p false (.val (.pointer none))
def bld (T:Nat) (rest:List SV) (st:Bool:=true):Ob:=.cells T (adr st :: .row 1 :: rest)
abbrev NM := List (List UInt8)
def wbG (T:Nat) (rest:NM→List SV):rz:={ A:=Bool×NM×List UInt8×UInt8,fix:=1,args:=fun a=>[.own 0 0,cA a.2.2.2],objs:=fun a=>[bld T (rest a.2.1) a.1,oJ a.2.2.1],pre:=fun a=>a.2.2.1.length≤1000000,res:=fun _=>aqB,objs':=fun a=>[bld T (rest a.2.1),oJ (a.2.2.1++[a.2.2.2])],inl:=[135] }
def wsG (T:Nat) (rest:NM→List SV):rz:={ A:=Bool×NM×List UInt8×List UInt8,fix:=1,args:=fun a=>[.own 0 0,sA a.2.2.2],objs:=fun a=>[bld T (rest a.2.1) a.1,oJ a.2.2.1],pre:=fun a=>a.2.2.1.length≤1000000∧a.2.2.2.length≤1000000,res:=fun a=>.tup [iA a.2.2.2.length,aqB],objs':=fun a=>[bld T (rest a.2.1),oJ (a.2.2.1++a.2.2.2)],inl:=[135] }
def noR:NM→List SV:=fun _=>[]
def nmR:NM→List SV:=fun l=>[ssA l]
theorem uN:jN Tryz.prog 78 (wsG 143 noR):=by
 refine o8 (Tb:=tab) mixed aB Tryz.func78 rfl rfl ?_
 rintro ⟨st,a⟩ hpre
 refine ai (ai rfl (ai rfl rfl)) ?_
 have hl:a.2.1.length≤1000000:=hpre.1
 have hl2:a.2.2.length≤1000000:=hpre.2
 have hz:=afN a.2.2
 cases st with
 | true=>
  refine tH afB rfl rfl rfl (.inl rfl) ?_
  refine ai (ai (ai rfl rfl) (ai (by show a.2.1.length+_≤_;rw[hz];unfold maxLen;omega) (by show a.2.1.length+_≤_;rw[hz];omega))) ?_
  refine ei [0,2] (ai (ai rfl (ai rfl rfl)) (ai ?_ ?_))
  ·exact (ai (iE (by simp only[zz,reduceCtorEq];rfl)) rfl)
  ·refine (ai (ai rfl (ai (ai rfl rfl) rfl)) (ai rfl (ai rfl (ai ?_ ?_))))
   ·show a.2.1.length+(strOf a.2.2).size=(a.2.1++a.2.2).length
    rw[hz,aaf]
   ·exact mZ rfl (fun _ _=>rfl) (fun k _=>vB _ k)
 | false=>
  refine tH afB rfl rfl rfl (.inr ⟨_,rfl⟩) ?_
  refine ai (ai (ai rfl rfl) (ai (by show a.2.1.length+_≤_;rw[hz];unfold maxLen;omega) (by show a.2.1.length+_≤_;rw[hz];omega))) ?_
  refine ei [0,2] (ai (ai rfl (ai rfl rfl)) (ai ?_ ?_))
  ·exact (ai (iE (by simp only[zz,reduceCtorEq];rfl)) rfl)
  ·refine (ai (ai rfl (ai (ai rfl rfl) rfl)) (ai rfl (ai rfl (ai ?_ ?_))))
   ·show a.2.1.length+(strOf a.2.2).size=(a.2.1++a.2.2).length
    rw[hz,aaf]
   ·exact mZ rfl (fun _ _=>rfl) (fun k _=>vB _ k)
theorem ahm:jN Tryz.prog 78 (wsG 202 nmR):=by
 refine o8 (Tb:=tab) mixed aB Tryz.func78 rfl rfl ?_
 rintro ⟨st,a⟩ hpre
 refine ai (ai rfl (ai rfl rfl)) ?_
 have hl:a.2.1.length≤1000000:=hpre.1
 have hl2:a.2.2.length≤1000000:=hpre.2
 have hz:=afN a.2.2
 cases st with
 | true=>
  refine tH aoQ rfl rfl rfl (.inl rfl) ?_
  refine ai (ai (ai rfl rfl) (ai (by show a.2.1.length+_≤_;rw[hz];unfold maxLen;omega) (by show a.2.1.length+_≤_;rw[hz];omega))) ?_
  refine ei [0,2] (ai (ai rfl (ai rfl rfl)) (ai ?_ ?_))
  ·exact (ai (iE (by simp only[zz,reduceCtorEq];rfl)) rfl)
  ·refine (ai (ai rfl (ai (ai rfl rfl) (ai rfl (ai rfl (fun _ _=>rfl))))) (ai rfl (ai rfl (ai ?_ ?_))))
   ·show a.2.1.length+(strOf a.2.2).size=(a.2.1++a.2.2).length
    rw[hz,aaf]
   ·exact mZ rfl (fun _ _=>rfl) (fun k _=>vB _ k)
 | false=>
  refine tH aoQ rfl rfl rfl (.inr ⟨_,rfl⟩) ?_
  refine ai (ai (ai rfl rfl) (ai (by show a.2.1.length+_≤_;rw[hz];unfold maxLen;omega) (by show a.2.1.length+_≤_;rw[hz];omega))) ?_
  refine ei [0,2] (ai (ai rfl (ai rfl rfl)) (ai ?_ ?_))
  ·exact (ai (iE (by simp only[zz,reduceCtorEq];rfl)) rfl)
  ·refine (ai (ai rfl (ai (ai rfl rfl) (ai rfl (ai rfl (fun _ _=>rfl))))) (ai rfl (ai rfl (ai ?_ ?_))))
   ·show a.2.1.length+(strOf a.2.2).size=(a.2.1++a.2.2).length
    rw[hz,aaf]
   ·exact mZ rfl (fun _ _=>rfl) (fun k _=>vB _ k)
def as0 (T:Nat) (rest:NM→List SV):rz:={ A:=NM×List UInt8,fix:=1,args:=fun a=>[.own 0 0],objs:=fun a=>[bld T (rest a.1),oJ a.2],pre:=fun a=>True,res:=fun a=>iA a.2.length,objs':=fun a=>[bld T (rest a.1),oJ a.2] }
theorem apa:jN Tryz.prog 142 (as0 202 nmR):=by
 refine o8 (Tb:=tab) mixed aB Tryz.func142 rfl rfl ?_
 rintro (a:NM×List UInt8) hpre
 refine ai (ai rfl (ai rfl rfl)) ?_
 refine ei [0,1] (ai (ai rfl (ai rfl rfl)) (ai ?_ ?_))
 ·exact rfl
 ·exact (ai (ai rfl (ai (ai rfl rfl) (ai rfl (ai rfl (fun _ _=>rfl))))) (ai rfl (ai rfl (ai rfl (fun _ _=>rfl)))))
theorem acz:jN Tryz.prog 81 (wbG 143 noR):=by
 refine o8 (Tb:=tab) mixed aB Tryz.func81 rfl rfl ?_
 rintro ⟨st,a⟩ hpre
 refine ai (ai rfl (ai rfl rfl)) ?_
 have hl:a.2.1.length≤1000000:=hpre
 cases st with
 | true=>
  refine tH afB rfl rfl rfl (.inl rfl) ?_
  refine ai (mxL (n:=a.2.1.length+1) (by omega) (by decide)) ?_
  refine ai (lt1 rfl) ?_
  refine ei [0,3] (ai (ai rfl (ai rfl rfl)) (ai ?_ ?_))
  ·exact rfl
  ·refine (ai (ai rfl (ai (ai rfl rfl) rfl)) (ai rfl (ai rfl (ai ?_ ?_))))
   ·show a.2.1.length+1=(a.2.1++[a.2.2]).length
    simp
   ·exact mZ rfl (fun _ _=>rfl) one_byte
 | false=>
  refine tH afB rfl rfl rfl (.inr ⟨_,rfl⟩) ?_
  refine ai (mxL (n:=a.2.1.length+1) (by omega) (by decide)) ?_
  refine ai (lt1 rfl) ?_
  refine ei [0,3] (ai (ai rfl (ai rfl rfl)) (ai ?_ ?_))
  ·exact rfl
  ·refine (ai (ai rfl (ai (ai rfl rfl) rfl)) (ai rfl (ai rfl (ai ?_ ?_))))
   ·show a.2.1.length+1=(a.2.1++[a.2.2]).length
    simp
   ·exact mZ rfl (fun _ _=>rfl) one_byte
def jh (sep:List UInt8):List (List UInt8)→List UInt8
 | []=>[]
 | [x]=>x
 | x :: y :: l=>x++(sep++jh sep (y :: l))
theorem ach (sep x:List UInt8):∀l:List (List UInt8),jh sep (l++[x])=if l=[] then x else jh sep l++(sep++x)
 | []=>rfl
 | [y]=>by rw[if_neg (by simp)];rfl
 | y :: z :: l=>by
  rw[if_neg (by simp)]
  show y++(sep++jh sep (z :: l++[x]))=y++(sep++jh sep (z :: l))++(sep++x)
  rw[ach sep x (z :: l),if_neg (by simp)]
  simp
def y7 (o:Int):List UInt8:=if o=4 then [32,124,32] else [32,38,32]
def aei (b:Bool) (t:List UInt8):List UInt8:=if b then 40 :: (t++[41]) else t
def brA (o x:Int):Bool:=decide (x=4)||(decide (x=3)&&decide (o≠4))
mutual
def dY (nm:NM):Ex→List UInt8
 | .node o i l=>if o=0 then [if i=0 then 48 else 49] else if o=1 then nm.getD i.toNat [] else if o=2 then 33 :: (arE nm o l).headD [] else jh (y7 o) (arE nm o l)
def arE (nm:NM) (o:Int):List Ex→List (List UInt8)
 | []=>[]
 | x :: l=>aei (brA o x.op) (dY nm x) :: arE nm o l
end
def lU (nm:NM) (o:Int) (x:Ex):List UInt8:=aei (brA o x.op) (dY nm x)
theorem aiS (nm:NM) (o:Int):∀l:List Ex,arE nm o l=l.map (lU nm o)
 | []=>by rw[arE];rfl
 | x :: l=>by rw[arE,aiS nm o l];rfl
theorem qy (nm:NM) (x:Ex):dY nm x=if x.op=0 then [if x.idx=0 then 48 else 49] else if x.op=1 then nm.getD x.idx.toNat [] else if x.op=2 then 33 :: (x.args.map (lU nm x.op)).headD [] else jh (y7 x.op) (x.args.map (lU nm x.op)):=by
 obtain ⟨o,i,l⟩:=x;rw[dY,aiS]
def wrB (o out:Int):Bool:=(decide (o=3)||decide (o=4))&&(decide (0≤out)&&(decide (o=4)||decide (out≠4)))
def oZ (nm:NM) (x:Ex) (out:Int):List UInt8:=aei (wrB x.op out) (dY nm x)
theorem ajo (nm:NM) (x:Ex) {o:Int} (h:0≤o):oZ nm x o=lU nm o x:=by
 unfold oZ lU
 have:wrB x.op o=brA o x.op:=by
  unfold wrB brA
  rw[decide_eq_true h,aiI]
  by_cases h3:x.op=3
  ·rw[h3];simp
  ·by_cases h4:x.op=4
   ·rw[h4];simp
   ·rw[decide_eq_false h3,decide_eq_false h4];rfl
 rw[this]
theorem wU (b:Bool) (t:List UInt8):(aei b t).length≤t.length+2:=by unfold aei;split<;>simp
def abO (nm:NM):Prop:=∀k,(nm.getD k []).length≤100
theorem y9 (sep:List UInt8):∀l:List (List UInt8),(jh sep l).length≤(l.map fun t=>t.length+sep.length).sum
 | []=>by simp[jh]
 | [x]=>by simp[jh]
 | x :: y :: l=>by
  have:=y9 sep (y :: l)
  simp only[jh,aaf,aoM,auu] at this ⊢
  omega
theorem ahe (o:Int):(y7 o).length=3:=by unfold y7;split<;>rfl
theorem abZ {nm:NM} {o:Int}:∀(l:List Ex),(∀x∈l,(dY nm x).length+5≤110*x.size)→((l.map (lU nm o)).map fun t=>t.length+3).sum≤110*sizes l
 | [],_=>by simp
 | x :: l,h=>by
  have h1:=h x (by simp)
  have h2:=abZ (nm:=nm) (o:=o) l fun y hy=>h y (by simp[hy])
  have h3:=wU (brA o x.op) (dY nm x)
  rw[sizes]
  simp only[aoM,auu] at h2 ⊢
  unfold lU at h2 ⊢
  omega
theorem abT {nm:NM} (hnm:abO nm):∀(n:Nat) (x:Ex),x.size≤n→(dY nm x).length+5≤110*x.size
 | 0,x,h=>by have:=size_pos x;omega
 | n+1,x,h=>by
  have hsz:=x.size_eq
  have ih:∀y∈x.args,(dY nm y).length+5≤110*y.size:=fun y hy=>abT hnm n y (by have:=jO hy;omega)
  have h4:=abZ (nm:=nm) (o:=x.op) x.args ih
  rw[qy]
  split
  ·simp;omega
  ·split
   ·have:=hnm x.idx.toNat;omega
   ·split
    ·cases hc:x.args with
     | nil=>simp;omega
     | cons y l=>
      rw[hc,sizes] at hsz
      have h1:=ih y (by rw[hc];simp)
      have h3:=wU (brA x.op y.op) (dY nm y)
      simp only[aoM,List.headD_cons,ai1]
      unfold lU
      omega
    ·have h5:=y9 (y7 x.op) (x.args.map (lU nm x.op))
     rw[ahe] at h5
     omega
def jv (nm:NM) (base sep:List UInt8) (o:Int) (l:List Ex) (k:Nat):List UInt8:=base++jh sep ((l.take k).map (lU nm o))
theorem vJ (nm:NM) (base sep:List UInt8) (o:Int) (l:List Ex):jv nm base sep o l 0=base:=by unfold jv;simp[jh]
theorem aob {nm:NM} {base sep:List UInt8} {o:Int} {l:List Ex} (h:0<l.length):jv nm base sep o l 1=base++lU nm o (l.getD 0 dF):=by
 unfold jv;rw[aQ dF h];rfl
theorem amt {nm:NM} {base sep:List UInt8} {o:Int} {l:List Ex} {k:Nat} (h:k+1<l.length):jv nm base sep o l (k+1+1)=jv nm base sep o l (k+1)++sep++lU nm o (l.getD (k+1) dF):=by
 unfold jv
 have hne:(l.take (k+1)).map (lU nm o)≠[]:=by
  cases l with
  | nil=>simp at h
  | cons y l=>simp
 rw[aQ dF h,asG,List.map_singleton,ach,if_neg hne]
 simp
theorem amU (nm:NM) (base sep:List UInt8) (o:Int) (l:List Ex):jv nm base sep o l l.length=base++jh sep (l.map (lU nm o)):=by unfold jv;rw[ahb]
theorem acC (sep:List UInt8):∀l:List (List UInt8),l≠[]→(jh sep l).length+sep.length≤(l.map fun t=>t.length+sep.length).sum
 | [],h=>absurd rfl h
 | [x],_=>by simp[jh]
 | x :: y :: l,_=>by
  have:=acC sep (y :: l) (by simp)
  simp only[jh,aaf,aoM,auu] at this ⊢
  omega
theorem anP {nm:NM} (hnm:abO nm) {base sep:List UInt8} (hsep:sep.length=3) {o:Int} {l:List Ex} {k:Nat} (hk:k≤l.length):(jv nm base sep o l k).length+(if k=0 then 0 else 3)≤base.length+110*sizes (l.take k):=by
 have h4:=abZ (nm:=nm) (o:=o) (l.take k) fun x _=>abT hnm x.size x (aha _)
 unfold jv
 rw[aaf]
 cases k with
 | zero=>simp[jh,sizes]
 | succ k=>
  have hne:(l.take (k+1)).map (lU nm o)≠[]:=by
   cases l with
   | nil=>simp at hk
   | cons y l=>simp
  have h5:=acC sep _ hne
  rw[hsep] at h5
  rw[if_neg (by omega)]
  omega
structure WrA where
 st:Bool
 nm:NM
 bs:List UInt8
 x:Ex
 out:Int
def akr (a:WrA):Prop:=lg a.nm.length a.x∧a.x.size≤256∧abO a.nm∧a.nm.length≤256∧a.bs.length+110*a.x.size≤500000
def wrG (n:Nat):rz:={ A:=WrA,fix:=1,args:=fun a=>[.own 0 0,sG a.x,iA a.out],objs:=fun a=>[bld 202 (nmR a.nm) a.st,oJ a.bs],pre:=fun a=>akr a∧a.x.size≤n,res:=fun _=>.tup [],objs':=fun a=>[bld 202 (nmR a.nm),oJ (a.bs++oZ a.nm a.x a.out)],inl:=[141,81,78] }
def asQ (st:Bool):Nat→SV
 | 0=>adr st
 | _+1=>.own 0 0
theorem akB (c:UInt8) (h:iT c=true):iB c=true:=by
 unfold iT dU jC uR at h
 unfold iB gG
 simp only[aqK,agw,decide_eq_true_eq] at h ⊢
 omega
theorem aik (c:UInt8) (h:jC c=true):gG c=true:=by
 unfold jC at h
 unfold gG
 simp only[aqK,agw,decide_eq_true_eq] at h ⊢
 omega
theorem ajU {s:List UInt8} (h:dN s=0):s.length≤24∧resE s=false∧jE s=true:=by
 unfold dN at h
 split at h
 ·cases h
 rename_i h1
 split at h
 ·cases h
 rename_i h2
 split at h
 ·rename_i h3
  simp only[aqK,not_or,aoW,Bool.not_eq_true,Bool.not_eq_false'] at h2
  obtain ⟨⟨h4,h5⟩,h6⟩:=h2
  refine ⟨by omega,h6,?_⟩
  unfold jE
  rw[ak7.2 fun c hc=>akB c (ak7.1 h3 c hc),h4,aik _ (by simpa using h5)];rfl
 ·cases h
def aa1 (b:Bool) (s:List UInt8):Bool:=decide (s.length≤24)&&(jE s&&(resE s==b))
theorem ae2 {b:Bool} {s:List UInt8} (h:aa1 b s=true):s.length≤24∧jE s=true∧resE s=b:=by
 unfold aa1 at h
 simp only[agw,decide_eq_true_eq,beq_iff_eq] at h
 exact ⟨h.1,h.2.1,h.2.2⟩
theorem anr {n:Nat} (h:n≤6):(jo n).all (aa1 true)=true∧(jo n).Nodup∧(jo n).all (fun s=>s.getD 0 0 != 121)=true:=by
 have:∀n:Fin 7,(jo n.1).all (aa1 true)=true∧(jo n.1).Nodup∧(jo n.1).all (fun s=>s.getD 0 0 != 121)=true:=by decide +kernel
 exact this ⟨n,by omega⟩
theorem aot {n:Nat} (h:n≤24):(nH n).all (aa1 true)=true∧(nH n).Nodup∧(nH n).all (fun s=>s.getD 0 0==121)=true:=by
 have:∀n:Fin 25,(nH n.1).all (aa1 true)=true∧(nH n.1).Nodup∧(nH n.1).all (fun s=>s.getD 0 0==121)=true:=by decide +kernel
 exact this ⟨n,by omega⟩
theorem ajt {α:Type} [BEq α] [LawfulBEq α] {x:α} {l:List α}:l.any (fun y=>x==y)=false↔x∉l:=by
 rw[atv]
 constructor
 ·intro h hx;exact h x hx (by simp)
 ·intro h y hy e;exact h (by rw[beq_iff_eq.1 e];exact hy)
theorem aky {α:Type} {l:List α} {k:Nat} {d:α} (hn:l.Nodup) (hk:k<l.length):l.getD k d∉l.take k:=by
 have h1:(l.take (k+1)).Nodup:=hn.sublist (List.take_sublist _ _)
 rw[aQ d hk,atH] at h1
 intro hx
 exact h1.2.2 _ hx _ (aiy.2 rfl) rfl
theorem afl {α:Type} {d:α}:∀{l:List α},(∀k,k<l.length→l.getD k d∉l.take k)→l.Nodup:=by
 intro l h
 rw[List.Nodup,atT]
 intro i j hi hj hij e
 refine h j hj ?_
 have e2:l.getD j d=l[j]:=by rw[abo,abn hj];rfl
 rw[e2,←e]
 exact List.mem_iff_getElem.2 ⟨i,by rw[ajz];omega,by simp⟩
theorem aiq {l:List (List UInt8)} (h:dL l=0):(∀s∈l,s.length≤24∧resE s=false∧jE s=true)∧l.Nodup:=by
 unfold dL at h
 split at h
 ·cases h
 have h1:=nG h
 have key:∀k,k<l.length→dN (l.getD k [])=0∧l.getD k []∉l.take k:=fun k hk=>by
  have h2:=h1 k hk
  unfold sH at h2
  split at h2
  ·rename_i h3;exact absurd h2 h3
  rename_i h3
  split at h2
  ·cases h2
  rename_i h4
  exact ⟨aqu.1 h3,ajt.1 (att.2 h4)⟩
 refine ⟨fun s hs=>?_,afl (d:=[]) fun k hk=>(key k hk).2⟩
 obtain ⟨k,hk,rfl⟩:=arp hs
 have:=(key k hk).1
 rw[abo,abn hk] at this
 exact ajU this
theorem rJ {c:aJ} (h:bD c=0):(∀s∈dO c,s.length≤24∧jE s=true)∧(dO c).Nodup∧((dO c).length:Int)=jR c∧(dO c).length≤52:=by
 obtain ⟨h1,h2,h3,_⟩:=gL h
 have hi:=aiq h2
 have hil:=pV h2
 obtain ⟨a1,a2,a3⟩:=anr (n:=c.act.toNat) (by omega)
 obtain ⟨b1,b2,b3⟩:=aot (n:=c.sts.length) (by omega)
 have A:∀s∈jo c.act.toNat,s.length≤24∧jE s=true∧resE s=true:=fun s hs=>ae2 (ak7.1 a1 s hs)
 have B:∀s∈nH c.sts.length,s.length≤24∧jE s=true∧resE s=true:=fun s hs=>ae2 (ak7.1 b1 s hs)
 refine ⟨fun s hs=>?_,?_,?_,?_⟩
 ·unfold dO at hs
  simp only[ahN] at hs
  rcases hs with (hs | hs) | hs
  ·exact ⟨(A s hs).1,(A s hs).2.1⟩
  ·exact ⟨(hi.1 s hs).1,(hi.1 s hs).2.2⟩
  ·exact ⟨(B s hs).1,(B s hs).2.1⟩
 ·unfold dO
  rw[atH,atH]
  refine ⟨⟨a2,hi.2,fun x hx y hy e=>?_⟩,b2,fun x hx y hy e=>?_⟩
  ·subst e;have:=(A x hx).2.2;rw[(hi.1 x hy).2.1] at this;cases this
  ·subst e
   rcases ahN.1 hx with hx | hx
   ·have p:=ak7.1 a3 x hx
    have q:=ak7.1 b3 x hy
    rw[beq_iff_eq] at q
    rw[q] at p;cases p
   ·have:=(B x hy).2.2;rw[(hi.1 x hx).2.1] at this;cases this
 ·unfold dO jR
  rw[aaf,aaf,aaG,aaL];omega
 ·unfold dO
  rw[aaf,aaf,aaG,aaL];omega
theorem akP {c:aJ} (h:bD c=0):kI (dO c)=0:=by
 obtain ⟨h1,h2,_,h3⟩:=rJ h
 unfold kI
 rw[if_neg (by omega)]
 refine gD fun k hk=>?_
 have hm:(dO c).getD k []∈dO c:=adh (bI [] hk)
 have:=h1 _ hm
 unfold pQ
 rw[if_neg (by rw[this.2];decide),if_neg (by omega),if_neg]
 rw[ajt.2 (aky h2 hk)];decide
theorem acA {nm:NM} {o:Int}:∀(l:List Ex),(∀x∈l,(dY nm x).length+5≤34*x.size)→((l.map (lU nm o)).map fun t=>t.length+3).sum≤34*sizes l
 | [],_=>by simp
 | x :: l,h=>by
  have h1:=h x (by simp)
  have h2:=acA (nm:=nm) (o:=o) l fun y hy=>h y (by simp[hy])
  have h3:=wU (brA o x.op) (dY nm x)
  rw[sizes]
  simp only[aoM,auu] at h2 ⊢
  unfold lU at h2 ⊢
  omega
theorem acs {nm:NM} (hnm:∀k,(nm.getD k []).length≤24):∀(n:Nat) (x:Ex),x.size≤n→(dY nm x).length+5≤34*x.size
 | 0,x,h=>by have:=size_pos x;omega
 | n+1,x,h=>by
  have hsz:=x.size_eq
  have ih:∀y∈x.args,(dY nm y).length+5≤34*y.size:=fun y hy=>acs hnm n y (by have:=jO hy;omega)
  have h4:=acA (nm:=nm) (o:=x.op) x.args ih
  rw[qy]
  split
  ·simp;omega
  ·split
   ·have:=hnm x.idx.toNat;omega
   ·split
    ·cases hc:x.args with
     | nil=>simp;omega
     | cons y l=>
      rw[hc,sizes] at hsz
      have h1:=ih y (by rw[hc];simp)
      have h3:=wU (brA x.op y.op) (dY nm y)
      simp only[aoM,List.headD_cons,ai1]
      unfold lU
      omega
    ·have h5:=y9 (y7 x.op) (x.args.map (lU nm x.op))
     rw[ahe] at h5
     omega
theorem ag5 {c:aJ} (h:bD c=0) (k:Nat):((dO c).getD k []).length≤24:=by
 rcases asE k (dO c).length with hk | hk
 ·exact ((rJ h).1 _ (adh (bI [] hk))).1
 ·rw[abo,asF hk];simp
theorem qG {a b:ByteArray} {l m:List UInt8} (ha:a=strOf l) (hb:b=strOf m) (h:l.length+m.length≤9223372036854775807):(((a.size+b.size:Nat)):Int)≤9223372036854775807:=by
 subst ha hb;rw[dK,dK];omega
def stepW:List UInt8:=[115,116,101,112,32]
def iY (l:List Sk):List UInt8:=l.flatMap fun y=>32 :: nU y
def ug (w:Int):List UInt8:=if 0<w then 32 :: dec w.toNat else []
def gQ (k:Nat):List UInt8:=(stepW++dec k)++[58]
def lnK (k:Nat) (x:Stp):List UInt8:=((gQ k++iY x.st)++ug x.wt)++[10]
def bM (l:List Stp):Nat→List UInt8
 | 0=>[]
 | k+1=>bM l k++lnK k (l.getD k st0)
def lnT (nm:NM) (t:jP):List UInt8:=(((((inT t.fr++[32,62,32])++inT t.to)++[58,32])++dY nm t.wh)++[10])
def nM (nm:NM) (l:List jP):Nat→List UInt8
 | 0=>[]
 | k+1=>nM nm l k++lnT nm (l.getD k aF)
def akp (c:aJ):List UInt8:=bM c.sts c.sts.length++nM (dO c) c.trs c.trs.length
def vv (c:aJ):PV:=.tup [sP (if bD c=0 then akp c else []),iP (bD c)]
theorem agU:∀(j n:Nat),n<10 ^ j→(adI n).length≤j
 | 0,n,h=>by
  have:n=0:=by rw[Nat.pow_zero] at h;omega
  subst this;simp[adI]
 | j+1,n,h=>by
  rw[alY]
  split
  ·simp
  ·have:=agU j (n / 10) (by rw[Nat.div_lt_iff_lt_mul (by decide)];rw[Nat.pow_succ] at h;exact h)
   rw[aaf,List.length_singleton];omega
theorem ab4 {n:Nat} (h:n≤1000000):(dec n).length≤7:=by
 by_cases h0:n=0
 ·subst h0;have:=wD (n:=0) (by decide);omega
 ·have:=agU 7 n (by show n<10 ^ 7;omega)
  unfold adI at this
  rw[if_neg h0] at this;exact this
theorem ael (l:List Sk):(iY l).length=3*l.length:=by
 induction l with
 | nil=>rfl
 | cons x l ih=>
  show ((32 :: nU x)++iY l).length=_
  rw[aaf,ih]
  simp[nU];omega
theorem ap0 {w:Int} (h:w≤1000000):(ug w).length≤8:=by
 unfold ug
 split
 ·have:=ab4 (n:=w.toNat) (by omega)
  rw[ai1];omega
 ·simp
theorem alT {n:Int} {l:List Int} (h0:∀x∈l,0≤x∧x<n) (h1:∀k,0<k→k<l.length→l.getD (k-1) 0<l.getD k 0):(l.length:Int)≤max n 0:=by
 have key:∀k,k<l.length→(k:Int)≤l.getD k 0:=by
  intro k
  induction k with
  | zero=>intro hk;exact (h0 _ (adh (bI 0 hk))).1
  | succ k ih=>
   intro hk
   have:=h1 (k+1) (by omega) hk
   have:=ih (by omega)
   simp only[Nat.add_sub_cancel] at *
   omega
 rcases aq0 l.length with h | h
 ·omega
 ·have h2:=key (l.length-1) (by omega)
  have h3:=(h0 _ (adh (bI 0 (show l.length-1<l.length by omega)))).2
  omega
theorem ahw {n:Nat} {l:List Int} (h:eX n l=0) (hn:n≤24):l.length≤24:=by
 have h0:=(aaP h hn).2.1
 unfold eX at h
 split at h
 ·cases h
 have h1:=nG h
 have:=alT (n:=(n:Int)) (l:=l) h0 fun k hk hl=>by
  have h2:=h1 k hl
  unfold mH at h2
  split at h2
  ·cases h2
  split at h2
  ·cases h2
  ·rename_i h3;omega
 omega
theorem apR {act:Int} {x:Stp} (ha:1≤act∧act≤6) (h:eU act x=0):x.st.length≤6∧okS 6 x.st∧0≤x.wt∧x.wt≤1000000:=by
 unfold eU at h
 split at h
 ·rename_i h1;exact absurd h h1
 rename_i h1
 split at h
 ·cases h
 rename_i h2
 have h3:=nG (aqu.1 h1)
 have hk:∀k,k<x.st.length→(0≤(x.st.getD k bJ).1∧(x.st.getD k bJ).1<act)∧(0<k→(x.st.getD (k-1) bJ).1<(x.st.getD k bJ).1):=fun k hk=>by
  have h4:=h3 k hk
  unfold jm at h4
  split at h4
  ·cases h4
  split at h4
  ·cases h4
  ·rename_i h5 h6;exact ⟨by omega,fun h7=>by omega⟩
 have hs:okS 6 x.st:=fun y hy=>by
  obtain ⟨k,hk1,rfl⟩:=arp hy
  have:=(hk k hk1).1
  rw[abo,abn hk1] at this
  have this:0≤x.st[k].1∧x.st[k].1<act:=this
  omega
 refine ⟨?_,hs,by omega,by omega⟩
 have gm:∀k,k<x.st.length→(x.st.map (·.1)).getD k 0=(x.st.getD k bJ).1:=fun k hk1=>by
  rw[abo,abo,ajs,abn hk1];rfl
 have:=alT (n:=6) (l:=x.st.map (·.1)) (fun y hy=>by
  obtain ⟨z,hz,rfl⟩:=asJ.1 hy
  exact hs z hz) fun k hk0 hkl=>by
   rw[amo] at hkl
   rw[gm k hkl,gm (k-1) (by omega)]
   exact (hk k hkl).2 hk0
 rw[amo] at this
 omega
theorem agF {c:aJ} (h:bD c=0) {k:Nat} (hk:k<c.sts.length):(c.sts.getD k st0).st.length≤6∧okS 6 (c.sts.getD k st0).st∧0≤(c.sts.getD k st0).wt∧(c.sts.getD k st0).wt≤1000000:=by
 obtain ⟨h1,_,_,_,h5,_⟩:=gL h
 exact apR h1 (h5 k hk)
theorem ad5 {k:Nat} (h:k<100):(gQ k).length≤8:=by
 have:=wD h
 unfold gQ stepW
 simp only[aaf,ai1,aoK];omega
theorem apg {k:Nat} {x:Stp} (h:k<100) (h1:x.st.length≤6) (h2:x.wt≤1000000):(lnK k x).length≤35:=by
 have h3:=ad5 h
 have h4:=ael x.st
 have h5:=ap0 h2
 unfold lnK
 simp only[aaf,ai1,aoK];omega
theorem aga {c:aJ} (h:bD c=0):∀{k:Nat},k≤c.sts.length→(bM c.sts k).length≤35*k
 | 0,_=>by simp[bM]
 | k+1,hk=>by
  have h1:=agF h (k:=k) (by omega)
  have h2:=(gL h).2.2.1
  have h3:=apg (k:=k) (by omega) h1.1 h1.2.2.2
  have h4:=aga h (k:=k) (by omega)
  rw[bM,aaf];omega
theorem ai6 {c:aJ} (h:bD c=0) {k:Nat} (hk:k<c.trs.length):((c.trs.getD k aF).fr.length≤24∧(c.trs.getD k aF).to.length≤24)∧(c.trs.getD k aF).to≠[]∧(c.trs.getD k aF).wh.size≤256∧lg (dO c).length (c.trs.getD k aF).wh:=by
 obtain ⟨_,_,h3,_,_,h6⟩:=gL h
 have h7:=h6 k hk
 have hw:=(kM h hk).2.2
 unfold iJ at h7
 split at h7
 ·rename_i h8;exact absurd h7 h8
 rename_i h8
 split at h7
 ·rename_i h9;exact absurd h7 h9
 rename_i h9
 have h9:=aqu.1 h9
 have hn:=(rJ h).2.2.1
 obtain ⟨_,h10,h11⟩:=vW.1 hw
 refine ⟨⟨ahw (aqu.1 h8) h3.2,ahw h9 h3.2⟩,?_,h10.1,by rw[hn];exact h11⟩
 have:=(aaP h9 h3.2).2.2
 intro e
 rw[e] at this;simp at this
theorem aoH {c:aJ} (h:bD c=0):abO (dO c):=fun k=>aln (ag5 h k) (by decide)
theorem xZ {n:Nat} {l:List Int} (h:fU n l) (hn:n≤24):fU 100 l:=fun x hx=>by have:=h x hx;omega
theorem aiP {c:aJ} (h:bD c=0) {k:Nat} (hk:k<c.trs.length):((inT (c.trs.getD k aF).fr).length≤72∧(inT (c.trs.getD k aF).to).length≤72)∧(dY (dO c) (c.trs.getD k aF).wh).length≤28160∧(lnT (dO c) (c.trs.getD k aF)).length≤28310:=by
 obtain ⟨h1,h2,h3,h4⟩:=ai6 h hk
 have h5:=kM h hk
 have h6:=adF (xZ h5.1.1 (by decide))
 have h7:=adF (xZ h5.2.1.1 (by decide))
 have h8:=abT (aoH h) _ _ (aha (c.trs.getD k aF).wh.size)
 refine ⟨⟨by omega,by omega⟩,by omega,?_⟩
 unfold lnT
 simp only[aaf,ai1,aoK];omega
theorem afJ {c:aJ} (h:bD c=0):∀{k:Nat},k≤c.trs.length→(nM (dO c) c.trs k).length≤28310*k
 | 0,_=>by simp[nM]
 | k+1,hk=>by
  have h1:=aiP h (k:=k) (by omega)
  have h2:=afJ h (k:=k) (by omega)
  rw[nM,aaf];omega
def asr:SV:=.p false (.val (.pointer none))
def asU:Nat→SV
 | 0=>asr
 | _+1=>.own 1 0
def adE (l:List UInt8) (k:Nat):List PV:=[cP (l.getD k 0)]
theorem l9 {l m:List UInt8} (h:l=m) {n:Nat}:∀j,j<n→adE l j=adE m j:=fun j _=>by rw[h]
def qK:SV:=.p false (.val (.pointer none))
def aak:SV:=.p false (.val (.slice none 0 0))
theorem agu {P:Program} {f T:Nat} {A:Type} {args:A→List SV} {rest:A→List SV} {pre:A→Prop} {res:A→SV} {objs':A→List Ob}
  (h:jN P f { A:=A,fix:=1,args:=args,objs:=fun a=>[.cells T (qK :: .row 1 :: rest a),oJ []],pre:=pre,res:=res,objs':=objs' }) :
  jN P f { A:=A,fix:=1,args:=args,objs:=fun a=>[.cells T (qK :: aak :: rest a)],pre:=pre,res:=res,objs':=objs' }:=by
 refine ⟨h.1,fun a hp base E vs w hg H hA=>?_⟩
 have H:bq (zq w E [.cells T (qK :: aak :: rest a)] base 1) E (iI [.cells T (qK :: aak :: rest a)]) w:=H
 have hA:jV E vs (args a):=hA
 have hn1:∀i,1≤i→E.hd i=none:=fun i hi=>H.new i hi
 obtain ⟨E2,hE2⟩:∃E2:Env,E2={ E with hd:=fun i=>if i=1 then some (.slice none 0 0) else E.hd i }:=⟨_,rfl⟩
 have hd1:E2.hd 1=some (.slice none 0 0):=by rw[hE2];rfl
 have hdn:∀i,i≠1→E2.hd i=E.hd i:=fun i hi=>by rw[hE2];exact if_neg hi
 have hm:E2.mem=E.mem:=by rw[hE2]
 have ht:E2.tm=E.tm:=by rw[hE2]
 have hws:E2.ws=E.ws:=by rw[hE2]
 have hI:E2.I=E.I:=by rw[hE2]
 have hk:E2.k=E.k:=by rw[hE2]
 have hle:E.Le E2:=⟨fun i v hv=>by
  by_cases hi:i=1
  ·subst hi;rw[hn1 1 (aha _)] at hv;cases hv
  ·rw[hdn i hi];exact hv,fun b cs hb=>by rw[hm];exact hb,ht⟩
 have hbl:∀i,i≠1→E2.blk i=E.blk i:=fun i hi=>by unfold Env.blk;rw[hdn i hi]
 have hb1:E2.blk 1=none:=by unfold Env.blk;rw[hd1];rfl
 have hbor:kE E2.hd [.cells T (qK :: .row 1 :: rest a),oJ []] 0=kE E.hd [.cells T (qK :: aak :: rest a)] 0:=by
  funext b
  refine propext ⟨fun ⟨k,o,_,hk,hb⟩=>?_,fun ⟨k,o,_,hk,hb⟩=>?_⟩
  ·match k with
   | 0=>exact ⟨0,_,aha _,rfl,by rw[←hdn 0 (by decide)];exact hb⟩
   | 1=>rw[hd1] at hb;cases hb
   | k+2=>simp at hk
  ·match k with
   | 0=>exact ⟨0,_,aha _,rfl,by rw[hdn 0 (by decide)];exact hb⟩
   | k+1=>simp at hk
 have hobj:∀i o,(iI [.cells T (qK :: .row 1 :: rest a),oJ []]).obj i=some o→i=0∧o=.cells T (qK :: .row 1 :: rest a)∨i=1∧o=oJ []:=fun i o ho=>by
  rw[dP] at ho
  match i with
  | 0=>cases ho;exact .inl ⟨rfl,rfl⟩
  | 1=>cases ho;exact .inr ⟨rfl,rfl⟩
  | i+2=>simp at ho
 have ob0:(iI [.cells T (qK :: aak :: rest a)]).obj 0=some (.cells T (qK :: aak :: rest a)):=by rw[dP];rfl
 have HR:bq (zq w E2 [.cells T (qK :: .row 1 :: rest a),oJ []] base 1) E2 (iI [.cells T (qK :: .row 1 :: rest a),oJ []]) w:=by
  refine ⟨fun i o ho=>?_,fun i j o o' b ho ho' hb hb'=>?_,fun i o b ho hb=>?_,fun b cs hb=>H.mem b cs (by rw[←hm];exact hb),fun b cs hb=>hb,fun b cs hb=>.inl hb,fun i hi=>?_,?_,?_,fun k _=>rfl,by show 1≤2;decide,afc _,by rw[hk];exact H.kk⟩
  ·rcases hobj i o ho with ⟨rfl,rfl⟩ | ⟨rfl,rfl⟩
   ·cases (H.ob 0 _ ob0).mono hle with
    | cells b T vs cs hh hw hl h1 he=>
     refine .cells b T vs _ hh hw hl h1 fun k u s hu hs=>?_
     match k with
     | 0=>exact he 0 u s hu hs
     | 1=>
      cases hs
      have:=he 1 u aak hu rfl
      cases this with
      | p _ _ _ hp=>cases hp;exact .row 1 _ hd1 rfl
     | k+2=>exact he (k+2) u s hu hs
   ·exact .row 5 1 0 _ _ [] (fun _ _=>undef) hd1 ⟨rfl,.inl ⟨rfl,rfl⟩⟩ (afc _) (fun j hj=>absurd hj (alJ _)) (fun j _ _ hj=>absurd hj (alJ _)) (fun j _ _ hj=>absurd hj (alJ _))
  ·rcases hobj i o ho with ⟨rfl,rfl⟩ | ⟨rfl,rfl⟩
   ·rcases hobj j o' ho' with ⟨rfl,rfl⟩ | ⟨rfl,rfl⟩
    ·rfl
    ·rw[hb1] at hb';cases hb'
   ·rw[hb1] at hb;cases hb
  ·rcases hobj i o ho with ⟨rfl,rfl⟩ | ⟨rfl,rfl⟩
   ·have:=H.own 0 _ b ob0 (by rw[←hbl 0 (by decide)];exact hb)
    unfold Env.mine at this ⊢
    rw[hm,hws,hI];exact this
   ·rw[hb1] at hb;cases hb
  ·have hi:2≤i:=hi
   rw[hdn i (by omega)];exact hn1 i (by omega)
  ·rw[ht];exact H.base
  ·obtain ⟨f1,f2,f3,f4,f5,f6,f7,f8,f9⟩:=H.fr
   refine ⟨f1,f2,f3,by rw[hws];exact f4,by rw[hws];exact f5,by rw[hws];exact f6,by rw[hws,hI];exact f7,by rw[hws,hI];exact f8,?_⟩
   obtain ⟨g1,g2,g3⟩:=f9
   exact ⟨by rw[hk];exact g1,by rw[hI];exact g2.trans hbor.symm,by rw[hws];exact g3⟩
 refine (h.2 a hp base E2 vs w (fun p hp=>by rw[hm];exact hg p hp) HR ⟨hA.1,fun k u s hu hs=>(hA.2 k u s hu hs).mono hle⟩).mono fun e w' ⟨v,E',he,hv,R⟩=>⟨v,E',he,hv,?_⟩
 obtain ⟨r1,r2,r3,r4,r5,r6,r7,r8,⟨f1,f2,f3,f4,f5,f6,f7,f8,g1,g2,g3⟩,r10,r11,r12,r13⟩:=R
 refine ⟨r1,r2,r3,r4,fun b cs hb=>r5 b cs (by show E2.mem b=some cs;rw[hm];exact hb),fun b cs hb=>(r6 b cs hb).imp (fun hb=>by show E.mem b=some cs;rw[←hm];exact hb) id,r7,r8,⟨f1,f2,f3,f4,f5,f6,f7,f8,g1,g2.trans hbor,g3⟩,fun k hk=>(r10 k hk).trans (hdn k (by have hk:k<1:=hk;omega)),r11,r12,r13⟩
theorem aok {sep:List UInt8} {l:List (List UInt8)} (hs:sep≠[]) (h:2≤l.length):jh sep l≠[]:=by
 match l with
 | x :: y :: l=>
  intro e
  have:(jh sep (x :: y :: l)).length=0:=by rw[e];rfl
  simp only[jh,aaf] at this
  have:sep.length=0:=by omega
  exact hs (aqH.1 this)
theorem am4 {nm:NM} {x:Ex} (hg:lg nm.length x) (hn:∀s∈nm,s≠[]):dY nm x≠[]:=by
 obtain ⟨hn0,_⟩:=(qF _ _).1 hg
 obtain ⟨ho,hle,hi⟩:=pK hn0
 rw[qy]
 split
 ·simp
 rename_i h0
 split
 ·rename_i h1
  have ht:vQ x.op nm.length=nm.length-1:=by unfold vQ;rw[if_neg h0,if_pos h1]
  rw[ht] at hi
  exact hn _ (adh (bI [] (show x.idx.toNat<nm.length by omega)))
 rename_i h1
 split
 ·simp
 ·rename_i h2
  have:pz x.op=2:=by unfold pz;rw[if_neg h2,if_pos (by omega)]
  exact aok (by unfold y7;split<;>simp) (by rw[amo];omega)
theorem aql {nm:NM} {x:Ex} {out:Int} (h:out<0):oZ nm x out=dY nm x:=by
 unfold oZ wrB
 rw[decide_eq_false (show ¬0≤out by omega),aqA,aq7];rfl
def wrC (Q:WrA→Prop):rz:={ wrG 0 with pre:=fun a=>akr a∧Q a }
theorem as6:jN Tryz.prog 141 (wrC fun a=>a.st=true∧a.x.op=1):=by
 refine o8 (Tb:=tab) mixed aB Tryz.func141 rfl rfl ?_
 rintro ⟨st,nm,bs,x,out⟩ hpre
 refine ai (ai rfl (ai rfl rfl)) ?_
 obtain ⟨⟨hg,hs,hnm,hnl,hlen⟩,hst,hQ⟩:=hpre
 obtain rfl:st=true:=hst
 have hg:lg nm.length x:=hg
 have hnm:abO nm:=hnm
 have hlen:bs.length+110*x.size≤500000:=hlen
 obtain ⟨hn0,hga⟩:=(qF _ _).1 hg
 obtain ⟨ho,hle,hi⟩:=pK hn0
 have hA:=qy nm x
 have hQ:x.op=1:=hQ
 refine ah (p:=x.op=0) (gB (by omega)) (fun h0=>?_) (fun h0=>?_)
 ·exact absurd h0 (by omega)
 rw[if_neg h0] at hA
 refine ah (p:=x.op=1) (gB (by omega)) (fun h1=>?_) (fun h1=>?_)
 ·rw[if_pos h1] at hA
  have hnk:(nm.getD x.idx.toNat []).length≤100:=hnm _
  have ht:vQ x.op nm.length=nm.length-1:=by rw[h1];rfl
  rw[ht] at hi
  have hW:oZ nm x out=nm.getD x.idx.toNat []:=by
   unfold oZ wrB;rw[hA,h1];rfl
  refine ei (.one 0 (.one 1 (.one 2 (.one 3 (.one 4 (.one 5 (.one 6 (.one 7 (.one 8 (.one 9 (.one 10 (.wr 11 .done)))))))))))) (ai (by kernel_rfl) ?_)
  refine ai (ai hi.1 (by show x.idx<(nm.length:Int);omega)) ?_
  refine ai rfl ?_
  refine eF (ahm) ((true,nm,bs,nm.getD x.idx.toNat [])) [0,1] (a4 (ai rfl rfl)) (Or.inl rfl) (by exact (ai (ai rfl rfl) rfl)) (by exact (ai (ai rfl (ai (ai rfl rfl) (ai rfl (ai rfl (fun _ _=>rfl))))) (ai rfl (ai rfl (ai rfl (fun _ _=>rfl)))))) (⟨by show bs.length≤1000000;omega,by show (nm.getD x.idx.toNat []).length≤1000000;exact aln hnk (by decide)⟩) ?_
  refine ei [0,3] (ai (ai rfl (ai rfl rfl)) (ai (by exact trivial) ?_))
  refine (ai (ai rfl (ai (ai rfl rfl) (ai rfl (ai rfl (fun _ _=>rfl))))) (ai rfl (ai rfl (ai ?_ ?_))))
  ·exact congrArg List.length (congrArg (fun t=>bs++t) hW.symm)
  ·exact fun k _=>congrArg (fun l=>[cP (l.getD k 0)]) (congrArg (fun t=>bs++t) hW.symm)
 exact absurd hQ h1
theorem anE:jN Tryz.prog 141 (wrC fun a=>a.st=false∧a.x.op=1):=by
 refine o8 (Tb:=tab) mixed aB Tryz.func141 rfl rfl ?_
 rintro ⟨st,nm,bs,x,out⟩ hpre
 refine ai (ai rfl (ai rfl rfl)) ?_
 obtain ⟨⟨hg,hs,hnm,hnl,hlen⟩,hst,hQ⟩:=hpre
 obtain rfl:st=false:=hst
 have hg:lg nm.length x:=hg
 have hnm:abO nm:=hnm
 have hlen:bs.length+110*x.size≤500000:=hlen
 obtain ⟨hn0,hga⟩:=(qF _ _).1 hg
 obtain ⟨ho,hle,hi⟩:=pK hn0
 have hA:=qy nm x
 have hQ:x.op=1:=hQ
 refine ah (p:=x.op=0) (gB (by omega)) (fun h0=>?_) (fun h0=>?_)
 ·exact absurd h0 (by omega)
 rw[if_neg h0] at hA
 refine ah (p:=x.op=1) (gB (by omega)) (fun h1=>?_) (fun h1=>?_)
 ·rw[if_pos h1] at hA
  have hnk:(nm.getD x.idx.toNat []).length≤100:=hnm _
  have ht:vQ x.op nm.length=nm.length-1:=by rw[h1];rfl
  rw[ht] at hi
  have hW:oZ nm x out=nm.getD x.idx.toNat []:=by
   unfold oZ wrB;rw[hA,h1];rfl
  refine ei (.one 0 (.one 1 (.one 2 (.one 3 (.one 4 (.one 5 (.one 6 (.one 7 (.one 8 (.one 9 (.one 10 (.wr 11 .done)))))))))))) (ai (by kernel_rfl) ?_)
  refine ai (ai hi.1 (by show x.idx<(nm.length:Int);omega)) ?_
  refine ai rfl ?_
  refine eF (ahm) ((false,nm,bs,nm.getD x.idx.toNat [])) [0,1] (a4 (ai rfl rfl)) (Or.inl rfl) (by exact (ai (ai rfl rfl) rfl)) (by exact (ai (ai rfl (ai rfl (ai rfl (ai rfl (fun _ _=>rfl))))) (ai rfl (ai rfl (ai rfl (fun _ _=>rfl)))))) (⟨by show bs.length≤1000000;omega,by show (nm.getD x.idx.toNat []).length≤1000000;exact aln hnk (by decide)⟩) ?_
  refine ei [0,3] (ai (ai rfl (ai rfl rfl)) (ai (by exact trivial) ?_))
  refine (ai (ai rfl (ai (ai rfl rfl) (ai rfl (ai rfl (fun _ _=>rfl))))) (ai rfl (ai rfl (ai ?_ ?_))))
  ·exact congrArg List.length (congrArg (fun t=>bs++t) hW.symm)
  ·exact fun k _=>congrArg (fun l=>[cP (l.getD k 0)]) (congrArg (fun t=>bs++t) hW.symm)
 exact absurd hQ h1
theorem as9:jN Tryz.prog 141 (wrC fun a=>a.st=false∧(a.x.op=3∧a.out<0)∧∀y∈a.x.args,y.op=1):=by
 refine o8 (Tb:=tab) mixed aB Tryz.func141 rfl rfl ?_
 rintro ⟨st,nm,bs,x,out⟩ hpre
 refine ai (ai rfl (ai rfl rfl)) ?_
 obtain ⟨⟨hg,hs,hnm,hnl,hlen⟩,hst,hQ,hv⟩:=hpre
 obtain rfl:st=false:=hst
 have hv:∀y∈x.args,y.op=1:=hv
 have hg:lg nm.length x:=hg
 have hs:x.size≤256:=hs
 have hnm:abO nm:=hnm
 have hnl:nm.length≤256:=hnl
 have hlen:bs.length+110*x.size≤500000:=hlen
 have hsp:=size_pos x
 have hal:=uD x
 have hsz:=x.size_eq
 obtain ⟨hn0,hga⟩:=(qF _ _).1 hg
 obtain ⟨ho,hle,hi⟩:=pK hn0
 have hA:=qy nm x
 have hQ:x.op=3∧out<0:=hQ
 refine ah (p:=x.op=0) (gB (by omega)) (fun h0=>?_) (fun h0=>?_)
 ·exact absurd h0 (by omega)
 rw[if_neg h0] at hA
 refine ah (p:=x.op=1) (gB (by omega)) (fun h1=>?_) (fun h1=>?_)
 ·exact absurd h1 (by omega)
 rw[if_neg h1] at hA
 refine ah (p:=x.op=2) (gB (by omega)) (fun h2=>?_) (fun h2=>?_)
 ·exact absurd h2 (by omega)
 rw[if_neg h2] at hA
 have hl2:2≤x.args.length:=by
  have:pz x.op=2:=by unfold pz;rw[if_neg h2,if_pos (by omega)]
  omega
 have hW:oZ nm x out=dY nm x:=by
  unfold oZ wrB;rw[decide_eq_false (show ¬0≤out by omega)];simp[aei]
 refine ah (p:=0≤out) (cu (by omega)) (fun h3=>?_) (fun h3=>?_)
 ·exact absurd h3 (by omega)
 refine ah (p:=x.op=4) (gB (by omega)) (fun h4=>?_) (fun h4=>?_)
 ·exact absurd h4 (by omega)
 ·refine ei (bE.inv { X:=Nat,up:=fun k=>[(71,.s (iA k))],uo:=fun k=>[⟨0,202,[.s (asQ false k),.rw 5 1 (jv nm (bs) [32,38,32] x.op x.args k).length (fun j=>[cP ((jv nm (bs) [32,38,32] x.op x.args k).getD j 0)]),.s (ssA nm)]⟩],inv:=fun k=>k≤x.args.length∧(True),meas:=fun k=>x.args.length-k,x0:=0 }) ?_
  refine ai (ai (ai (by exact (a4 (ai rfl rfl))) (ai ?_ ?_)) rfl) (ai (ai (afc _) ?_) ?_)
  ·exact (ai (ai (fun _=>rfl) (iE (by simp only[zz,reduceCtorEq];rfl))) rfl)
  ·refine (ai (ai (ai (ai nof rfl) rfl) (ai (ai rfl (ai rfl (ai ?_ ?_))) (ai (ai nof (ai rfl (fun _ _=>rfl))) rfl))) trivial)
   ·exact congrArg List.length (vJ nm (bs) [32,38,32] x.op x.args).symm
   ·exact fun j _=>congrArg (fun l=>[cP (l.getD j 0)]) (vJ nm (bs) [32,38,32] x.op x.args).symm
  ·trivial
  intro (k:Nat) ⟨hk,_⟩
  have hpl:=anP (nm:=nm) (base:=bs) (sep:=[32,38,32]) (o:=x.op) hnm rfl hk
  cases k with
  | zero=>
   have hk0:0<x.args.length:=by omega
   refine ah (p:=0<x.args.length) (au (by dsimp only;omega)) (fun h5=>?_) (fun h5=>?_)
   ·refine ai (ai (abq _) (iN (n:=x.args.length) (by omega))) (ai rfl ?_)
    have hy:x.args.getD 0 dF∈x.args:=adh (sU hk0)
    have hms:=jO hy
    have hb0:=congrArg List.length (vJ nm (bs) [32,38,32] x.op x.args)
    have hB:(bs).length≤bs.length+1:=by simp
    refine eF (anE) (⟨false,nm,jv nm (bs) [32,38,32] x.op x.args 0,x.args.getD 0 dF,x.op⟩) [0,3] (a4 (ai rfl rfl)) (Or.inl rfl) (by exact (ai (ai rfl rfl) (ai (ai (iE (by simp only[zz,reduceCtorEq])) (ai (iE (by simp only[zz,reduceCtorEq])) (ai rfl (exE _)))) rfl))) (by exact (ai (ai rfl (ai rfl (ai rfl (ai rfl (fun _ _=>rfl))))) (ai rfl (ai rfl (ai rfl (fun _ _=>rfl)))))) (ai ⟨hga _ hy,by show (x.args.getD 0 dF).size≤256;omega,hnm,hnl,by show (jv nm (bs) [32,38,32] x.op x.args 0).length+110*(x.args.getD 0 dF).size≤_;omega⟩ ⟨rfl,hv _ hy⟩) ?_
    have eN:jv nm (bs) [32,38,32] x.op x.args 0++oZ nm (x.args.getD 0 dF) x.op=jv nm (bs) [32,38,32] x.op x.args (0+1):=by
     rw[ajo nm _ ho.1,vJ,aob hk0]
    refine ei (0+1) (ai (ai rfl rfl) (ai (ai (ai rfl (ai (ai rfl rfl) (ai (ai rfl rfl) (ai (ai (ai (fun _=>rfl) (aP (by omega))) rfl) (ai (ai (ai (ai rfl rfl) rfl) (ai (ai rfl (ai rfl (ai ?_ ?_))) (ai (ai nof (ai rfl (fun _ _=>rfl))) rfl))) trivial))))) rfl) (ai (ai (iL (by omega)) trivial) (iM (by omega)))))
    ·exact congrArg List.length eN
    ·exact fun j _=>congrArg (fun l=>[cP (l.getD j 0)]) eN
   ·exact absurd hk0 h5
  | succ k=>
   refine ah (p:=k+1<x.args.length) (au (by dsimp only;omega)) (fun h5=>?_) (fun h5=>?_)
   ·refine ai (ai (abq _) (iN (n:=x.args.length) (by omega))) (ai rfl ?_)
    have hy:x.args.getD (k+1) dF∈x.args:=adh (sU h5)
    have hms:=jO hy
    have hss:=xq h5
    have hst:=adw x.args (k+1+1)
    have hB:(bs).length≤bs.length+1:=by simp
    rw[if_neg (by omega)] at hpl
    refine ah (p:=0<k+1) (au (by omega)) (fun h6=>?_) (fun h6=>?_)
    ·refine eF (ahm) ((true,nm,jv nm (bs) [32,38,32] x.op x.args (k+1),[32,38,32])) [0,3] (a4 (ai rfl rfl)) (Or.inl rfl) (by exact (ai (ai rfl rfl) rfl)) (by exact (ai (ai rfl (ai (ai rfl rfl) (ai rfl (ai rfl (fun _ _=>rfl))))) (ai rfl (ai rfl (ai rfl (fun _ _=>rfl)))))) (⟨by show (jv nm (bs) [32,38,32] x.op x.args (k+1)).length≤1000000;omega,by show ([32,38,32]:List UInt8).length≤1000000;simp⟩) ?_
     refine eF (as6) (⟨true,nm,jv nm (bs) [32,38,32] x.op x.args (k+1)++[32,38,32],x.args.getD (k+1) dF,x.op⟩) [0,5] (a4 (ai rfl rfl)) (Or.inl rfl) (by exact (ai (ai rfl rfl) (ai (ai (iE (by simp only[zz,reduceCtorEq])) (ai (iE (by simp only[zz,reduceCtorEq])) (ai rfl (exE _)))) rfl))) (by exact (ai (ai rfl (ai (ai rfl rfl) (ai rfl (ai rfl (fun _ _=>rfl))))) (ai rfl (ai rfl (ai rfl (fun _ _=>rfl)))))) (ai ⟨hga _ hy,by show (x.args.getD (k+1) dF).size≤256;omega,hnm,hnl,by show (jv nm (bs) [32,38,32] x.op x.args (k+1)++[32,38,32]).length+110*(x.args.getD (k+1) dF).size≤_;rw[aaf];show (jv nm (bs) [32,38,32] x.op x.args (k+1)).length+3+110*(x.args.getD (k+1) dF).size≤_;omega⟩ ⟨rfl,hv _ hy⟩) ?_
     have eN:jv nm (bs) [32,38,32] x.op x.args (k+1)++[32,38,32]++oZ nm (x.args.getD (k+1) dF) x.op=jv nm (bs) [32,38,32] x.op x.args (k+1+1):=by
      rw[ajo nm _ ho.1,amt h5]
     refine ei ((k+1)+1) (ai (ai rfl rfl) (ai (ai (ai rfl (ai (ai rfl rfl) (ai (ai rfl rfl) (ai (ai (ai (fun _=>rfl) (aP (by omega))) rfl) (ai (ai (ai (ai rfl rfl) rfl) (ai (ai rfl (ai rfl (ai ?_ ?_))) (ai (ai nof (ai rfl (fun _ _=>rfl))) rfl))) trivial))))) rfl) (ai (ai (iL (by omega)) trivial) (iM (by omega)))))
     ·exact congrArg List.length eN
     ·exact fun j _=>congrArg (fun l=>[cP (l.getD j 0)]) eN
    ·exact absurd (Nat.succ_pos k) h6
   ·have hke:k+1=x.args.length:=by omega
    have eT:jv nm (bs) [32,38,32] x.op x.args (k+1)=bs++dY nm x:=by
     rw[hke,amU,hA];unfold y7;rw[if_neg h4]
    refine ei [0,3] (ai (ai rfl (ai rfl rfl)) (ai (by exact trivial) ?_))
    refine (ai (ai rfl (ai (ai rfl rfl) (ai rfl (ai rfl (fun _ _=>rfl))))) (ai rfl (ai rfl (ai ?_ ?_))))
    ·exact congrArg List.length (eT.trans (congrArg (fun t=>bs++t) hW.symm))
    ·exact fun k _=>congrArg (fun l=>[cP (l.getD k 0)]) (eT.trans (congrArg (fun t=>bs++t) hW.symm))
def abF (x:Ex):Prop:=x.op=1∨x.op=3∧∀y∈x.args,y.op=1
theorem amm:jN Tryz.prog 141 (wrC fun a=>a.st=false∧a.out<0∧abF a.x):=
 ⟨anE.1,fun a hp base E vs w hg hh hA=>by
  obtain ⟨h1,h2,h3,h4⟩:=hp
  rcases h4 with h4 | ⟨h4,h5⟩
  ·exact anE.2 a ⟨h1,h2,h4⟩ base E vs w hg hh hA
  ·exact as9.2 a ⟨h1,h2,⟨h4,h3⟩,h5⟩ base E vs w hg hh hA⟩
def aqC (a:NM×Ex×Int):Prop:=akr ⟨false,a.1,[],a.2.1,a.2.2⟩∧a.2.2<0∧abF a.2.1
theorem akb:jN Tryz.prog 141 { A:=NM×Ex×Int,fix:=1,args:=fun a=>[.own 0 0,sG a.2.1,iA a.2.2],objs:=fun a=>[.cells 202 (qK :: aak :: nmR a.1)],pre:=aqC,res:=fun _=>.tup [],objs':=fun a=>[bld 202 (nmR a.1),oJ ([]++oZ a.1 a.2.1 a.2.2)] }:=
 agu (T:=202) (rest:=fun a:NM×Ex×Int=>nmR a.1) ⟨amm.1,fun a hp=>amm.2 ⟨false,a.1,[],a.2.1,a.2.2⟩ ⟨hp.1,rfl,hp.2.1,hp.2.2⟩⟩
def ajn (a:Ex×NM):Prop:=kI a.2=0∧dn a.1 a.2.length=0∧(∀k,(a.2.getD k []).length≤100)∧(∀s∈a.2,s≠[])∧a.1.size≤256∧(dY a.2 a.1).length≤4096∧abF a.1
theorem akD:aL Tryz.prog 82 (bT (fun a:Ex×NM=>[sG a.1,ssA a.2]) ajn (fun a=>.tup [sP (dY a.2 a.1),iP 0])):=by
 refine jy [141,142,84] ?_
 refine aY (Tb:=tab) mixed aB Tryz.func82 rfl rfl ?_
 rintro ⟨x,nm⟩ hpre
 refine ai (ai rfl (ai rfl rfl)) ?_
 obtain ⟨h1,h2,h3,h4,h5,h6,h7⟩:=hpre
 have h1:kI nm=0:=h1
 have h2:dn x nm.length=0:=h2
 have h3:∀k,(nm.getD k []).length≤100:=h3
 have h4:∀s∈nm,s≠[]:=h4
 have h5:x.size≤256:=h5
 have h6:(dY nm x).length≤4096:=h6
 obtain ⟨hn,_,hg⟩:=vW.1 h2
 have hnl:∀s∈nm,s.length≤1000000:=fun s hs=>by
  obtain ⟨k,hk,rfl⟩:=arp hs
  have:=h3 k
  rw[abo,abn hk] at this
  have this:(nm[k]).length≤100:=this
  omega
 refine ei _ (ai (an2) (ei (nm) (ei [] (ai (a4 (ai (fun _=>Or.inl rfl) (ai nof (Or.inl rfl)))) (ai (by exact (ai rfl (fun _ _=>rfl))) (ai trivial (ai (hnl) ?_)))))))
 refine bg (p:=kI nm=0) (bK (by omega)) (fun g1=>?_) (fun g1=>?_)
 ·exact absurd h1 g1
 refine ei _ (ai (ab5) (ei ((x,(nm.length:Int))) (ei [] (ai (a4 (ai (fun _=>Or.inl rfl) (ai nof (Or.inl rfl)))) (ai (by exact (ai (ai rfl (ai rfl (ai rfl (fun _ _=>rfl)))) rfl)) (ai trivial (ai ((by show x.size≤1000000;omega)) ?_)))))))
 refine bg (p:=dn x nm.length=0) (bK (by dsimp only;omega)) (fun g2=>?_) (fun g2=>?_)
 ·exact absurd h2 g2
 refine eF (akb) ((nm,x,-1)) [1] (a4 (ai rfl rfl)) (Or.inl rfl) (by exact (ai (ai rfl rfl) (ai (ai rfl (ai rfl (ai rfl (fun _ _=>rfl)))) rfl))) (by exact (ai rfl (ai rfl (ai rfl (ai rfl (fun _ _=>rfl)))))) (⟨⟨hg,h5,h3,by show nm.length≤256;omega,by show 0+110*x.size≤500000;omega⟩,(by show (-1:Int)<0;decide),h7⟩) ?_
 have eW:([]:List UInt8)++oZ nm x (-1)=dY nm x:=by rw[aql (by decide)];rfl
 refine eF (apa) ((nm,[]++oZ nm x (-1))) [1,2] (a4 (ai rfl rfl)) (Or.inl rfl) (by exact (ai rfl rfl)) (by exact (ai (ai rfl (ai (ai rfl rfl) (ai rfl (ai rfl (fun _ _=>rfl))))) (ai rfl (ai rfl (ai rfl (fun _ _=>rfl)))))) (trivial) ?_
 refine ah (p:=4096<(([]:List UInt8)++oZ nm x (-1)).length) (au (by dsimp only;omega)) (fun g3=>?_) (fun g3=>?_)
 ·rw[eW] at g3;exact absurd h6 (by omega)
 refine amB (ajq 202 3) rfl rfl rfl rfl ([]++oZ nm x (-1)) rfl (by rw[eW];exact am4 hg h4) (fun k _=>rfl) ?_
 refine ai (ai (fun _=>(by exact (ai trivial trivial))) ?_) trivial
 show ak _ (PV.tup [sP (dY nm x),iP 0])
 rw[show dY nm x=[]++oZ nm x (-1) from eW.symm]
 exact (ai rfl rfl)
def ao4 (c:aJ):Prop:=jd c∧(bD c=0→∀t∈c.trs,t.wh.size≤120∧abF t.wh)
theorem anc {c:aJ} (h:bD c=0) (h2:∀t∈c.trs,t.wh.size≤120∧abF t.wh) {k:Nat} (hk:k<c.trs.length):ajn ((c.trs.getD k aF).wh,dO c):=by
 have hn:=(rJ h).2.2.1
 have hs:=h2 _ (adh (bI aF hk))
 refine ⟨akP h,?_,aoH h,fun s hm e=>?_,by show (c.trs.getD k aF).wh.size≤256;omega,?_,hs.2⟩
 ·show dn (c.trs.getD k aF).wh ((dO c).length:Int)=0
  rw[hn];exact (kM h hk).2.2
 ·have:=((rJ h).1 s hm).2
  rw[e] at this;exact absurd this (by decide)
 ·have:=acs (ag5 h) _ _ (aha (c.trs.getD k aF).wh.size)
  show (dY (dO c) (c.trs.getD k aF).wh).length≤4096
  omega
set_option maxHeartbeats 4000000 in
theorem acw:aL Tryz.prog 24 (fnG (fun c:aJ=>[jJ c]) ao4 vv):=by
 refine jy [78,81,84] ?_
 refine aY (Tb:=tab) mixed aB Tryz.func24 rfl rfl ?_
 rintro (c:aJ) hpre
 refine ai (ai rfl (ai rfl rfl)) ?_
 obtain ⟨ho,h40⟩:=hpre
 have ho:jd c:=ho
 refine ei _ (ai (ahd) (ei (c) (ei [] (ai (a4 (ai (fun _=>Or.inl rfl) (ai nof (Or.inl rfl)))) (ai (by exact (ai rfl (ai (ai rfl (fun _ _=>rfl)) (ai (ai rfl (fun _ _=>rfl)) (ai rfl (fun _ _=>rfl)))))) (ai trivial (ai (ho) ?_)))))))
 refine bg (p:=bD c=0) (bK (by omega)) (fun h1=>?_) (fun h1=>?_)
 ·refine ai (ai (fun _=>(by exact (ai trivial trivial))) ?_) trivial
  show ak _ (vv c)
  rw[vv,if_neg h1]
  exact (ai rfl rfl)
 have hc:bD c=0:=h1
 have h40:∀t∈c.trs,t.wh.size≤120∧abF t.wh:=h40 hc
 obtain ⟨_,_,hs24,ht32,_⟩:=gL hc
 refine ei (bE.inv { X:=Nat,up:=fun k=>[(24,.s (iA k))],uo:=fun k=>[⟨1,143,[.s (asU k),.rw 5 1 (bM c.sts k).length (adE (bM c.sts k))]⟩],inv:=fun k=>k≤c.sts.length∧(True),meas:=fun k=>c.sts.length-k,x0:=0 }) ?_
 refine ai (ai (ai (by exact (a4 (ai rfl rfl))) (ai ?_ ?_)) rfl) (ai (ai (afc _) ?_) ?_)
 ·exact (ai (ai (fun _=>rfl) (iE (by simp only[zz,reduceCtorEq];rfl))) rfl)
 ·exact (ai (ai (ai (ai (fun _=>rfl) rfl) rfl) rfl) trivial)
 ·trivial
 intro (k:Nat) ⟨hk,_⟩
 have hL:=aga hc hk
 cases k with
 | zero=>
  refine ah (p:=(0:Nat)<c.sts.length) (au (by omega)) (fun h2=>?_) (fun h2=>?_)
  ·refine ai (ai (abq _) (iN (n:=c.sts.length) (by omega))) (ai rfl ?_)
   have hd:=wD (n:=(0:Nat)) (by omega)
   have hh:=ad5 (k:=(0:Nat)) (by omega)
   obtain ⟨g1,g2,g3,g4⟩:=agF hc h2
   refine ei _ (ai (wT) (ei ((0:Nat)) (ei [] (ai (a4 (ai (fun _=>Or.inl rfl) (ai nof (Or.inl rfl)))) (ai (by exact rfl) (ai trivial (ai ((by show (0:Nat)<100;omega)) ?_)))))))
   refine ai (qG (l:=stepW) (m:=dec ((0:Nat))) rfl rfl (by show 5+_≤_;omega)) (ai (qG (l:=stepW++dec ((0:Nat))) (m:=[58]) (eD _ _) rfl (by rw[aaf];show 5+_+1≤_;omega)) ?_)
   refine eF (uN) ((false,[],bM c.sts ((0:Nat)),gQ ((0:Nat)))) [1,2] (a4 (ai rfl rfl)) (Or.inl rfl) ?_ (by exact (ai (ai rfl (ai rfl rfl)) (ai rfl (ai rfl (ai rfl (fun _ _=>rfl)))))) (⟨by show (bM c.sts ((0:Nat))).length≤1000000;omega,by show (gQ ((0:Nat))).length≤1000000;omega⟩) ?_
   ·exact (ai (ai rfl rfl) rfl)
   refine ei (bE.inv { X:=Nat,up:=fun j=>[(37,.s (iA j))],uo:=fun j=>[⟨1,143,[.s (.own 1 0),.rw 5 1 ((bM c.sts ((0:Nat))++gQ ((0:Nat)))++iY ((c.sts.getD ((0:Nat)) st0).st.take j)).length (adE ((bM c.sts ((0:Nat))++gQ ((0:Nat)))++iY ((c.sts.getD ((0:Nat)) st0).st.take j)))]⟩],inv:=fun j=>j≤(c.sts.getD ((0:Nat)) st0).st.length∧(True),meas:=fun j=>(c.sts.getD ((0:Nat)) st0).st.length-j,x0:=0 }) ?_
   refine ai (ai (ai (by exact (a4 (ai rfl rfl))) (ai ?_ ?_)) rfl) (ai (ai (afc _) ?_) ?_)
   ·exact (ai (ai (fun _=>rfl) (iE (by simp only[zz,reduceCtorEq];rfl))) rfl)
   ·refine (ai (ai (ai (ai rfl rfl) rfl) (ai rfl (ai rfl (ai ?_ ?_)))) trivial)
    ·show (bM c.sts ((0:Nat))++gQ ((0:Nat))).length=((bM c.sts ((0:Nat))++gQ ((0:Nat)))++[]).length
     rw[arD]
    ·exact l9 (by show _=_++[];rw[arD])
   ·trivial
   intro (j:Nat) ⟨hj,_⟩
   have hT:=ael ((c.sts.getD ((0:Nat)) st0).st.take j)
   rw[ajz] at hT
   refine ah (p:=j<(c.sts.getD ((0:Nat)) st0).st.length) (by simp only[zz,reduceCtorEq];omega) (fun h3=>?_) (fun h3=>?_)
   ·refine ai (ai (abq _) (iN (n:=(c.sts.getD ((0:Nat)) st0).st.length) (by omega))) (ai rfl ?_)
    have hw:(nU ((c.sts.getD ((0:Nat)) st0).st.getD j bJ)).length=2:=rfl
    refine ei _ (ai (agQ) (ei ((c.sts.getD ((0:Nat)) st0).st.getD j bJ) (ei [] (ai (a4 (ai (fun _=>Or.inl rfl) (ai nof (Or.inl rfl)))) (ai (by exact (ai (iE (by simp only[zz,reduceCtorEq])) rfl)) (ai trivial (ai (vY g2 h3) ?_)))))))
    refine ai (qG (l:=[32]) (m:=nU ((c.sts.getD ((0:Nat)) st0).st.getD j bJ)) rfl rfl (by rw[hw];decide)) ?_
    refine eF (uN) ((true,[],(bM c.sts ((0:Nat))++gQ ((0:Nat)))++iY ((c.sts.getD ((0:Nat)) st0).st.take j),[32]++nU ((c.sts.getD ((0:Nat)) st0).st.getD j bJ))) [1,5] (a4 (ai rfl rfl)) (Or.inl rfl) ?_ (by exact (ai (ai rfl (ai (ai rfl rfl) rfl)) (ai rfl (ai rfl (ai rfl (fun _ _=>rfl)))))) (⟨by show ((bM c.sts ((0:Nat))++gQ ((0:Nat)))++iY ((c.sts.getD ((0:Nat)) st0).st.take j)).length≤1000000;simp only[aaf,ai1,aoK];omega,by show ([32]++nU ((c.sts.getD ((0:Nat)) st0).st.getD j bJ)).length≤1000000;rw[aaf,hw];decide⟩) ?_
    ·exact (ai (ai rfl rfl) rfl)
    have eN:((bM c.sts ((0:Nat))++gQ ((0:Nat)))++iY ((c.sts.getD ((0:Nat)) st0).st.take j))++([32]++nU ((c.sts.getD ((0:Nat)) st0).st.getD j bJ))=(bM c.sts ((0:Nat))++gQ ((0:Nat)))++iY ((c.sts.getD ((0:Nat)) st0).st.take (j+1)):=by
     rw[aQ bJ h3]
     unfold iY
     rw[auf]
     simp
    refine ei (j+1) (ai (ai rfl rfl) (ai (ai (ai rfl (ai (ai rfl rfl) (ai (ai rfl rfl) (ai (ai (ai (fun _=>rfl) (aP (by omega))) rfl) (ai (ai (ai (ai rfl rfl) rfl) (ai rfl (ai rfl (ai ?_ ?_)))) trivial))))) rfl) (ai (ai (iL (by omega)) trivial) (iM (by omega)))))
    ·exact congrArg List.length eN
    ·exact l9 eN
   obtain rfl:j=(c.sts.getD ((0:Nat)) st0).st.length:=by omega
   have et:(c.sts.getD ((0:Nat)) st0).st.take (c.sts.getD ((0:Nat)) st0).st.length=(c.sts.getD ((0:Nat)) st0).st:=ahb
   rw[et] at hT
   refine ah (p:=0<(c.sts.getD ((0:Nat)) st0).wt) (au Iff.rfl) (fun h4=>?_) (fun h4=>?_)
   ·obtain ⟨w,hw⟩:∃w:Nat,(c.sts.getD ((0:Nat)) st0).wt=(w:Int):=⟨(c.sts.getD ((0:Nat)) st0).wt.toNat,by omega⟩
    have hd7:=ab4 (n:=w) (by omega)
    have e0:ug (c.sts.getD ((0:Nat)) st0).wt=[32]++dec w:=by unfold ug;rw[if_pos h4,hw];rfl
    refine ei _ (ai (ahK) (ei (w) (ei [] (ai (a4 (ai (fun _=>Or.inl rfl) (ai nof (Or.inr rfl)))) (ai ?_ (ai (by exact trivial) (ai ((by show w≤1000000;omega)) ?_)))))))
    ·exact (iE (by simp only[zz,reduceCtorEq];omega))
    refine ai (qG (l:=[32]) (m:=dec w) rfl rfl (by show 1+_≤_;omega)) ?_
    refine eF (uN) ((true,[],(bM c.sts ((0:Nat))++gQ ((0:Nat)))++iY ((c.sts.getD ((0:Nat)) st0).st.take (c.sts.getD ((0:Nat)) st0).st.length),[32]++dec w)) [1,5] (a4 (ai rfl rfl)) (Or.inl rfl) ?_ (by exact (ai (ai rfl (ai (ai rfl rfl) rfl)) (ai rfl (ai rfl (ai rfl (fun _ _=>rfl)))))) (⟨by show ((bM c.sts ((0:Nat))++gQ ((0:Nat)))++iY ((c.sts.getD ((0:Nat)) st0).st.take (c.sts.getD ((0:Nat)) st0).st.length)).length≤1000000;rw[et];simp only[aaf,ai1,aoK];omega,by show ([32]++dec w).length≤1000000;rw[aaf];show 1+_≤_;omega⟩) ?_
    ·exact (ai (ai rfl rfl) rfl)
    refine eF (acz) ((true,[],((bM c.sts ((0:Nat))++gQ ((0:Nat)))++iY ((c.sts.getD ((0:Nat)) st0).st.take (c.sts.getD ((0:Nat)) st0).st.length))++([32]++dec w),10)) [1,6] (a4 (ai rfl rfl)) (Or.inl rfl) (by exact (ai (ai rfl rfl) (iE (by simp only[zz,reduceCtorEq];rfl)))) (by exact (ai (ai rfl (ai (ai rfl rfl) rfl)) (ai rfl (ai rfl (ai rfl (fun _ _=>rfl)))))) ((by show (((bM c.sts ((0:Nat))++gQ ((0:Nat)))++iY ((c.sts.getD ((0:Nat)) st0).st.take (c.sts.getD ((0:Nat)) st0).st.length))++([32]++dec w)).length≤1000000;rw[et];simp only[aaf,ai1,aoK];omega)) ?_
    have eN:(((bM c.sts ((0:Nat))++gQ ((0:Nat)))++iY ((c.sts.getD ((0:Nat)) st0).st.take (c.sts.getD ((0:Nat)) st0).st.length))++([32]++dec w))++[10]=bM c.sts ((0:Nat)+1):=by
     show _=bM c.sts ((0:Nat))++((((gQ ((0:Nat))++iY (c.sts.getD ((0:Nat)) st0).st)++ug (c.sts.getD ((0:Nat)) st0).wt))++[10])
     rw[et,e0]
     simp only[atl]
    refine ei (((0:Nat))+1) (ai (ai rfl rfl) (ai (ai (ai rfl (ai (ai rfl rfl) (ai (ai rfl rfl) (ai (ai (ai (fun _=>rfl) (aP (by omega))) rfl) (ai (ai (ai (ai rfl rfl) rfl) (ai rfl (ai rfl (ai ?_ ?_)))) trivial))))) rfl) (ai (ai (iL (by omega)) trivial) (iM (by omega)))))
    ·exact congrArg List.length eN
    ·exact l9 eN
   ·have e0:ug (c.sts.getD ((0:Nat)) st0).wt=[]:=by unfold ug;rw[if_neg h4]
    refine eF (acz) ((true,[],(bM c.sts ((0:Nat))++gQ ((0:Nat)))++iY ((c.sts.getD ((0:Nat)) st0).st.take (c.sts.getD ((0:Nat)) st0).st.length),10)) [1,5] (a4 (ai rfl rfl)) (Or.inl rfl) (by exact (ai (ai rfl rfl) (iE (by simp only[zz,reduceCtorEq];rfl)))) (by exact (ai (ai rfl (ai (ai rfl rfl) rfl)) (ai rfl (ai rfl (ai rfl (fun _ _=>rfl)))))) ((by show ((bM c.sts ((0:Nat))++gQ ((0:Nat)))++iY ((c.sts.getD ((0:Nat)) st0).st.take (c.sts.getD ((0:Nat)) st0).st.length)).length≤1000000;rw[et];simp only[aaf,ai1,aoK];omega)) ?_
    have eN:((bM c.sts ((0:Nat))++gQ ((0:Nat)))++iY ((c.sts.getD ((0:Nat)) st0).st.take (c.sts.getD ((0:Nat)) st0).st.length))++[10]=bM c.sts ((0:Nat)+1):=by
     show _=bM c.sts ((0:Nat))++((((gQ ((0:Nat))++iY (c.sts.getD ((0:Nat)) st0).st)++ug (c.sts.getD ((0:Nat)) st0).wt))++[10])
     rw[et,e0,arD]
     simp only[atl]
    refine ei (((0:Nat))+1) (ai (ai rfl rfl) (ai (ai (ai rfl (ai (ai rfl rfl) (ai (ai rfl rfl) (ai (ai (ai (fun _=>rfl) (aP (by omega))) rfl) (ai (ai (ai (ai rfl rfl) rfl) (ai rfl (ai rfl (ai ?_ ?_)))) trivial))))) rfl) (ai (ai (iL (by omega)) trivial) (iM (by omega)))))
    ·exact congrArg List.length eN
    ·exact l9 eN
  ·exact absurd hs24.1 (by omega)
 | succ k=>
  refine ah (p:=k+1<c.sts.length) (au (by omega)) (fun h2=>?_) (fun h2=>?_)
  ·refine ai (ai (abq _) (iN (n:=c.sts.length) (by omega))) (ai rfl ?_)
   have hd:=wD (n:=k+1) (by omega)
   have hh:=ad5 (k:=k+1) (by omega)
   obtain ⟨g1,g2,g3,g4⟩:=agF hc h2
   refine ei _ (ai (wT) (ei (k+1) (ei [] (ai (a4 (ai (fun _=>Or.inl rfl) (ai nof (Or.inl rfl)))) (ai (by exact rfl) (ai trivial (ai ((by show k+1<100;omega)) ?_)))))))
   refine ai (qG (l:=stepW) (m:=dec (k+1)) rfl rfl (by show 5+_≤_;omega)) (ai (qG (l:=stepW++dec (k+1)) (m:=[58]) (eD _ _) rfl (by rw[aaf];show 5+_+1≤_;omega)) ?_)
   refine eF (uN) ((true,[],bM c.sts (k+1),gQ (k+1))) [1,2] (a4 (ai rfl rfl)) (Or.inl rfl) ?_ (by exact (ai (ai rfl (ai (ai rfl rfl) rfl)) (ai rfl (ai rfl (ai rfl (fun _ _=>rfl)))))) (⟨by show (bM c.sts (k+1)).length≤1000000;omega,by show (gQ (k+1)).length≤1000000;omega⟩) ?_
   ·exact (ai (ai rfl rfl) rfl)
   refine ei (bE.inv { X:=Nat,up:=fun j=>[(37,.s (iA j))],uo:=fun j=>[⟨1,143,[.s (.own 1 0),.rw 5 1 ((bM c.sts (k+1)++gQ (k+1))++iY ((c.sts.getD (k+1) st0).st.take j)).length (adE ((bM c.sts (k+1)++gQ (k+1))++iY ((c.sts.getD (k+1) st0).st.take j)))]⟩],inv:=fun j=>j≤(c.sts.getD (k+1) st0).st.length∧(True),meas:=fun j=>(c.sts.getD (k+1) st0).st.length-j,x0:=0 }) ?_
   refine ai (ai (ai (by exact (a4 (ai rfl rfl))) (ai ?_ ?_)) rfl) (ai (ai (afc _) ?_) ?_)
   ·exact (ai (ai (fun _=>rfl) (iE (by simp only[zz,reduceCtorEq];rfl))) rfl)
   ·refine (ai (ai (ai (ai rfl rfl) rfl) (ai rfl (ai rfl (ai ?_ ?_)))) trivial)
    ·show (bM c.sts (k+1)++gQ (k+1)).length=((bM c.sts (k+1)++gQ (k+1))++[]).length
     rw[arD]
    ·exact l9 (by show _=_++[];rw[arD])
   ·trivial
   intro (j:Nat) ⟨hj,_⟩
   have hT:=ael ((c.sts.getD (k+1) st0).st.take j)
   rw[ajz] at hT
   refine ah (p:=j<(c.sts.getD (k+1) st0).st.length) (by simp only[zz,reduceCtorEq];omega) (fun h3=>?_) (fun h3=>?_)
   ·refine ai (ai (abq _) (iN (n:=(c.sts.getD (k+1) st0).st.length) (by omega))) (ai rfl ?_)
    have hw:(nU ((c.sts.getD (k+1) st0).st.getD j bJ)).length=2:=rfl
    refine ei _ (ai (agQ) (ei ((c.sts.getD (k+1) st0).st.getD j bJ) (ei [] (ai (a4 (ai (fun _=>Or.inl rfl) (ai nof (Or.inl rfl)))) (ai (by exact (ai (iE (by simp only[zz,reduceCtorEq])) rfl)) (ai trivial (ai (vY g2 h3) ?_)))))))
    refine ai (qG (l:=[32]) (m:=nU ((c.sts.getD (k+1) st0).st.getD j bJ)) rfl rfl (by rw[hw];decide)) ?_
    refine eF (uN) ((true,[],(bM c.sts (k+1)++gQ (k+1))++iY ((c.sts.getD (k+1) st0).st.take j),[32]++nU ((c.sts.getD (k+1) st0).st.getD j bJ))) [1,5] (a4 (ai rfl rfl)) (Or.inl rfl) ?_ (by exact (ai (ai rfl (ai (ai rfl rfl) rfl)) (ai rfl (ai rfl (ai rfl (fun _ _=>rfl)))))) (⟨by show ((bM c.sts (k+1)++gQ (k+1))++iY ((c.sts.getD (k+1) st0).st.take j)).length≤1000000;simp only[aaf,ai1,aoK];omega,by show ([32]++nU ((c.sts.getD (k+1) st0).st.getD j bJ)).length≤1000000;rw[aaf,hw];decide⟩) ?_
    ·exact (ai (ai rfl rfl) rfl)
    have eN:((bM c.sts (k+1)++gQ (k+1))++iY ((c.sts.getD (k+1) st0).st.take j))++([32]++nU ((c.sts.getD (k+1) st0).st.getD j bJ))=(bM c.sts (k+1)++gQ (k+1))++iY ((c.sts.getD (k+1) st0).st.take (j+1)):=by
     rw[aQ bJ h3]
     unfold iY
     rw[auf]
     simp
    refine ei (j+1) (ai (ai rfl rfl) (ai (ai (ai rfl (ai (ai rfl rfl) (ai (ai rfl rfl) (ai (ai (ai (fun _=>rfl) (aP (by omega))) rfl) (ai (ai (ai (ai rfl rfl) rfl) (ai rfl (ai rfl (ai ?_ ?_)))) trivial))))) rfl) (ai (ai (iL (by omega)) trivial) (iM (by omega)))))
    ·exact congrArg List.length eN
    ·exact l9 eN
   obtain rfl:j=(c.sts.getD (k+1) st0).st.length:=by omega
   have et:(c.sts.getD (k+1) st0).st.take (c.sts.getD (k+1) st0).st.length=(c.sts.getD (k+1) st0).st:=ahb
   rw[et] at hT
   refine ah (p:=0<(c.sts.getD (k+1) st0).wt) (au Iff.rfl) (fun h4=>?_) (fun h4=>?_)
   ·obtain ⟨w,hw⟩:∃w:Nat,(c.sts.getD (k+1) st0).wt=(w:Int):=⟨(c.sts.getD (k+1) st0).wt.toNat,by omega⟩
    have hd7:=ab4 (n:=w) (by omega)
    have e0:ug (c.sts.getD (k+1) st0).wt=[32]++dec w:=by unfold ug;rw[if_pos h4,hw];rfl
    refine ei _ (ai (ahK) (ei (w) (ei [] (ai (a4 (ai (fun _=>Or.inl rfl) (ai nof (Or.inr rfl)))) (ai ?_ (ai (by exact trivial) (ai ((by show w≤1000000;omega)) ?_)))))))
    ·exact (iE (by simp only[zz,reduceCtorEq];omega))
    refine ai (qG (l:=[32]) (m:=dec w) rfl rfl (by show 1+_≤_;omega)) ?_
    refine eF (uN) ((true,[],(bM c.sts (k+1)++gQ (k+1))++iY ((c.sts.getD (k+1) st0).st.take (c.sts.getD (k+1) st0).st.length),[32]++dec w)) [1,5] (a4 (ai rfl rfl)) (Or.inl rfl) ?_ (by exact (ai (ai rfl (ai (ai rfl rfl) rfl)) (ai rfl (ai rfl (ai rfl (fun _ _=>rfl)))))) (⟨by show ((bM c.sts (k+1)++gQ (k+1))++iY ((c.sts.getD (k+1) st0).st.take (c.sts.getD (k+1) st0).st.length)).length≤1000000;rw[et];simp only[aaf,ai1,aoK];omega,by show ([32]++dec w).length≤1000000;rw[aaf];show 1+_≤_;omega⟩) ?_
    ·exact (ai (ai rfl rfl) rfl)
    refine eF (acz) ((true,[],((bM c.sts (k+1)++gQ (k+1))++iY ((c.sts.getD (k+1) st0).st.take (c.sts.getD (k+1) st0).st.length))++([32]++dec w),10)) [1,6] (a4 (ai rfl rfl)) (Or.inl rfl) (by exact (ai (ai rfl rfl) (iE (by simp only[zz,reduceCtorEq];rfl)))) (by exact (ai (ai rfl (ai (ai rfl rfl) rfl)) (ai rfl (ai rfl (ai rfl (fun _ _=>rfl)))))) ((by show (((bM c.sts (k+1)++gQ (k+1))++iY ((c.sts.getD (k+1) st0).st.take (c.sts.getD (k+1) st0).st.length))++([32]++dec w)).length≤1000000;rw[et];simp only[aaf,ai1,aoK];omega)) ?_
    have eN:(((bM c.sts (k+1)++gQ (k+1))++iY ((c.sts.getD (k+1) st0).st.take (c.sts.getD (k+1) st0).st.length))++([32]++dec w))++[10]=bM c.sts (k+1+1):=by
     show _=bM c.sts (k+1)++((((gQ (k+1)++iY (c.sts.getD (k+1) st0).st)++ug (c.sts.getD (k+1) st0).wt))++[10])
     rw[et,e0]
     simp only[atl]
    refine ei ((k+1)+1) (ai (ai rfl rfl) (ai (ai (ai rfl (ai (ai rfl rfl) (ai (ai rfl rfl) (ai (ai (ai (fun _=>rfl) (aP (by omega))) rfl) (ai (ai (ai (ai rfl rfl) rfl) (ai rfl (ai rfl (ai ?_ ?_)))) trivial))))) rfl) (ai (ai (iL (by omega)) trivial) (iM (by omega)))))
    ·exact congrArg List.length eN
    ·exact l9 eN
   ·have e0:ug (c.sts.getD (k+1) st0).wt=[]:=by unfold ug;rw[if_neg h4]
    refine eF (acz) ((true,[],(bM c.sts (k+1)++gQ (k+1))++iY ((c.sts.getD (k+1) st0).st.take (c.sts.getD (k+1) st0).st.length),10)) [1,5] (a4 (ai rfl rfl)) (Or.inl rfl) (by exact (ai (ai rfl rfl) (iE (by simp only[zz,reduceCtorEq];rfl)))) (by exact (ai (ai rfl (ai (ai rfl rfl) rfl)) (ai rfl (ai rfl (ai rfl (fun _ _=>rfl)))))) ((by show ((bM c.sts (k+1)++gQ (k+1))++iY ((c.sts.getD (k+1) st0).st.take (c.sts.getD (k+1) st0).st.length)).length≤1000000;rw[et];simp only[aaf,ai1,aoK];omega)) ?_
    have eN:((bM c.sts (k+1)++gQ (k+1))++iY ((c.sts.getD (k+1) st0).st.take (c.sts.getD (k+1) st0).st.length))++[10]=bM c.sts (k+1+1):=by
     show _=bM c.sts (k+1)++((((gQ (k+1)++iY (c.sts.getD (k+1) st0).st)++ug (c.sts.getD (k+1) st0).wt))++[10])
     rw[et,e0,arD]
     simp only[atl]
    refine ei ((k+1)+1) (ai (ai rfl rfl) (ai (ai (ai rfl (ai (ai rfl rfl) (ai (ai rfl rfl) (ai (ai (ai (fun _=>rfl) (aP (by omega))) rfl) (ai (ai (ai (ai rfl rfl) rfl) (ai rfl (ai rfl (ai ?_ ?_)))) trivial))))) rfl) (ai (ai (iL (by omega)) trivial) (iM (by omega)))))
    ·exact congrArg List.length eN
    ·exact l9 eN
  ·have hkn:k+1=c.sts.length:=by omega
   refine ei (bE.inv { X:=Nat,up:=fun i=>[(66,.s (iA i))],uo:=fun i=>[⟨1,143,[.s (.own 1 0),.rw 5 1 (bM c.sts (k+1)++nM (dO c) c.trs i).length (adE (bM c.sts (k+1)++nM (dO c) c.trs i))]⟩],inv:=fun i=>i≤c.trs.length∧(True),meas:=fun i=>c.trs.length-i,x0:=0 }) ?_
   refine ai (ai (ai (by exact (a4 (ai rfl rfl))) (ai ?_ ?_)) rfl) (ai (ai (afc _) ?_) ?_)
   ·exact (ai (ai (fun _=>rfl) (iE (by simp only[zz,reduceCtorEq];rfl))) rfl)
   ·refine (ai (ai (ai (ai rfl rfl) rfl) (ai rfl (ai rfl (ai ?_ ?_)))) trivial)
    ·show (bM c.sts (k+1)).length=(bM c.sts (k+1)++[]).length
     rw[arD]
    ·exact l9 (by show _=_++[];rw[arD])
   ·trivial
   intro (i:Nat) ⟨hi,_⟩
   have hM:=afJ hc hi
   refine ah (p:=i<c.trs.length) (au (by omega)) (fun h5=>?_) (fun h5=>?_)
   ·refine ai (ai (abq _) (iN (n:=c.trs.length) (by omega))) (ai rfl ?_)
    obtain ⟨⟨q1,q2⟩,q3,q4,q5⟩:=ai6 hc h5
    obtain ⟨⟨p1,p2⟩,p3,p4⟩:=aiP hc h5
    have x1:=xZ (kM hc h5).1.1 (by decide)
    have x2:=xZ (kM hc h5).2.1.1 (by decide)
    refine ei (.seq [0,1,2,3,4,5,6,7,8,9]) (ai (by kernel_rfl) ?_)
    refine ei _ (ai (aqT) (ei (c) (ei [] (ai (a4 (ai (fun _=>Or.inl rfl) (ai nof (Or.inl rfl)))) (ai (by exact (ai rfl (ai (ai rfl (fun _ _=>rfl)) (ai (ai rfl (fun _ _=>rfl)) (ai rfl (fun _ _=>rfl)))))) (ai trivial (ai (aoa hc) ?_)))))))
    refine ei _ (ai (akD) (ei (((c.trs.getD i aF).wh,dO c)) (ei [] (ai (a4 (ai (fun _=>Or.inl rfl) (ai nof (Or.inl rfl)))) (ai (by exact (ai (ai (iE (by simp only[zz,reduceCtorEq])) (ai (iE (by simp only[zz,reduceCtorEq])) (ai rfl (fun _ _=>rfl)))) (ai rfl (fun _ _=>rfl)))) (ai trivial (ai (anc hc h40 h5) ?_)))))))
    refine ei (.one 0 (.one 1 (.one 4 (.one 5 (.one 9 (.one 2 (.one 3 (.one 6 (.one 7 (.one 8 (.one 10 (.one 11 (.wr 12 .done))))))))))))) (ai (by kernel_rfl) ?_)
    refine ei _ (ai (acB) (ei ((c.trs.getD i aF).fr) (ei [] (ai (a4 (ai (fun _=>Or.inl rfl) (ai nof (Or.inl rfl)))) (ai (by exact (ai rfl (fun _ _=>rfl))) (ai trivial (ai (⟨x1,by show (c.trs.getD i aF).fr.length≤1000;omega⟩) ?_)))))))
    refine ai (qG (l:=inT (c.trs.getD i aF).fr) (m:=[32,62,32]) rfl rfl (by show _+3≤_;omega)) ?_
    refine ei _ (ai (acB) (ei ((c.trs.getD i aF).to) (ei [] (ai (a4 (ai (fun _=>Or.inl rfl) (ai nof (Or.inl rfl)))) (ai (by exact (ai rfl (fun _ _=>rfl))) (ai trivial (ai (⟨x2,by show (c.trs.getD i aF).to.length≤1000;omega⟩) ?_)))))))
    have hX2:(strOf (inT (c.trs.getD i aF).fr)++strOf [32,62,32])++strOf (inT (c.trs.getD i aF).to)=strOf ((inT (c.trs.getD i aF).fr++[32,62,32])++inT (c.trs.getD i aF).to):=by rw[eD,eD]
    have hX3:((strOf (inT (c.trs.getD i aF).fr)++strOf [32,62,32])++strOf (inT (c.trs.getD i aF).to))++strOf [58,32]=strOf (((inT (c.trs.getD i aF).fr++[32,62,32])++inT (c.trs.getD i aF).to)++[58,32]):=by rw[hX2,eD]
    have hX4:(((strOf (inT (c.trs.getD i aF).fr)++strOf [32,62,32])++strOf (inT (c.trs.getD i aF).to))++strOf [58,32])++strOf (dY (dO c) (c.trs.getD i aF).wh)=strOf ((((inT (c.trs.getD i aF).fr++[32,62,32])++inT (c.trs.getD i aF).to)++[58,32])++dY (dO c) (c.trs.getD i aF).wh):=by rw[hX3,eD]
    have hX5:((((strOf (inT (c.trs.getD i aF).fr)++strOf [32,62,32])++strOf (inT (c.trs.getD i aF).to))++strOf [58,32])++strOf (dY (dO c) (c.trs.getD i aF).wh))++strOf [10]=strOf (lnT (dO c) (c.trs.getD i aF)):=by rw[hX4,eD];rfl
    refine ai (qG (l:=inT (c.trs.getD i aF).fr++[32,62,32]) (m:=inT (c.trs.getD i aF).to) (eD _ _) rfl (by simp only[aaf,ai1,aoK];omega)) ?_
    refine ai (qG (l:=(inT (c.trs.getD i aF).fr++[32,62,32])++inT (c.trs.getD i aF).to) (m:=[58,32]) hX2 rfl (by simp only[aaf,ai1,aoK];omega)) ?_
    refine ai (qG (l:=((inT (c.trs.getD i aF).fr++[32,62,32])++inT (c.trs.getD i aF).to)++[58,32]) (m:=dY (dO c) (c.trs.getD i aF).wh) hX3 rfl (by simp only[aaf,ai1,aoK];omega)) ?_
    refine ai (qG (l:=(((inT (c.trs.getD i aF).fr++[32,62,32])++inT (c.trs.getD i aF).to)++[58,32])++dY (dO c) (c.trs.getD i aF).wh) (m:=[10]) hX4 rfl (by simp only[aaf,ai1,aoK];omega)) ?_
    refine eF (uN) ((true,[],bM c.sts (k+1)++nM (dO c) c.trs i,lnT (dO c) (c.trs.getD i aF))) [1,3] (a4 (ai rfl rfl)) (Or.inl rfl) ?_ (by exact (ai (ai rfl (ai (ai rfl rfl) rfl)) (ai rfl (ai rfl (ai rfl (fun _ _=>rfl)))))) (⟨by show (bM c.sts (k+1)++nM (dO c) c.trs i).length≤1000000;rw[aaf];omega,by show (lnT (dO c) (c.trs.getD i aF)).length≤1000000;omega⟩) ?_
    ·exact (ai (ai rfl rfl) rfl)
    have eN:(bM c.sts (k+1)++nM (dO c) c.trs i)++lnT (dO c) (c.trs.getD i aF)=bM c.sts (k+1)++nM (dO c) c.trs (i+1):=by rw[nM,atl]
    refine ei (i+1) (ai (ai rfl rfl) (ai (ai (ai rfl (ai (ai rfl rfl) (ai (ai rfl rfl) (ai (ai (ai (fun _=>rfl) (aP (by omega))) rfl) (ai (ai (ai (ai rfl rfl) rfl) (ai rfl (ai rfl (ai ?_ ?_)))) trivial))))) rfl) (ai (ai (iL (by omega)) trivial) (iM (by omega)))))
    ·exact congrArg List.length eN
    ·exact l9 eN
   ·obtain rfl:i=c.trs.length:=by omega
    have hne:bM c.sts (k+1)++nM (dO c) c.trs c.trs.length≠[]:=fun e=>by
     have:=congrArg List.length e
     rw[aaf,bM,aaf] at this
     have h7:0<(lnK k (c.sts.getD k st0)).length:=by unfold lnK;rw[aaf];exact Nat.succ_pos _
     have:(bM c.sts k).length+(lnK k (c.sts.getD k st0)).length+(nM (dO c) c.trs c.trs.length).length=0:=this
     omega
    refine amB (ajq 143 2) rfl rfl rfl rfl (bM c.sts (k+1)++nM (dO c) c.trs c.trs.length) rfl hne (fun j _=>rfl) ?_
    have eT:akp c=bM c.sts (k+1)++nM (dO c) c.trs c.trs.length:=by unfold akp;rw[hkn]
    refine ai (ai (fun _=>(by exact (ai trivial trivial))) ?_) trivial
    show ak _ (vv c)
    rw[vv,if_pos hc,hc,eT]
    exact (ai rfl rfl)
def aoG:List (Nat×(List Nat→SV))→Nat→List Nat→SV
 | [],_,_=>.any
 | (k,v) :: l,i,ns=>match k.beq i with
  | true=>v ns
  | false=>aoG l i ns
def aoS:List (Nat×List Nat)→Nat→List Nat
 | [],_=>[]
 | (k,v) :: l,i=>match k.beq i with
  | true=>v
  | false=>aoS l i
def aoT:List (Nat×(List Nat→Ob))→Nat→List Nat→Ob
 | [],_,_=>.cells 0 []
 | (k,v) :: l,i,ns=>match k.beq i with
  | true=>v ns
  | false=>aoT l i ns
def hd0:List Nat→Nat
 | []=>0
 | n :: _=>n
def zu (l:List Int):PV:=.seq l.length (bn 1 (l.map iP))
def agG (fr to:List Int) (x:Ex):List PV:=[zu fr,zu to,iP x.op,iP x.idx,.seq x.args.length (exF x.args)]
def fkE:List PV:=agG [0] [1,2] (o7 true)++agG [1,2] [0] (o7 true)
def fkF (a:Bool):Nat→List PV:=if a=true then pq (bn 5 fkE) 1 0 [zu [1]] else bn 5 fkE
def jr (a:Bool):PV:=.agg [iP 1,.val (.slice none 0 0),.seq 3 (fun _=>[.val (.slice none 0 0),iP 0]),.seq 2 (fkF a)]
def fkX:SV:=.p true (exP (o7 true))
def fkI (l:List Int):SV:=.p false (zu l)
def fkT (fr to:List Int):SV:=.p false (.agg (agG fr to (o7 true)))
def fkS:mq where
 l:=[0,1,2,3,4,5,6,7,8,9,10,11]
 own:=[9,11]
 u:=aoS [(9,[9]),(10,[9]),(11,[11])]
 f:=aoG [(0,fun _=>.p false (.seq 3 (fun _=>[.val (.slice none 0 0),iP 0]))),(1,fun _=>fkI [0]),(2,fun _=>fkI [1,2]),(3,fun _=>fkX),(4,fun _=>fkT [0] [1,2]),
  (5,fun _=>fkI [1,2]),(6,fun _=>fkI [0]),(7,fun _=>fkX),(8,fun _=>fkT [1,2] [0]),(9,fun ns=>.row (hd0 ns)),
  (10,fun ns=>.agg [.p true (iP 1),.p true (.val (.slice none 0 0)),.p false (.seq 3 (fun _=>[.val (.slice none 0 0),iP 0])),.row (hd0 ns)]),(11,fun ns=>.own (hd0 ns) 0)]
 ob:=aoT [(9,fun _=>.row 81 5 2 (bn 5 (agG [0] [1,2] (o7 true)++agG [1,2] [0] (o7 true)))),
  (11,fun _=>.cells 26 [.p true (iP 0),.p true (.val (.slice none 0 0)),.p true (.val (.slice none 0 0)),.p true (.val (.slice none 0 0))])]
theorem akx:aL Tryz.prog 58 (iO (fun a:Bool=>[.p false (bP a)]) (fun _=>True) jr):=by
 refine jy [4000006,4000007,4000008,4000011,4000012,4000020] ?_
 refine aY (Tb:=tab) mixed aB Tryz.func58 rfl rfl ?_
 rintro (a:Bool) hpre
 refine ai (ai rfl (ai rfl rfl)) ?_
 refine ei _ (ai (aoc) (ei (true) (ei [] (ai (a4 (ai (fun _=>Or.inl rfl) (ai nof (Or.inl rfl)))) (ai (by exact rfl) (ai trivial (ai (trivial) ?_)))))))
 refine ei (.set fkS (.one 12 .done)) (ai (by kernel_rfl) (ai ?_ ?_))
 ·repeat' (first | exact trivial | refine ai ?_ ?_ | exact aoR.mk rfl rfl rfl rfl | intro s | decide)
 refine ai trivial (ai (ai trivial (ai ?_ trivial)) (ai (ai trivial (ai ?_ trivial)) trivial))
 ·refine aX (b:=a) rfl (fun h=>?_) (fun h=>?_)
  ·refine ai (ai (by decide) (by decide)) (ai (ai (by decide) (by decide)) ?_)
   refine ai (ai (fun h=>absurd (show false=true from h) (by decide)) ?_) trivial
   show ak _ (jr a)
   rw[show jr a=.agg [iP 1,.val (.slice none 0 0),.seq 3 (fun _=>[.val (.slice none 0 0),iP 0]),.seq 2 (pq (bn 5 fkE) 1 0 [zu [1]])] by unfold jr fkF;rw[if_pos h]]
   exact (ai rfl (ai rfl (ai (ai rfl (fun _ _=>rfl)) (ai rfl (fun _ _=>rfl)))))
  ·refine ai (ai (fun h=>absurd (show false=true from h) (by decide)) ?_) trivial
   show ak _ (jr a)
   rw[show jr a=.agg [iP 1,.val (.slice none 0 0),.seq 3 (fun _=>[.val (.slice none 0 0),iP 0]),.seq 2 (bn 5 fkE)] by unfold jr fkF;rw[if_neg (by rw[h];decide)]]
   exact (ai rfl (ai rfl (ai (ai rfl (fun _ _=>rfl)) (ai rfl (fun _ _=>rfl)))))
 ·refine aX (b:=a) rfl (fun h=>?_) (fun h=>?_)
  ·refine ai (ai (by decide) (by decide)) (ai (ai (by decide) (by decide)) ?_)
   refine ai (ai (fun h=>absurd (show false=true from h) (by decide)) ?_) trivial
   show ak _ (jr a)
   rw[show jr a=.agg [iP 1,.val (.slice none 0 0),.seq 3 (fun _=>[.val (.slice none 0 0),iP 0]),.seq 2 (pq (bn 5 fkE) 1 0 [zu [1]])] by unfold jr fkF;rw[if_pos h]]
   exact (ai rfl (ai rfl (ai (ai rfl (fun _ _=>rfl)) (ai rfl (fun _ _=>rfl)))))
  ·refine ai (ai (fun h=>absurd (show false=true from h) (by decide)) ?_) trivial
   show ak _ (jr a)
   rw[show jr a=.agg [iP 1,.val (.slice none 0 0),.seq 3 (fun _=>[.val (.slice none 0 0),iP 0]),.seq 2 (bn 5 fkE)] by unfold jr fkF;rw[if_neg (by rw[h];decide)]]
   exact (ai rfl (ai rfl (ai (ai rfl (fun _ _=>rfl)) (ai rfl (fun _ _=>rfl)))))
def jS (a:Bool):aJ:=⟨1,[],[⟨[],0⟩,⟨[],0⟩,⟨[],0⟩],[⟨[0],[1,2],o7 true⟩,⟨if a then [1] else [1,2],[0],o7 true⟩]⟩
theorem ap5 (a:Bool):gW (jr a) (vC (jS a)):=by
 refine vX (bG (.refl _) (bG (.nil _) (bG (gK fun k hk=>?_) (bG (gK fun k hk=>?_) ng))))
 ·match k,hk with
  | 0,_=>exact adA (.nil _) (.refl _)
  | 1,_=>exact adA (.nil _) (.refl _)
  | 2,_=>exact adA (.nil _) (.refl _)
 ·have one:∀x:Int,gW (zu [x]) (jD [x]):=fun x=>gK fun k hk=>by match k,hk with | 0,_=>exact bN.rfl' _
  have two:∀x y:Int,gW (zu [x,y]) (jD [x,y]):=fun x y=>gK fun k hk=>by match k,hk with | 0,_=>exact bN.rfl' _ | 1,_=>exact bN.rfl' _
  match k,hk with
  | 0,_=>cases a<;>exact bG (one 0) (bG (two 1 2) (bN.rfl' _))
  | 1,_=>
   cases a
   ·exact bG (two 1 2) (bG (one 0) (bN.rfl' _))
   ·exact bG (one 1) (bG (one 0) (bN.rfl' _))
theorem aiD:aL Tryz.prog 58 (iO (fun a:Bool=>[.p false (bP a)]) (fun _=>True) (fun a=>vC (jS a))):=adP akx fun a _=>ap5 a
def three:mI:=⟨2,[⟨[(0,true)],0⟩,⟨[(1,true)],150⟩,⟨[(0,false),(1,false)],0⟩]⟩
def arb (n:Int) (b:Bool):PV:=.seq 1 (bn 2 [iP n,bP b])
def tZ:PV:=.agg [iP 2,.seq 3 (bn 2 [arb 0 true,iP 0,arb 1 true,iP 150,.seq 2 (bn 2 [iP 0,bP false,iP 1,bP false]),iP 0])]
theorem akT:aL Tryz.prog 57 (iO (fun _:Unit=>[]) (fun _=>True) (fun _=>tZ)):=by
 refine jy [4000002,4000005,4000009,4000011] ?_
 refine aY (Tb:=tab) mixed aB Tryz.func57 rfl rfl ?_
 rintro (u:Unit) hpre
 refine ai (ai rfl (ai rfl rfl)) ?_
 refine ai (ai (fun h=>absurd (show false=true from h) (by decide)) ?_) trivial
 show ak _ (tZ)
 rw[show tZ=tZ from rfl]
 exact (ai rfl (ai rfl (fun _ _=>rfl)))
theorem amN:gW tZ (.agg (sqK three)):=by
 refine vX (bG (.refl _) (bG (gK fun k hk=>?_) ng))
 match k,hk with
 | 0,_=>exact adA (gK fun k hk=>by match k,hk with | 0,_=>exact bN.rfl' _) (.refl _)
 | 1,_=>exact adA (gK fun k hk=>by match k,hk with | 0,_=>exact bN.rfl' _) (.refl _)
 | 2,_=>exact adA (gK fun k hk=>by match k,hk with | 0,_=>exact bN.rfl' _ | 1,_=>exact bN.rfl' _) (.refl _)
theorem aof:aL Tryz.prog 57 (iO (fun _:Unit=>[]) (fun _=>True) (fun _=>.agg (sqK three))):=adP akT fun _ _=>amN
def vrX (n:Int):Ex:=.node 1 n []
def c3:aJ:=⟨2,[[115,116,97,114,116]],[⟨[],0⟩,⟨[(0,true)],0⟩,⟨[(1,true)],0⟩,⟨[],150⟩,⟨[(0,false),(1,false)],0⟩],
 [⟨[0],[1],vrX 4⟩,⟨[1],[2],vrX 1⟩,⟨[2],[3],vrX 3⟩,⟨[3],[4],vrX 8⟩,⟨[4],[0],.node 3 0 [vrX 0,vrX 2]⟩]⟩
def anY:List UInt8:=[115,116,101,112,32,48,58,10,115,116,101,112,32,49,58,32,65,43,10,115,116,101,112,32,50,58,32,66,43,10,115,116,101,112,32,51,58,32,49,53,48,10,115,116,101,112,32,52,58,32,65,45,32,66,45,10,48,32,62,32,49,58,32,115,116,97,114,116,10,49,32,62,32,50,58,32,97,49,10,50,32,62,32,51,58,32,98,49,10,51,32,62,32,52,58,32,121,51,10,52,32,62,32,48,58,32,97,48,32,38,32,98,48,10]
theorem aqt:ofC three=c3:=by kernel_rfl
theorem asc:wu three=0:=by decide +kernel
theorem aq2:bD c3=0:=by decide +kernel
theorem apt:akp c3=anY:=by decide +kernel
theorem arl:nN (mU c3)=[[false,false,false,false,true],[false,false,false,true,false],[false,false,true,false,false],[false,true,false,false,false],[true,false,false,false,false]]:=by decide +kernel
theorem aqE:nN (mU (jS false))=[[false,true,true],[true,false,false]]:=by decide +kernel
theorem ex3:uF c3=0:=by decide +kernel
theorem asZ:uF (jS false)=0:=by decide +kernel
theorem asT:uF (jS true)=0:=by decide +kernel
theorem ar0:su (jS true)=([0,1,0],true):=by decide +kernel
theorem aoe:jd c3∧∀t∈c3.trs,t.wh.size≤120:=by
 refine ⟨⟨fun s hs=>?_,fun t ht=>?_⟩,fun t ht=>?_⟩
 ·have:∀s∈c3.sts,s.st.length≤2:=by decide
  have:=this s hs;omega
 ·have:∀t∈c3.trs,t.fr.length≤2∧t.to.length≤2∧t.wh.size≤10:=by decide +kernel
  have:=this t ht
  exact ⟨by omega,by omega,by omega⟩
 ·have:∀t∈c3.trs,t.wh.size≤10:=by decide +kernel
  have:=this t ht;omega
theorem asN:∀t∈c3.trs,abF t.wh:=by
 intro t ht
 simp only[c3,ai0,List.mem_nil_iff,or_false] at ht
 rcases ht with rfl | rfl | rfl | rfl | rfl
 ·exact .inl rfl
 ·exact .inl rfl
 ·exact .inl rfl
 ·exact .inl rfl
 ·refine .inr ⟨rfl,fun y hy=>?_⟩
  simp only[ai0,List.mem_nil_iff,or_false,Ex.args] at hy
  rcases hy with rfl | rfl<;>rfl
theorem okF (a:Bool):jd (jS a)∧an6 (jS a):=by
 have h1:∀a,∀s∈(jS a).sts,s.st.length≤2:=by decide
 have h2:∀a,∀t∈(jS a).trs,t.fr.length≤2∧t.to.length≤2∧t.wh.size≤10:=by decide +kernel
 refine ⟨⟨fun s hs=>?_,fun t ht=>?_⟩,?_⟩
 ·have:=h1 a s hs;omega
 ·have:=h2 a t ht;exact ⟨by omega,by omega,by omega⟩
 ·cases a<;>exact ⟨by decide,by decide⟩
def mF:List (List Bool):=[[false,true,true],[true,false,false]]
section
variable {z : Int} (hz : z = 0)
include hz
theorem arv:aL Tryz.prog 18 (iO (fun _:Unit=>[sqA three]) (fun _=>True) (fun _=>.tup [vC c3,iP z])):=
 jc afr three trivial (by show PV.tup [vC (ofC three),iP (wu three)]=_;rw[hz,aqt,asc])
theorem aru:aL Tryz.prog 24 (fnG (fun _:Unit=>[jJ c3]) (fun _=>True) (fun _=>.tup [sP anY,iP z])):=by
 have h:aL Tryz.prog 24 (fnG (fun _:Unit=>[jJ c3]) (fun _=>True) (fun _=>vv c3)):=⟨acw.1,fun _ _ E vs w hg hh hA=>acw.2 c3 ⟨aoe.1,fun _ t ht=>⟨aoe.2 t ht,asN t ht⟩⟩ E vs w hg hh hA⟩
 have e:vv c3=.tup [sP anY,iP z]:=by unfold vv;rw[if_pos aq2,aq2,apt,hz]
 rw[e] at h;exact h
theorem ars:aL Tryz.prog 29 (iO (fun _:Unit=>[jJ c3]) (fun _=>True) (fun _=>.tup [bbP [[false,false,false,false,true],[false,false,false,true,false],[false,false,true,false,false],[false,true,false,false,false],[true,false,false,false,false]],iP z])):=
 jc abu c3 aoe.1 (by show qW c3=_;unfold qW;rw[hz,arl,ex3])
theorem aro:aL Tryz.prog 29 (iO (fun _:Unit=>[jJ (jS false)]) (fun _=>True) (fun _=>.tup [bbP mF,iP z])):=
 jc abu (jS false) (okF false).1 (by show qW (jS false)=_;unfold qW;rw[hz,aqE,asZ];rfl)
theorem arw:aL Tryz.prog 13 (iO (fun _:Unit=>[jJ (jS true)]) (fun _=>True) (fun _=>.tup [bP false,jD [0,1,0],iP z])):=
 jc apq (jS true) (okF true).1 (by show xM (jS true)=_;unfold xM;rw[if_pos asT,ar0,hz];rfl)
end
def rwM:PV:=.seq 2 (bn 1 [.seq 3 (bn 1 [bP false,bP true,bP true]),.seq 3 (bn 1 [bP true,bP false,bP false])])
theorem arx:gW rwM (bbP mF):=gK fun k hk=>by
 match k,hk with
 | 0,_=>exact abM (gK fun k hk=>by match k,hk with | 0,_=>exact bN.rfl' _ | 1,_=>exact bN.rfl' _ | 2,_=>exact bN.rfl' _)
 | 1,_=>exact abM (gK fun k hk=>by match k,hk with | 0,_=>exact bN.rfl' _ | 1,_=>exact bN.rfl' _ | 2,_=>exact bN.rfl' _)
theorem smM:ak3 mF:=⟨by decide,fun m hm=>by
 have:∀m∈mF,m.length≤3:=by decide
 have:=this m hm
 omega⟩
theorem anC:aL Tryz.prog 33 (bT (fun _:Unit=>[bbA mF,.p false rwM]) (fun _=>True) (fun _=>bP true)):=
 amZ (aaC akI (mF,mF) smM (by show bP (decide (mF=mF))=_;rw[decide_eq_true rfl];rfl)) fun _ _=>⟨.inl rfl,.inr ⟨_,_,rfl,rfl,arx⟩,trivial⟩
theorem arU:aL Tryz.prog 59 (bT (fun _:Unit=>[isA [0,1,0],isA [0,1,0]]) (fun _=>True) (fun _=>bP true)):=
 aaC aqg ([0,1,0],[0,1,0]) (by decide) rfl
def ase:Spec:=fnG (fun _:Unit=>[]) (fun _=>True) (fun _=>bP true)
theorem p8:aL Tryz.prog 12 ase:=by
 refine jy [4000061,4000062,4000063,4000072] ?_
 refine aY (Tb:=tab) mixed aB Tryz.func12 rfl rfl ?_
 rintro ⟨⟩ hpre
 refine ai (ai rfl (ai rfl rfl)) ?_
 obtain ⟨z,hz⟩:∃z:Int,z=0:=⟨0,rfl⟩
 refine ei _ (ai (aof) (ei (()) (ei [] (ai (a4 (ai (fun _=>Or.inl rfl) (ai nof (Or.inl rfl)))) (ai (by exact trivial) (ai trivial (ai (trivial) ?_)))))))
 refine ei _ (ai ((arv hz)) (ei (()) (ei [] (ai (a4 (ai (fun _=>Or.inl rfl) (ai nof (Or.inl rfl)))) (ai (by exact (ai rfl (ai rfl (fun _ _=>rfl)))) (ai trivial (ai (trivial) ?_)))))))
 refine ei _ (ai ((aru hz)) (ei (()) (ei [] (ai (a4 (ai (fun _=>Or.inl rfl) (ai nof (Or.inr rfl)))) (ai (by exact (ai rfl (ai (ai rfl (fun _ _=>rfl)) (ai (ai rfl (fun _ _=>rfl)) (ai rfl (fun _ _=>rfl)))))) (ai trivial (ai (trivial) ?_)))))))
 refine ei _ (ai ((ars hz)) (ei (()) (ei [] (ai (a4 (ai (fun _=>Or.inl rfl) (ai nof (Or.inl rfl)))) (ai (by exact (ai rfl (ai (ai rfl (fun _ _=>rfl)) (ai (ai rfl (fun _ _=>rfl)) (ai rfl (fun _ _=>rfl)))))) (ai trivial (ai (trivial) ?_)))))))
 refine ei _ (ai (aiD) (ei (false) (ei [] (ai (a4 (ai (fun _=>Or.inl rfl) (ai nof (Or.inl rfl)))) (ai (by exact rfl) (ai trivial (ai (trivial) ?_)))))))
 refine ei _ (ai (aaY) (ei (jS false) (ei [] (ai (a4 (ai (fun _=>Or.inl rfl) (ai nof (Or.inl rfl)))) (ai (by exact (ai rfl (ai (ai rfl (fun _ _=>rfl)) (ai (ai rfl (fun _ _=>rfl)) (ai rfl (fun _ _=>rfl)))))) (ai trivial (ai ((okF false).2) ?_)))))))
 refine ei _ (ai ((aro hz)) (ei (()) (ei [] (ai (a4 (ai (fun _=>Or.inl rfl) (ai nof (Or.inl rfl)))) (ai (by exact (ai rfl (ai (ai rfl (fun _ _=>rfl)) (ai (ai rfl (fun _ _=>rfl)) (ai rfl (fun _ _=>rfl)))))) (ai trivial (ai (trivial) ?_)))))))
 refine ei _ (ai (aiD) (ei (true) (ei [] (ai (a4 (ai (fun _=>Or.inl rfl) (ai nof (Or.inl rfl)))) (ai (by exact rfl) (ai trivial (ai (trivial) ?_)))))))
 refine ei _ (ai (aaY) (ei (jS true) (ei [] (ai (a4 (ai (fun _=>Or.inl rfl) (ai nof (Or.inl rfl)))) (ai (by exact (ai rfl (ai (ai rfl (fun _ _=>rfl)) (ai (ai rfl (fun _ _=>rfl)) (ai rfl (fun _ _=>rfl)))))) (ai trivial (ai ((okF true).2) ?_)))))))
 refine ei _ (ai ((arw hz)) (ei (()) (ei [] (ai (a4 (ai (fun _=>Or.inl rfl) (ai nof (Or.inl rfl)))) (ai (by exact (ai rfl (ai (ai rfl (fun _ _=>rfl)) (ai (ai rfl (fun _ _=>rfl)) (ai rfl (fun _ _=>rfl)))))) (ai trivial (ai (trivial) ?_)))))))
 refine aX (b:=true) (by simp only[hz,Int.add_zero,ags];rfl) (fun _=>?_) (fun h=>absurd h (by decide))
 refine ei _ (ai (anC) (ei (()) (ei [] (ai (a4 (ai (fun _=>Or.inl rfl) (ai nof (Or.inl rfl)))) (ai ?_ (ai trivial (ai ?_ ?_)))))))
 ·exact (ai (ai rfl (fun _ _=>rfl)) (ai rfl (fun _ _=>rfl)))
 ·trivial
 refine ei _ (ai (arU) (ei (()) (ei [] (ai (a4 (ai (fun _=>Or.inl rfl) (ai nof (Or.inl rfl)))) (ai ?_ (ai trivial (ai ?_ ?_)))))))
 ·refine (ai (ai rfl (fun _ _=>rfl)) (ai rfl ?_))
  (intro k hk;have hk:k<3:=hk;match k,hk with | 0,_=>rfl | 1,_=>rfl | 2,_=>rfl)
 ·trivial
 refine ai (ai (fun _=>trivial) ?_) trivial
 exact rfl
def vS (F:List Int) (k:Int):List Int:=if fB F k then F else F++[k]
def wP (F:List Int):MK→Option PV
 | .int j=>if fB F j then some (bP true) else none
 | _=>none
def aqD (F:List Int):Ob:=.map (.int .i64) F.length (wP F)
theorem agD (F:List Int) (k j:Int):fB (vS F k) j=(fB F j||(j==k)):=by
 unfold vS
 split
 ·rename_i h
  by_cases e:j=k
  ·subst e;rw[h];simp
  ·rw[beq_eq_false_iff_ne.2 e,atQ]
 ·unfold fB;rw[List.any_append,atX,List.any_nil,atQ]
theorem ani:wP []=fun _=>none:=funext fun k=>by cases k<;>rfl
theorem amY (F:List Int) (k:Int) (q:MK):l5 (wP F) (.int k) (bP true) q=wP (vS F k) q:=by
 classical
 unfold l5
 split
 ·rename_i h;subst h
  show _=if fB (vS F k) k=true then some (bP true) else none
  rw[agD];simp
 ·rename_i h
  cases q with
  | int j=>
   have e:¬j=k:=fun e=>h (by rw[e])
   show (if fB F j=true then some (bP true) else none)=if fB (vS F k) j=true then some (bP true) else none
   rw[agD,beq_eq_false_iff_ne.2 e,atQ]
  | bools b=>rfl
  | str a=>rfl
theorem am0 {F:List Int} {k:Int} (h:wP F (.int k)=none):(vS F k).length=F.length+1:=by
 unfold vS
 rw[if_neg,aaf]
 ·rfl
 ·intro e
  have h:(if fB F k=true then some (bP true) else none)=none:=h
  rw[if_pos e] at h;cases h
theorem anR {F:List Int} {k:Int} {d:PV} (h:wP F (.int k)=some d):(vS F k).length=F.length:=by
 unfold vS
 rw[if_pos]
 have h:(if fB F k=true then some (bP true) else none)=some d:=h
 cases e:fB F k with
 | true=>rfl
 | false=>rw[e,if_neg (by decide)] at h;cases h
theorem aml (F:List Int) (k:Int) (d:PV) (h:wP F (.int k)=some d):d=bP (fB F k)∧fB F k=true:=by
 have h:(if fB F k=true then some (bP true) else none)=some d:=h
 cases e:fB F k with
 | true=>rw[e,if_pos rfl] at h;cases h;exact ⟨rfl,rfl⟩
 | false=>rw[e,if_neg (by decide)] at h;cases h
theorem amG (F:List Int) (k:Int) (h:wP F (.int k)=none):bP (fB F k)=.val (.bool false)∧fB F k=false:=by
 have h:(if fB F k=true then some (bP true) else none)=none:=h
 cases e:fB F k with
 | true=>rw[e,if_pos rfl] at h;cases h
 | false=>exact ⟨rfl,rfl⟩
theorem ar1 {n:Nat} {l:List Int} (h:eX n l=0):∀{j:Nat},j<l.length→∀{i:Nat},i<j→l.getD i 0<l.getD j 0:=by
 unfold eX at h
 split at h
 ·cases h
 have h1:=nG h
 intro j hj
 induction j with
 | zero=>intro i hi;exact absurd hi (alJ _)
 | succ j ih=>
  intro i hi
  have h2:=h1 (j+1) hj
  unfold mH at h2
  rw[show j+1-1=j from rfl] at h2
  have h3:l.getD j 0<l.getD (j+1) 0:=by
   split at h2
   ·cases h2
   ·split at h2
    ·cases h2
    ·rename_i h4;omega
  by_cases e:i=j
  ·rw[e];exact h3
  ·have:=ih (by omega) (i:=i) (by omega);omega
theorem akR {n:Nat} {l:List Int} (h:eX n l=0):l.Nodup:=by
 rw[List.nodup_iff_pairwise_ne,atT]
 intro i j hi hj hij e
 have:=ar1 h hj hij
 rw[abo,abo,abn hi,abn hj] at this
 simp only[Option.getD_some] at this
 omega
theorem apY {n:Nat} {l:List Int} (h:eX n l=0):0<l.length:=by
 unfold eX at h
 split at h
 ·cases h
 ·omega
theorem apb {c:aJ} (h:bD c=0) {i:Nat} (hi:i<c.trs.length):eX c.sts.length (uZ c i).fr=0∧eX c.sts.length (uZ c i).to=0:=by
 obtain ⟨_,_,_,_,_,h6⟩:=gL h
 have h:=h6 i hi
 unfold iJ at h
 split at h
 ·rename_i h1;exact absurd h h1
 rename_i h1
 split at h
 ·rename_i h2;exact absurd h h2
 rename_i h2
 exact ⟨aqu.1 h1,aqu.1 h2⟩
theorem oL {l:List Int} {k:Int}:fB l k=true↔k∈l:=by
 unfold fB
 rw[atj]
 constructor
 ·rintro ⟨y,hy,e⟩;rw[beq_iff_eq.1 e];exact hy
 ·exact fun h=>⟨k,h,beq_self_eq_true k⟩
theorem aqj {a b:List Int} (h:qM a b=false) {k:Int} (ha:k∈a):k∉b:=fun hb=>by
 unfold qM at h
 rw[atv] at h
 exact h k ha (oL.2 hb)
theorem anG {a b:List Int} (h:qM a b=true):∃k,k∈a∧k∈b:=by
 unfold qM at h
 obtain ⟨k,h1,h2⟩:=atj.1 h
 exact ⟨k,h1,oL.1 h2⟩
abbrev Own := List (Int × Int)
def nK (c:aJ) (i:Int):Own:=(fu c i).map fun k=>(k,i)
def gZ (c:aJ) (F:List Int):Own:=F.flatMap (nK c)
def fV (O:Own) (k:Int):Option Int:=(O.find? fun p=>p.1==k).map (·.2)
theorem aff {O:Own} {k:Int} (h:∀p∈O,p.1≠k):fV O k=none:=by
 unfold fV
 rw[atN.2 fun p hp e=>h p hp (beq_iff_eq.1 e)];rfl
theorem amC {O:Own} {k i:Int} (h:(O.map (·.1)).Nodup) (hp:(k,i)∈O):fV O k=some i:=by
 induction O with
 | nil=>cases hp
 | cons x O ih=>
  rw[aoM,atZ] at h
  unfold fV
  rw[List.find?_cons]
  rcases ai0.1 hp with e | hp
  ·rw[←e];simp
  ·have hx:(x.1==k)=false:=by
    rw[beq_eq_false_iff_ne];intro e
    exact h.1 (asJ.2 ⟨(k,i),hp,e.symm⟩)
   rw[hx];exact ih h.2 hp
theorem aps {O:Own} {k:Int} (h:fV O k=none):∀p∈O,p.1≠k:=by
 unfold fV at h
 rw[Option.map_eq_none_iff,atN] at h
 exact fun p hp e=>h p hp (beq_iff_eq.2 e)
theorem ala {O:Own} {k i:Int} (h:fV O k=none) (q:Int):fV (O++[(k,i)]) q=if q=k then some i else fV O q:=by
 unfold fV at h ⊢
 rw[auy]
 by_cases e:q=k
 ·subst e
  rw[if_pos rfl]
  rw[Option.map_eq_none_iff] at h
  rw[h];simp
 ·rw[if_neg e]
  have:([(k,i)].find? fun p=>p.1==q)=none:=by
   rw[atN];intro p hp
   rw[aiy.1 hp,beq_iff_eq];exact fun h=>e h.symm
  rw[this,Option.or_none]
def zm (c:aJ) (F:List Int):Prop:=F.Pairwise fun a b=>qM (fu c b) (fu c a)=false
theorem aeK {c:aJ}:∀(l out:List Int),zm c out→zm c (l.foldl (l6 c) out)
 | [],_,h=>h
 | i :: l,out,h=>by
  refine aeK l _ ?_
  unfold l6
  split
  ·rename_i h1
   unfold zm
   rw[aub]
   refine ⟨h,List.pairwise_singleton _ _,fun a ha b hb=>?_⟩
   rw[aiy.1 hb]
   rw[ak7] at h1
   simpa using h1 a ha
  ·exact h
theorem ah2 (c:aJ) (l:List Int):zm c (aaB c l):=aeK l [] List.Pairwise.nil
theorem ak6 (c:aJ) (F:List Int):(gZ c F).map (·.1)=F.flatMap (fu c):=by
 unfold gZ
 induction F with
 | nil=>rfl
 | cons i F ih=>rw[auz,auz,asG,ih];congr 1;unfold nK;rw[List.map_map];exact List.map_id _
theorem aeO {c:aJ}:∀{F:List Int},zm c F→(∀i∈F,(fu c i).Nodup)→(F.flatMap (fu c)).Nodup
 | [],_,_=>atz
 | i :: F,h,hn=>by
  rw[auz,atH]
  have h':=at0.1 h
  refine ⟨hn i (by simp),aeO h'.2 fun j hj=>hn j (by simp[hj]),fun x hx y hy e=>?_⟩
  subst e
  obtain ⟨j,hj,hy⟩:=at7.1 hy
  exact aqj (h'.1 j hj) hy hx
theorem aeb {c:aJ} {F:List Int} {k i:Int}:(k,i)∈gZ c F↔i∈F∧k∈fu c i:=by
 unfold gZ
 rw[at7]
 constructor
 ·rintro ⟨j,hj,h⟩
  unfold nK at h
  obtain ⟨x,hx,e⟩:=asJ.1 h
  cases e
  exact ⟨hj,hx⟩
 ·rintro ⟨h1,h2⟩
  exact ⟨i,h1,asJ.2 ⟨k,h2,rfl⟩⟩
theorem ajw {c:aJ} {F:List Int} (h:((gZ c F).map (·.1)).Nodup) {k i:Int} (h1:i∈F) (h2:k∈fu c i):fV (gZ c F) k=some i:=amC h (aeb.2 ⟨h1,h2⟩)
def lQ (c:aJ) (F:List Int) (j q:Nat):Own:=gZ c (F.take j)++(nK c (F.getD j 0)).take q
theorem ajL (c:aJ) (F:List Int) (j:Nat):lQ c F j 0=gZ c (F.take j):=by unfold lQ;rw[List.take_zero,arD]
theorem ajc {c:aJ} {i:Int} {q:Nat} (h:q<(fu c i).length):(nK c i).getD q (0,0)=((fu c i).getD q 0,i):=by
 unfold nK
 rw[abo,ajs,abn h,abo,abn h];rfl
theorem aj3 {c:aJ} {F:List Int} {j q:Nat} (h:q<(fu c (F.getD j 0)).length):lQ c F j (q+1)=lQ c F j q++[((fu c (F.getD j 0)).getD q 0,F.getD j 0)]:=by
 unfold lQ
 rw[aQ (0,0) (by unfold nK;rw[amo];exact h),ajc h,atl]
theorem acZ {c:aJ} {F:List Int} {j:Nat} (h:j<F.length):lQ c F j (fu c (F.getD j 0)).length=gZ c (F.take (j+1)):=by
 have e:(nK c (F.getD j 0)).take (fu c (F.getD j 0)).length=nK c (F.getD j 0):=atr (by unfold nK;rw[amo];exact aha _)
 unfold lQ
 rw[e,aQ 0 h]
 unfold gZ
 rw[auf];simp
theorem amd (c:aJ) (F:List Int) (j:Nat):∃t,gZ c F=gZ c (F.take j)++t:=by
 refine ⟨gZ c (F.drop j),?_⟩
 unfold gZ
 rw[←auf,ato]
theorem alW {c:aJ} {F:List Int} (hn:((gZ c F).map (·.1)).Nodup) {j q:Nat} (hj:j<F.length) (hq:q<(fu c (F.getD j 0)).length):fV (lQ c F j q) ((fu c (F.getD j 0)).getD q 0)=none:=by
 obtain ⟨t,ht⟩:=amd c F (j+1)
 rw[ht,←acZ hj,asG,atH] at hn
 have h1:=hn.1
 have e:lQ c F j (fu c (F.getD j 0)).length=lQ c F j q++(((fu c (F.getD j 0)).getD q 0,F.getD j 0) :: (nK c (F.getD j 0)).drop (q+1)):=by
  unfold lQ
  rw[atl]
  congr 1
  have hl:q<(nK c (F.getD j 0)).length:=by unfold nK;rw[amo];exact hq
  rw[←ajc hq,atr (by unfold nK;rw[amo];exact aha _)]
  have:(nK c (F.getD j 0)).getD q (0,0)=(nK c (F.getD j 0))[q]:=by rw[abo,abn hl];rfl
  rw[this,←aoN hl,ato]
 rw[e,asG,atH] at h1
 refine aff fun p hp e=>?_
 exact h1.2.2 _ (asJ.2 ⟨p,hp,e⟩) _ (by rw[aoM];exact aoP ..) rfl
def lI (O:Own) (i k:Int):Bool:=match fV O k with
 | some t=>decide (t≤i)
 | none=>false
theorem af7 {c:aJ}:∀(l out:List Int),∃t,l.foldl (l6 c) out=out++t
 | [],out=>⟨[],(arD _).symm⟩
 | i :: l,out=>by
  obtain ⟨t,ht⟩:=af7 l (l6 c out i)
  rw[asL,ht]
  unfold l6
  split
  ·exact ⟨[i]++t,by rw[atl]⟩
  ·exact ⟨t,rfl⟩
theorem ae5 {c:aJ}:∀(l out:List Int),l.Pairwise (·<·)→(∀a∈out,∀b∈l,a<b)→∀i∈l,i∈l.foldl (l6 c) out∨∃j∈l.foldl (l6 c) out,j<i∧qM (fu c i) (fu c j)=true
 | [],_,_,_,i,hi=>by cases hi
 | x :: l,out,hp,ho,i,hi=>by
  have hp':=at0.1 hp
  rw[asL]
  obtain ⟨t,ht⟩:=af7 (c:=c) l (l6 c out x)
  rcases ai0.1 hi with rfl | hi
  ·by_cases h:(out.all fun k=>!qM (fu c i) (fu c k))=true
   ·left
    rw[ht]
    refine aua _ ?_
    unfold l6;rw[if_pos h];simp
   ·right
    have h2:∃j∈out,qM (fu c i) (fu c j)=true:=by
     rw[Bool.not_eq_true,ar2] at h
     obtain ⟨j,hj,h⟩:=h
     exact ⟨j,hj,by simpa using h⟩
    obtain ⟨j,hj,h2⟩:=h2
    refine ⟨j,?_,ho j hj i (by simp),h2⟩
    rw[ht]
    refine aua _ ?_
    unfold l6;rw[if_neg h];exact hj
  ·refine ae5 l (l6 c out x) hp'.2 (fun a ha b hb=>?_) i hi
   unfold l6 at ha
   split at ha
   ·rcases ahN.1 ha with ha | ha
    ·exact ho a ha b (by simp[hb])
    ·rw[aiy.1 ha];exact hp'.1 b hb
   ·exact ho a ha b (by simp[hb])
theorem abD (p:Nat→Bool):∀n,(dD p n).Pairwise (·<·)
 | 0=>List.Pairwise.nil
 | n+1=>by
  rw[dD]
  split
  ·rw[aub]
   refine ⟨abD p n,List.pairwise_singleton _ _,fun a ha b hb=>?_⟩
   obtain ⟨i,h1,h2,_⟩:=qQ ha
   rw[aiy.1 hb];omega
  ·exact abD p n
theorem amJ {c:aJ} {l:List Int} (hl:l.Pairwise (·<·)) (hn:((gZ c (aaB c l)).map (·.1)).Nodup) (hf:∀i∈l,0<(fu c i).length) {i:Int} (hi:i∈l):((fu c i).any fun k=>lI (gZ c (aaB c l)) i k)=true:=by
 rcases ae5 (c:=c) l [] hl (fun a ha=>by cases ha) i hi with h | ⟨j,hj,hji,hs⟩
 ·have h0:=hf i hi
  have hk:(fu c i).getD 0 0∈fu c i:=adh (bI 0 h0)
  refine atj.2 ⟨_,hk,?_⟩
  unfold lI
  rw[ajw hn h hk]
  exact decide_eq_true (Int.le_refl _)
 ·obtain ⟨k,hk1,hk2⟩:=anG hs
  refine atj.2 ⟨k,hk1,?_⟩
  unfold lI
  rw[ajw hn hj hk2]
  exact decide_eq_true (Int.le_of_lt hji)
def rW (T:List Int) (k:Int):List Int:=if fB T k then T else T++[k]
def qj (c:aJ) (i:Int):List Int:=(c.trs.getD i.toNat aF).to
def nQ (c:aJ) (F:List Int):List Int:=F.foldl (fun T i=>(qj c i).foldl rW T) []
theorem amR {T:List Int} {k x:Int}:x∈rW T k↔x∈T∨x=k:=by
 unfold rW
 split
 ·rename_i h
  exact ⟨.inl,fun h1=>h1.elim id fun e=>by rw[e];exact oL.1 h⟩
 ·rw[ahN,aiy]
theorem ahx:∀{l T:List Int} {x:Int},x∈l.foldl rW T↔x∈T∨x∈l
 | [],T,x=>by simp
 | k :: l,T,x=>by
  rw[asL,ahx,amR,ai0,or_assoc]
theorem agh {c:aJ}:∀{F T:List Int} {x:Int},x∈F.foldl (fun T i=>(qj c i).foldl rW T) T↔x∈T∨∃i∈F,x∈qj c i
 | [],T,x=>by simp
 | i :: F,T,x=>by
  rw[asL,agh,ahx,or_assoc]
  simp only[ai0,exists_eq_or_imp]
theorem apl {c:aJ} {F:List Int} {x:Int}:x∈nQ c F↔∃i∈F,x∈qj c i:=by
 unfold nQ;rw[agh];simp
theorem ana (c:aJ) (F:List Int) (i:Int):nQ c (F++[i])=(qj c i).foldl rW (nQ c F):=by unfold nQ;rw[asK];rfl
theorem amy (T l:List Int) (k:Int):(l++[k]).foldl rW T=rW (l.foldl rW T) k:=by rw[asK];rfl
theorem alK {c:aJ} {n:Nat} {k:Nat}:∀{F:List Int} {m:List Bool},m.length=n→(∀i∈F,fU n (qj c i))→k<n→fA (gV c m F) (k:Int)=(fA m (k:Int)||decide (∃i∈F,(k:Int)∈qj c i))
 | [],m,_,_,_=>by simp[gV]
 | i :: F,m,hm,h,hk=>by
  show fA (gV c (bH m (qj c i) true) F) (k:Int)=_
  rw[alK (by rw[dR];exact hm) (fun j hj=>h j (by simp[hj])) hk]
  have h1:fA (bH m (qj c i) true) (k:Int)=(fA m (k:Int)||decide ((k:Int)∈qj c i)):=by
   unfold fA
   rw[arZ,ak0 _ _ _ (by rw[hm];exact hk)]
   have e:((qj c i).any fun x=>x.toNat==k)=decide ((k:Int)∈qj c i):=by
    rw[aqR,atj,decide_eq_true_iff]
    constructor
    ·rintro ⟨x,hx,e⟩
     have:=h i (by simp) x hx
     have e:=beq_iff_eq.1 e
     rw[show (k:Int)=x by omega];exact hx
    ·intro hx;exact ⟨_,hx,by rw[arZ];exact beq_self_eq_true k⟩
   rw[e]
   by_cases e:(k:Int)∈qj c i
   ·rw[if_pos (decide_eq_true e),decide_eq_true e,Bool.or_true]
   ·rw[if_neg (by rw[decide_eq_false e];decide),decide_eq_false e,atQ]
  rw[h1,Bool.or_assoc]
  congr 1
  rw[aqR,aqK,decide_eq_true_iff,decide_eq_true_iff,decide_eq_true_iff]
  simp only[ai0,exists_eq_or_imp]
theorem aoo {c:aJ} {F:List Int} {a:List Bool} (ha:∀i∈F,fU a.length (fu c i)∧fU a.length (qj c i)) {k:Nat} (hk:k<a.length) :
  fA (mD c a F) (k:Int)=(fB (nQ c F) (k:Int)||(fA a (k:Int)&&(fV (gZ c F) (k:Int)).isNone)):=by
 unfold mD
 rw[alK (pI _ _ _) (fun i hi=>(ha i hi).2) hk,sM (abq _) (fun i hi x hx=>((ha i hi).1 x hx).1),Bool.or_comm]
 have e1:fB (nQ c F) (k:Int)=decide (∃i∈F,(k:Int)∈qj c i):=by
  rw[aqR,decide_eq_true_iff,oL,apl]
 have e2:(fV (gZ c F) (k:Int)).isNone=F.all fun i=>!fB (fu c i) (k:Int):=by
  rw[aqR,ak7]
  constructor
  ·intro h i hi
   rw[Option.isNone_iff_eq_none] at h
   rw[aoW]
   cases h2:fB (fu c i) (k:Int) with
   | false=>rfl
   | true=>exact absurd rfl (aps h _ (aeb.2 ⟨hi,oL.1 h2⟩))
  ·intro h
   rw[Option.isNone_iff_eq_none]
   refine aff fun p hp e=>?_
   have:=aeb.1 (show (p.1,p.2)∈gZ c F from hp)
   have h2:=h _ this.1
   rw[←e,oL.2 this.2] at h2
   cases h2
 rw[e1,e2]
theorem agn (c:aJ) (a:List Bool) (l:List Int):(mD c a l).length=a.length:=by unfold mD;rw[vF,pI]
def aqQ:Spec:=fnG (fun a:aJ×List Bool×List Bool=>[jJ a.1,ql a.2.1,ql a.2.2]) (fun _=>True) (fun _=>bP true)
def yY (O:Own):MK→Option PV
 | .int k=>(fV O k).map iP
 | _=>none
def ahp (O:Own):Ob:=.map (.int .i64) O.length (yY O)
theorem aou:yY []=fun _=>none:=funext fun k=>by cases k<;>rfl
theorem amX {O:Own} {k i:Int} (h:fV O k=none) (q:MK):l5 (yY O) (.int k) (iP i) q=yY (O++[(k,i)]) q:=by
 classical
 unfold l5
 cases q with
 | int j=>
  show _=(fV (O++[(k,i)]) j).map iP
  rw[ala h]
  by_cases e:j=k
  ·subst e;rw[if_pos rfl,if_pos rfl];rfl
  ·rw[if_neg e,if_neg (fun h=>e (by cases h;rfl))];rfl
 | bools b=>rw[if_neg (by intro h;cases h)];rfl
 | str a=>rw[if_neg (by intro h;cases h)];rfl
theorem alB (O:Own) (k:Int) (d:PV) (h:yY O (.int k)=some d):d=iP ((fV O k).getD 0)∧(fV O k).isSome=true:=by
 have h:(fV O k).map iP=some d:=h
 cases e:fV O k with
 | none=>rw[e] at h;cases h
 | some t=>rw[e] at h;cases h;exact ⟨rfl,rfl⟩
theorem amk (O:Own) (k:Int) (h:yY O (.int k)=none):iP ((fV O k).getD 0)=.val (.int .i64 0)∧(fV O k).isSome=false:=by
 have h:(fV O k).map iP=none:=h
 cases e:fV O k with
 | none=>exact ⟨rfl,rfl⟩
 | some t=>rw[e] at h;cases h
theorem aqV:aL Tryz.prog 50 { A:=Own×Int×Int,args:=fun a=>[iA a.2.2,.own 0 0,.own 1 0],objs:=fun a=>[.cells 100 [.mp 2],.cells 3 [iA a.2.1],ahp a.1],pre:=fun _=>True,res:=fun a=>bP (lI a.1 a.2.1 a.2.2),objs':=fun _=>[],fresh:=true,ro:=3 }:=by
 refine aY (Tb:=tab) mixed aB Tryz.func50 rfl rfl ?_
 rintro ⟨O,i,k⟩ hpre
 refine ai (ai rfl (ai rfl rfl)) ?_
 cases e:fV O k with
 | none=>
  have e1:lI O i k=false:=by unfold lI;rw[e]
  refine ai (ai rfl rfl) (ei (iP 0) (ei false (ai (ai (fun d h=>?_) (fun _=>⟨rfl,rfl⟩)) ?_)))
  ·have h:(fV O k).map iP=some d:=h
   rw[e] at h;cases h
  refine ai (ai (fun _=>trivial) ?_) trivial
  show ak _ (bP (lI O i k))
  rw[e1]
  exact rfl
 | some t=>
  have e1:lI O i k=decide (t≤i):=by unfold lI;rw[e]
  refine ai (ai rfl rfl) (ei (iP t) (ei true (ai (ai (fun d h=>?_) (fun h=>?_)) ?_)))
  ·have h:(fV O k).map iP=some d:=h
   rw[e] at h;cases h;exact ⟨rfl,rfl⟩
  ·have h:(fV O k).map iP=none:=h
   rw[e] at h;cases h
  refine ai (ai (fun _=>trivial) ?_) trivial
  show ak _ (bP (lI O i k))
  rw[e1]
  exact rfl
def alv (a:Own×Int×List Int):Prop:=a.2.2.length≤1000000
theorem ap1:aL Tryz.prog 106 { A:=Own×Int×List Int,args:=fun a=>[isA a.2.2,.fn 50 [.own 0 0,.own 1 0]],objs:=fun a=>[.cells 100 [.mp 2],.cells 3 [iA a.2.1],ahp a.1],pre:=alv,res:=fun a=>iP (jw (fun k=>lI a.1 a.2.1 k) a.2.2),objs':=fun _=>[],fresh:=true,ro:=3 }:=by
 refine aY (Tb:=tab) mixed aB Tryz.func106 rfl rfl ?_
 rintro ⟨O,i,l⟩ hpre
 refine ai (ai rfl (ai rfl rfl)) ?_
 have hl:l.length≤1000000:=hpre
 refine ei (bE.inv { X:=Nat,up:=fun k=>[(8,.s (iA k))],uo:=fun k=>[],inv:=fun k=>k≤l.length∧(∀y∈l.take k,lI O i y=false),meas:=fun k=>l.length-k,x0:=0 }) ?_
 refine ai (ai (ai (by exact (a4 (ai rfl rfl))) (ai (by exact (ai (ai (fun _=>rfl) (iE (by simp only[zz,reduceCtorEq];rfl))) rfl)) (by exact trivial))) rfl) (ai (ai (afc _) ?_) ?_)
 ·exact fun y hy=>absurd hy (by simp)
 intro (k:Nat) ⟨hk,hall⟩
 refine ah (p:=k<l.length) (au (by dsimp only;omega)) (fun h1=>?_) (fun h1=>?_)
 ·refine ai (ai (abq _) (iN (n:=l.length) (by omega))) (ai rfl ?_)
  refine ei _ (ai (aqV) (ei ((O,i,l.getD k 0)) (ei [0,1,2] (ai (a4 (ai (fun _=>Or.inl rfl) (ai nof (Or.inl rfl)))) (ai (by exact (ai (iE (by simp only[zz,reduceCtorEq])) (ai (ai rfl rfl) (ai rfl rfl)))) (ai (by exact (ai (ai rfl rfl) (ai (ai rfl rfl) (ai rfl (ai rfl (fun _=>rfl)))))) (ai (trivial) ?_)))))))
  refine aX (b:=lI O i (l.getD k 0)) rfl (fun h2=>?_) (fun h2=>?_)
  ·refine ai (ai (fun _=>trivial) ?_) trivial
   show ak _ (iP (jw (fun k=>lI O i k) l))
   rw[qJ (d:=0) h1 h2 hall]
   exact rfl
  refine ei (k+1) (ai (ai rfl rfl) (ai (ai (ai rfl (ai (ai rfl rfl) (ai (ai rfl rfl) (ai (ai (ai (fun _=>rfl) (aP (by omega))) rfl) trivial)))) rfl) (ai (ai (iL (by omega)) ?_) (iM (by omega)))))
  intro y hy
  rw[aQ 0 h1] at hy
  rcases ahN.1 hy with hy | hy
  ·exact hall y hy
  ·simp only[aiy] at hy;subst hy;exact h2
 ·obtain rfl:k=l.length:=by omega
  rw[ahb] at hall
  refine ai (ai (fun _=>trivial) ?_) trivial
  show ak _ (iP (jw (fun k=>lI O i k) l))
  rw[tC hall]
  exact rfl
theorem aqi:aL Tryz.prog 38 { A:=Own×Int×List Int,args:=fun a=>[isA a.2.2,.fn 50 [.own 0 0,.own 1 0]],objs:=fun a=>[.cells 100 [.mp 2],.cells 3 [iA a.2.1],ahp a.1],pre:=alv,res:=fun a=>bP (a.2.2.any fun k=>lI a.1 a.2.1 k),objs':=fun _=>[],fresh:=true,ro:=3 }:=by
 refine aY (Tb:=tab) mixed aB Tryz.func38 rfl rfl ?_
 rintro ⟨O,i,l⟩ hpre
 refine ai (ai rfl (ai rfl rfl)) ?_
 refine ei _ (ai (ap1) (ei ((O,i,l)) (ei [0,1,2] (ai (a4 (ai (fun _=>Or.inl rfl) (ai nof (Or.inl rfl)))) (ai (by exact (ai (ai rfl (fun _ _=>rfl)) (ai rfl (ai (ai rfl rfl) (ai rfl rfl))))) (ai (by exact (ai (ai rfl rfl) (ai (ai rfl rfl) (ai rfl (ai rfl (fun _=>rfl)))))) (ai (hpre) ?_)))))))
 refine ai (ai (fun _=>trivial) ?_) trivial
 show ak _ (bP (l.any fun k=>lI O i k))
 rw[(qz (fun k=>lI O i k) l).symm]
 exact rfl
theorem anf {c:aJ} {a v:List Bool} (hv:jl c a v=0):(∀i∈dD (pE c a v) c.trs.length,∃j:Nat,j<c.trs.length∧i=(j:Int))∧∀i∈lW c a v,i∈dD (pE c a v) c.trs.length:=by
 refine ⟨fun i hi=>?_,fun i hi=>?_⟩
 ·obtain ⟨j,h1,h2,_⟩:=qQ hi;exact ⟨j,h1,h2⟩
 ·rcases (wO c (dD (pE c a v) c.trs.length) []).2 i hi with h | h
  ·cases h
  ·exact h
set_option maxHeartbeats 16000000 in
theorem ajV:aL Tryz.prog 9 aqQ:=by
 refine aY (Tb:=tab) mixed aB Tryz.func9 rfl rfl ?_
 rintro ⟨c,a,v⟩ hpre
 refine ai (ai rfl (ai rfl rfl)) ?_
 refine ei _ (ai (aon) (ei (c) (ei [] (ai (a4 (ai (fun _=>Or.inl rfl) (ai nof (Or.inl rfl)))) (ai (by exact (ai rfl (ai (ai rfl (fun _ _=>rfl)) (ai (ai rfl (fun _ _=>rfl)) (ai rfl (fun _ _=>rfl)))))) (ai trivial (ai (trivial) ?_)))))))
 refine aX (b:=!jA c) rfl (fun h=>?_) (fun h=>?_)
 ·refine ei _ (ai (p8) (ei (()) (ei [] (ai (a4 (ai (fun _=>Or.inl rfl) (ai nof (Or.inr rfl)))) (ai (by exact trivial) (ai trivial (ai (trivial) ?_)))))))
  refine ai (ai (fun _=>trivial) ?_) trivial
  exact rfl
 have h:jA c=true:=by simpa using h
 obtain ⟨ho,hf,_⟩:=apf h
 refine ei _ (ai (ad6) (ei (c) (ei [] (ai (a4 (ai (fun _=>Or.inl rfl) (ai nof (Or.inl rfl)))) (ai (by exact (ai rfl (ai (ai rfl (fun _ _=>rfl)) (ai (ai rfl (fun _ _=>rfl)) (ai rfl (fun _ _=>rfl)))))) (ai trivial (ai (ho) ?_)))))))
 refine bg (p:=bD c=0) (bK (by omega)) (fun hc=>?_) (fun hc=>?_)
 ·refine ei _ (ai (p8) (ei (()) (ei [] (ai (a4 (ai (fun _=>Or.inl rfl) (ai nof (Or.inr rfl)))) (ai (by exact trivial) (ai trivial (ai (trivial) ?_)))))))
  refine ai (ai (fun _=>trivial) ?_) trivial
  exact rfl
 refine bg (p:=a.length=c.sts.length) (bK (by dsimp only;omega)) (fun ha=>?_) (fun ha=>?_)
 ·refine ei _ (ai (p8) (ei (()) (ei [] (ai (a4 (ai (fun _=>Or.inl rfl) (ai nof (Or.inr rfl)))) (ai (by exact trivial) (ai trivial (ai (trivial) ?_)))))))
  refine ai (ai (fun _=>trivial) ?_) trivial
  exact rfl
 refine ei _ (ai (afI) (ei (c) (ei [] (ai (a4 (ai (fun _=>Or.inl rfl) (ai nof (Or.inl rfl)))) (ai (by exact (ai rfl (ai (ai rfl (fun _ _=>rfl)) (ai (ai rfl (fun _ _=>rfl)) (ai rfl (fun _ _=>rfl)))))) (ai trivial (ai (ado hc) ?_)))))))
 refine bg (p:=(v.length:Int)=jR c) (bK (by dsimp only;omega)) (fun hv=>?_) (fun hv=>?_)
 ·refine ei _ (ai (p8) (ei (()) (ei [] (ai (a4 (ai (fun _=>Or.inl rfl) (ai nof (Or.inr rfl)))) (ai (by exact trivial) (ai trivial (ai (trivial) ?_)))))))
  refine ai (ai (fun _=>trivial) ?_) trivial
  exact rfl
 have g0:lK c a=0:=by unfold lK;rw[if_neg (fun h=>h hc),if_neg (fun h=>h ha)]
 have hg:jl c a v=0:=by unfold jl;rw[if_neg (fun h=>h g0),if_neg (fun h=>h hv)]
 obtain ⟨_,_,⟨hs0,hs24⟩,h32,_⟩:=gL hc
 obtain ⟨z,hz⟩:∃z:Int,z=0:=⟨0,rfl⟩
 refine ei _ (ai (aaY) (ei (c) (ei [] (ai (a4 (ai (fun _=>Or.inl rfl) (ai nof (Or.inl rfl)))) (ai (by exact (ai rfl (ai (ai rfl (fun _ _=>rfl)) (ai (ai rfl (fun _ _=>rfl)) (ai rfl (fun _ _=>rfl)))))) (ai trivial (ai (hf) ?_)))))))
 refine ei _ (ai ((jc akN (c,a,v) ho (r:=.tup [jD (dD (pE c a v) c.trs.length),iP z]) (by show abJ c a v=_;unfold abJ ako;rw[if_pos hg,hg,hz]))) (ei (()) (ei [] (ai (a4 (ai (fun _=>Or.inl rfl) (ai nof (Or.inl rfl)))) (ai (by exact (ai (ai rfl (ai (ai rfl (fun _ _=>rfl)) (ai (ai rfl (fun _ _=>rfl)) (ai rfl (fun _ _=>rfl))))) (ai (ai rfl (fun _ _=>rfl)) (ai rfl (fun _ _=>rfl))))) (ai trivial (ai (trivial) ?_)))))))
 refine ei _ (ai (aaY) (ei (c) (ei [] (ai (a4 (ai (fun _=>Or.inl rfl) (ai nof (Or.inl rfl)))) (ai (by exact (ai rfl (ai (ai rfl (fun _ _=>rfl)) (ai (ai rfl (fun _ _=>rfl)) (ai rfl (fun _ _=>rfl)))))) (ai trivial (ai (hf) ?_)))))))
 refine ei _ (ai ((jc ao8 (c,a,v) ho (r:=.tup [kJ (mD c a (lW c a v)),jD (lW c a v),iP z]) (by show sZ c a v=_;rw[ajH];unfold af8;rw[if_pos hg,hz]))) (ei (()) (ei [] (ai (a4 (ai (fun _=>Or.inl rfl) (ai nof (Or.inl rfl)))) (ai (by exact (ai (ai rfl (ai (ai rfl (fun _ _=>rfl)) (ai (ai rfl (fun _ _=>rfl)) (ai rfl (fun _ _=>rfl))))) (ai (ai rfl (fun _ _=>rfl)) (ai rfl (fun _ _=>rfl))))) (ai trivial (ai (trivial) ?_)))))))
 obtain ⟨hall,hin⟩:=anf hg
 have hasc:=abD (pE c a v) c.trs.length
 have hll:=xQ (pE c a v) c.trs.length
 have hE:lW c a v=aaB c (dD (pE c a v) c.trs.length):=rfl
 have hap:=ah2 c (dD (pE c a v) c.trs.length)
 have hfl:(lW c a v).length≤(dD (pE c a v) c.trs.length).length:=by
  have h:(lW c a v).length≤0+(dD (pE c a v) c.trs.length).length:=(wO c (dD (pE c a v) c.trs.length) []).1
  omega
 rw[←hE] at hap
 have hpl:∀i∈dD (pE c a v) c.trs.length,eX c.sts.length (fu c i)=0∧eX c.sts.length (qj c i)=0:=fun i hi=>by
  obtain ⟨j,hj,rfl⟩:=hall i hi
  exact apb hc hj
 have hix:∀i∈dD (pE c a v) c.trs.length,fU a.length (fu c i)∧fU a.length (qj c i):=fun i hi=>by
  obtain ⟨j,hj,rfl⟩:=hall i hi
  obtain ⟨q1,q2,_⟩:=kM hc hj
  rw[ha]
  exact ⟨q1.2,q2.2⟩
 have hlt:∀i∈dD (pE c a v) c.trs.length,(fu c i).length≤1000000∧(qj c i).length≤1000000:=fun i hi=>by
  obtain ⟨j,hj,rfl⟩:=hall i hi
  have:=qI ho hj
  exact ⟨this.1,this.2.1⟩
 have hnd:((gZ c (lW c a v)).map (·.1)).Nodup:=by
  rw[ak6]
  exact aeO hap fun i hi=>akR (hpl i (hin i hi)).1
 have htk:∀i∈dD (pE c a v) c.trs.length,((fu c i).any fun k=>lI (gZ c (lW c a v)) i k)=true:=fun i hi=>by
  rw[hE] at hnd ⊢
  exact amJ hasc hnd (fun j hj=>apY (hpl j hj).1) hi
 have hnb:=fun k hk=>aoo (c:=c) (F:=lW c a v) (a:=a) (fun i hi=>hix i (hin i hi)) (k:=k) hk
 clear hE hap
 generalize dD (pE c a v) c.trs.length=all at *
 generalize lW c a v=F at *
 refine aX (b:=false) (by simp only[hz,Int.add_zero,ags];rfl) (fun h=>absurd h (by decide)) (fun _=>?_)
 refine aX (b:=false) (by simp only[hz,Int.add_zero,ags];rfl) (fun h=>absurd h (by decide)) (fun _=>?_)
 refine aX (b:=false) (by show ((((mD c a F).length:Nat):Int) != ((a.length:Nat):Int))=false;rw[agn];simp) (fun h=>absurd h (by decide)) (fun _=>?_)
 have hal:=agn c a F
 refine ei (bE.inv { X:=Nat,up:=fun j=>[(87,.s (iA j))],uo:=fun j=>[⟨1,0,[.ob (ahp (gZ c (F.take j)))]⟩,⟨2,0,[.ob (aqD (nQ c (F.take j)))]⟩],inv:=fun j=>j≤F.length∧(True),meas:=fun j=>F.length-j,x0:=0 }) ?_
 refine ai (ai (ai (by exact (a4 (ai rfl rfl))) (ai ?_ ?_)) rfl) (ai (ai (afc _) ?_) ?_)
 ·exact (ai (ai (fun _=>rfl) (iE (by simp only[zz,reduceCtorEq];rfl))) rfl)
 ·refine (ai (ai rfl (ai rfl ?_)) (ai (ai rfl (ai rfl ?_)) trivial))
  ·exact fun k=>by show _=yY [] k;rw[aou]
  ·exact fun k=>by show _=wP [] k;rw[ani]
 ·trivial
 intro (j:Nat) ⟨hj,_⟩
 refine ah (p:=j<F.length) (au (by omega)) (fun h1=>?_) (fun h1=>?_)
 ·refine ai (ai (abq _) (iN (n:=F.length) (by omega))) (ai rfl ?_)
  have hi:=hin _ (adh (bI 0 h1))
  obtain ⟨n,hn,hni⟩:=hall _ hi
  have hx0:0≤F.getD j 0∧F.getD j 0<(c.trs.length:Int):=by omega
  refine aX (b:=false) (by show decide (F.getD j 0<0)=false;exact decide_eq_false (by omega)) (fun h=>absurd h (by decide)) (fun _=>?_)
  refine aX (b:=false) (by show decide (((c.trs.length:Nat):Int)≤F.getD j 0)=false;exact decide_eq_false (by omega)) (fun h=>absurd h (by decide)) (fun _=>?_)
  refine ei _ (ai (aix) (ei ((all,F.getD j 0)) (ei [] (ai (a4 (ai (fun _=>Or.inl rfl) (ai nof (Or.inl rfl)))) (ai (by exact (ai (ai rfl (fun _ _=>rfl)) (iE (by simp only[zz,reduceCtorEq])))) (ai trivial (ai ((by show all.length≤1000000;omega)) ?_)))))))
  refine aX (b:=false) (by show (!fB all (F.getD j 0))=false;rw[oL.2 hi];rfl) (fun h=>absurd h (by decide)) (fun _=>?_)
  refine ai hx0 ?_
  refine ai rfl ?_
  have hlf:=hlt _ hi
  have hl1:(c.trs.getD (F.getD j 0).toNat aF).fr.length≤1000000:=hlf.1
  have hl2:(c.trs.getD (F.getD j 0).toNat aF).to.length≤1000000:=hlf.2
  refine ei (bE.inv { X:=Nat,up:=fun q=>[(113,.s (iA q))],uo:=fun q=>[⟨1,0,[.ob (ahp (lQ c F j q))]⟩],inv:=fun q=>q≤(c.trs.getD (F.getD j 0).toNat aF).fr.length∧(True),meas:=fun q=>(c.trs.getD (F.getD j 0).toNat aF).fr.length-q,x0:=0 }) ?_
  refine ai (ai (ai (by exact (a4 (ai rfl rfl))) (ai ?_ ?_)) rfl) (ai (ai (afc _) ?_) ?_)
  ·exact (ai (ai (fun _=>rfl) (iE (by simp only[zz,reduceCtorEq];rfl))) rfl)
  ·refine (ai (ai rfl (ai ?_ ?_)) trivial)
   all_goals rw[ajL]
   exact fun _=>rfl
  ·trivial
  intro (q:Nat) ⟨hq,_⟩
  refine ah (p:=q<(c.trs.getD (F.getD j 0).toNat aF).fr.length) (by simp only[zz,reduceCtorEq];omega) (fun h2=>?_) (fun h2=>?_)
  ·refine ai (ai (abq _) (iN (n:=(c.trs.getD (F.getD j 0).toNat aF).fr.length) (by omega))) (ai rfl ?_)
   have hno:=alW hnd h1 (q:=q) h2
   have hsu:=aj3 (c:=c) (F:=F) (j:=j) (q:=q) h2
   have hnG:yY (lQ c F j q) (.int ((fu c (F.getD j 0)).getD q 0))=none:=by show (fV _ _).map iP=none;rw[hno];rfl
   refine ai (ai rfl rfl) (ei (iP 0) (ei false (ai (ai (fun d h=>absurd (hnG.symm.trans h) (by simp)) (fun _=>⟨rfl,rfl⟩)) ?_)))
   refine ai rfl (ei ((lQ c F j q).length+1) (ai (ai (fun _=>rfl) (fun d h=>absurd (hnG.symm.trans h) (by simp))) ?_))
   refine ei (q+1) (ai (ai rfl rfl) (ai (ai (ai rfl (ai (ai rfl rfl) (ai (ai rfl rfl) (ai (ai (ai (fun _=>rfl) (aP (by omega))) rfl) (ai (ai rfl (ai ?_ ?_)) trivial))))) rfl) (ai (ai (iL (by omega)) trivial) (iM (by omega)))))
   ·rw[hsu,aaf];rfl
   ·rw[hsu];exact amX hno
  obtain rfl:q=(c.trs.getD (F.getD j 0).toNat aF).fr.length:=by omega
  have hfu:lQ c F j (c.trs.getD (F.getD j 0).toNat aF).fr.length=gZ c (F.take (j+1)):=acZ h1
  rw[hfu]
  refine ai hx0 ?_
  refine ai rfl ?_
  have hts:nQ c (F.take (j+1))=(c.trs.getD (F.getD j 0).toNat aF).to.foldl rW (nQ c (F.take j)):=by rw[aQ 0 h1,ana];rfl
  refine ei (bE.inv { X:=Nat,up:=fun q=>[(135,.s (iA q))],uo:=fun q=>[⟨2,0,[.ob (aqD (((c.trs.getD (F.getD j 0).toNat aF).to.take q).foldl rW (nQ c (F.take j))))]⟩],inv:=fun q=>q≤(c.trs.getD (F.getD j 0).toNat aF).to.length∧(True),meas:=fun q=>(c.trs.getD (F.getD j 0).toNat aF).to.length-q,x0:=0 }) ?_
  refine ai (ai (ai (by exact (a4 (ai rfl rfl))) (ai ?_ ?_)) rfl) (ai (ai (afc _) ?_) ?_)
  ·exact (ai (ai (fun _=>rfl) (iE (by simp only[zz,reduceCtorEq];rfl))) rfl)
  ·exact (ai (ai rfl (ai rfl (fun _=>rfl))) trivial)
  ·trivial
  intro (q:Nat) ⟨hq,_⟩
  refine ah (p:=q<(c.trs.getD (F.getD j 0).toNat aF).to.length) (by simp only[zz,reduceCtorEq];omega) (fun h2=>?_) (fun h2=>?_)
  ·refine ai (ai (abq _) (iN (n:=(c.trs.getD (F.getD j 0).toNat aF).to.length) (by omega))) (ai rfl ?_)
   have hsu:=amy (nQ c (F.take j)) ((c.trs.getD (F.getD j 0).toNat aF).to.take q) ((c.trs.getD (F.getD j 0).toNat aF).to.getD q 0)
   rw[←aQ 0 h2] at hsu
   refine ai rfl (ei (vS (((c.trs.getD (F.getD j 0).toNat aF).to.take q).foldl rW (nQ c (F.take j))) ((c.trs.getD (F.getD j 0).toNat aF).to.getD q 0)).length (ai (ai am0 (fun _=>anR)) ?_))
   refine ei (q+1) (ai (ai rfl rfl) (ai (ai (ai rfl (ai (ai rfl rfl) (ai (ai rfl rfl) (ai (ai (ai (fun _=>rfl) (aP (by omega))) rfl) (ai (ai rfl (ai ?_ ?_)) trivial))))) rfl) (ai (ai (iL (by omega)) trivial) (iM (by omega)))))
   ·rw[hsu];rfl
   ·rw[hsu];exact amY _ _
  obtain rfl:q=(c.trs.getD (F.getD j 0).toNat aF).to.length:=by omega
  rw[ahb,←hts]
  refine ei (j+1) (ai (ai rfl rfl) (ai (ai (ai rfl (ai (ai rfl rfl) (ai (ai rfl rfl) (ai (ai (ai (fun _=>rfl) (aP (by omega))) rfl) (ai (ai rfl (ai rfl (fun _=>rfl))) (ai (ai rfl (ai rfl (fun _=>rfl))) trivial)))))) rfl) (ai (ai (iL (by omega)) trivial) (iM (by omega)))))
 obtain rfl:j=F.length:=by omega
 rw[ahb]
 refine ei (bE.inv { X:=Nat,up:=fun j=>[(145,.s (iA j))],uo:=fun j=>[],inv:=fun j=>j≤all.length∧(True),meas:=fun j=>all.length-j,x0:=0 }) ?_
 refine ai (ai (ai (by exact (a4 (ai rfl rfl))) (ai ?_ ?_)) rfl) (ai (ai (afc _) ?_) ?_)
 ·exact (ai (ai (fun _=>rfl) (iE (by simp only[zz,reduceCtorEq];rfl))) rfl)
 ·exact trivial
 ·trivial
 intro (j:Nat) ⟨hj,_⟩
 refine ah (p:=j<all.length) (au (by omega)) (fun h1=>?_) (fun h1=>?_)
 ·refine ai (ai (abq _) (iN (n:=all.length) (by omega))) (ai rfl ?_)
  have hi:=adh (bI 0 h1)
  obtain ⟨n,hn,hni⟩:=hall _ hi
  have hx0:0≤all.getD j 0∧all.getD j 0<(c.trs.length:Int):=by omega
  refine aX (b:=false) (by show decide (all.getD j 0<0)=false;exact decide_eq_false (by omega)) (fun h=>absurd h (by decide)) (fun _=>?_)
  refine aX (b:=false) (by show decide (((c.trs.length:Nat):Int)≤all.getD j 0)=false;exact decide_eq_false (by omega)) (fun h=>absurd h (by decide)) (fun _=>?_)
  refine ai hx0 ?_
  refine ai rfl ?_
  refine ei _ (ai (aqi) (ei ((gZ c F,all.getD j 0,(c.trs.getD (all.getD j 0).toNat aF).fr)) (ei [3,4,1] (ai (a4 (ai (fun _=>Or.inl rfl) (ai nof (Or.inl rfl)))) (ai (by exact (ai (ai rfl (fun _ _=>rfl)) (ai rfl (ai (ai rfl rfl) (ai rfl rfl))))) (ai (by exact (ai (ai rfl rfl) (ai (ai rfl (iE (by simp only[zz,reduceCtorEq]))) (ai rfl (ai rfl (fun _=>rfl)))))) (ai ((hlt _ hi).1) ?_)))))))
  refine aX (b:=false) (by show (!((fu c (all.getD j 0)).any fun k=>lI (gZ c F) (all.getD j 0) k))=false;rw[htk _ hi];rfl) (fun h=>absurd h (by decide)) (fun _=>?_)
  refine ei (j+1) (ai (ai rfl rfl) (ai (ai (ai rfl (ai (ai rfl rfl) (ai (ai rfl rfl) (ai (ai (ai (fun _=>rfl) (aP (by omega))) rfl) trivial)))) rfl) (ai (ai (iL (by omega)) trivial) (iM (by omega)))))
 obtain rfl:j=all.length:=by omega
 refine ei (bE.inv { X:=Nat,up:=fun k=>[(171,.s (iA k))],uo:=fun k=>[],inv:=fun k=>k≤(mD c a F).length∧(True),meas:=fun k=>(mD c a F).length-k,x0:=0 }) ?_
 refine ai (ai (ai (by exact (a4 (ai rfl rfl))) (ai ?_ ?_)) rfl) (ai (ai (afc _) ?_) ?_)
 ·exact (ai (ai (fun _=>rfl) (iE (by simp only[zz,reduceCtorEq];rfl))) rfl)
 ·exact trivial
 ·trivial
 intro (k:Nat) ⟨hk,_⟩
 refine ah (p:=k<(mD c a F).length) (au (by omega)) (fun h1=>?_) (fun h1=>?_)
 ·refine ai (ai (abq _) (iN (n:=(mD c a F).length) (by omega))) (ai rfl ?_)
  have hb:(mD c a F).getD k false=(fB (nQ c F) (k:Int)||(a.getD k false&&(fV (gZ c F) (k:Int)).isNone)):=hnb k (by omega)
  refine ai (ai rfl rfl) (ei (iP ((fV (gZ c F) (k:Int)).getD 0)) (ei ((fV (gZ c F) (k:Int)).isSome) (ai (ai (alB _ _) (amk _ _)) ?_)))
  refine ai (ai rfl rfl) (ei (bP (fB (nQ c F) (k:Int))) (ei (fB (nQ c F) (k:Int)) (ai (ai (aml _ _) (amG _ _)) ?_)))
  refine aX (b:=fB (nQ c F) (k:Int)) rfl (fun h2=>?_) (fun h2=>?_)
  ·refine aX (b:=false) (by show (!((mD c a F).getD k false==true))=false;rw[hb,h2];rfl) (fun h=>absurd h (by decide)) (fun _=>?_)
   refine ei (k+1) (ai (ai rfl rfl) (ai (ai (ai rfl (ai (ai rfl rfl) (ai (ai rfl rfl) (ai (ai (ai (fun _=>rfl) (aP (by omega))) rfl) trivial)))) rfl) (ai (ai (iL (by omega)) trivial) (iM (by omega)))))
  refine ai (ai (abq _) (iN (n:=a.length) (by omega))) (ai rfl ?_)
  refine aX (b:=a.getD k false) rfl (fun h3=>?_) (fun h3=>?_)
  ·refine aX (b:=false) (by show (!((mD c a F).getD k false==!(fV (gZ c F) (k:Int)).isSome))=false;rw[hb,h2,h3];cases (fV (gZ c F) (k:Int))<;>rfl) (fun h=>absurd h (by decide)) (fun _=>?_)
   refine ei (k+1) (ai (ai rfl rfl) (ai (ai (ai rfl (ai (ai rfl rfl) (ai (ai rfl rfl) (ai (ai (ai (fun _=>rfl) (aP (by omega))) rfl) trivial)))) rfl) (ai (ai (iL (by omega)) trivial) (iM (by omega)))))
  ·refine aX (b:=false) (by show (!((mD c a F).getD k false==false))=false;rw[hb,h2,h3];rfl) (fun h=>absurd h (by decide)) (fun _=>?_)
   refine ei (k+1) (ai (ai rfl rfl) (ai (ai (ai rfl (ai (ai rfl rfl) (ai (ai rfl rfl) (ai (ai (ai (fun _=>rfl) (aP (by omega))) rfl) trivial)))) rfl) (ai (ai (iL (by omega)) trivial) (iM (by omega)))))
 obtain rfl:k=(mD c a F).length:=by omega
 refine ei _ (ai (p8) (ei (()) (ei [] (ai (a4 (ai (fun _=>Or.inl rfl) (ai nof (Or.inr rfl)))) (ai (by exact trivial) (ai trivial (ai (trivial) ?_)))))))
 refine ai (ai (fun _=>trivial) ?_) trivial
 exact rfl
end Go.Sx.Pe
namespace Go.Sx.Pe
open Go Go.Proofs Go.Sx.Pn Go.ChangeShapes Go.WideShapes Go.ChangeAt Go.RowKit Go.Deep Go.Lib
theorem ald {H:Type} {enc:TypeId×Value→H} {P:Program} {f:Func} {s:ChangeSpec} {S:List TypeId} (hS:Closed P S) {tb:TypeId} (hb:P.underlying tb=some .bool) (hres:f.resultTypes=#[tb])
  {W W':World} {args:Array Value} {ds:List (DataW H)} {before:List MemPlace} (hW:DataW.Whole enc P f.params.toList s.vars false W args.toList ds [] before) (hv:s.vars=[])
  (hA:DataW.TrodAll enc P W 0 (fun _=>true) true f.params.toList args.toList ds before) (hts:∀t∈f.params.toList,t∈S) (hfn:s.fn H (ds++[])={ results:=[.lit (.bool true)],args:=ds,vars:=[] }) (hg:Below W.heap.size W W') :
  s.post enc P f false true false false W args (.bool true) W':=by
 have hlt:=hW.lt
 have hold:∀p∈before,(fun b=>decide (b<W.heap.size)) p.block=true:=fun p hp=>by simpa using hlt p hp
 have hargs:∀sp:Nat→Bool,(∀p∈before,sp p.block=true)→DataW.TrodAll enc P W' 0 sp true f.params.toList args.toList ds before:=fun sp hsp=>zo hS hg.block hts hA hsp
 have hrt:(Value.bool true).resultList f.resultTypes.size=[.bool true]:=by rw[hres];rfl
 have hr:∀(b:Nat) (sp:Nat→Bool) (hd:Bool),DataW.TrodAll enc P W' b sp hd f.resultTypes.toList ((Value.bool true).resultList f.resultTypes.size) [.lit (.bool true)] []:=fun b sp hd=>by
  rw[hrt,hres];exact trodAll_cons_mk (shut_bool hb true) trodAll_mk0
 refine ⟨ds,[],before,[],before,[],hW,by rw[hfn];exact hr _ _ _,by rw[hfn];exact hargs _ hold,by rw[hfn,hv];rfl,World.keptBut_mono (fun p hp=>⟨hp,.inr (.inl hp)⟩) (hg.frame (·∈before)),fun h=>by cases h⟩
theorem ao9:ownKnob Tryz.prog.godebug=none:=by kernel_rfl
theorem apW {d1 d2 d4 d5:DataW Unit} {n1 n2 n4 n5:String} {W:World} (h:laidMet Tryz.prog [(n1,d1),(n2,d2),("internal/strconv.uint64pow10",Go.Proofs.YteenedbiifampaaGreatDoor.Rows.laid_internal_strconv_uint64pow10),(n4,d4),(n5,d5)] W):∀p∈glP,fD W p.1=some p.2:=by
 have h3:TabIs Tryz.prog W "internal/strconv.uint64pow10" .u64 Lib.pow10Tab:=
  tabIs_of_head (rest:=[(n4,d4),(n5,d5)]) (show Tryz.prog.globalNamed "internal/strconv.uint64pow10"=some 0 by kernel_rfl) (show (Tryz.prog.globals[0]?).map (·.type)=some 275 by kernel_rfl) Tryz.underlying275 Tryz.underlying252 (by kernel_rfl) (by kernel_rfl) (laidMet.tail (laidMet.tail h))
 intro p hp
 rw[aiy.1 hp]
 have h4:World.var? Tryz.prog W "internal/strconv.uint64pow10"=some p10:=h3
 unfold World.var? at h4
 rw[show Tryz.prog.globalNamed "internal/strconv.uint64pow10"=some 0 by kernel_rfl] at h4
 exact h4
def ahI (vs:List Value):Obj→Obj
 | .cells _ t frozen=>.cells vs.toArray t frozen
 | o=>o
def u8s (l:List Nat):List Value:=l.map fun n:Nat=>Value.int .u8 (n:Int)
noncomputable def aaA (os:Os):World:=
 { World.holding Tryz.prog os ⟨#[],#[],[]⟩ with heap:=((((((World.holding Tryz.prog os ⟨#[],#[],[]⟩).heap.modify 2 (ahI (u8s Lib.deBruijn32tab))).modify 3 (ahI (u8s Lib.deBruijn64tab))).modify 0 (ahI p10.toList)).modify 5 (ahI (u8s ([128,191,160,191,128,159,144,191,128,143]++List.replicate 22 0)))).modify 4 (ahI (u8s Go.Pinned.utf8FirstZ))) }
theorem aiA {E:Env} {v:Value} {d d':PV} (h:aM E v (.p false d)) (e:gW d d'):aM E v (.p false d'):=by
 cases h with | p _ _ _ hp=>exact .p _ _ _ (rA e hp)
theorem l7 {P:Program} {t:TypeId} {fs:Array Field} {n:Nat} {l:List PV} {ts:List TypeId} (hu:P.underlying t=some (.struct fs)) (hts:fs.toList.map (·.type)=ts) (h:Shape P n t l) :
  ∃(n':Nat) (ls:List (List PV)),n=n'+1∧l=ls.flatten∧afU P n' ts ls:=by
 cases n with
 | zero=>exact h.elim
 | succ n=>
  unfold Shape at h;rw[hu] at h
  obtain ⟨ls,rfl,h1,h2⟩:=h
  refine ⟨n,ls,rfl,rfl,aeE ts ls (by rw[h1,←hts];simp) fun i t x ht hx=>?_⟩
  subst hts
  simp only[ajs,aeX,atx] at ht
  obtain ⟨f,hf,rfl⟩:=ht
  exact h2 i f x hf hx
theorem aaw {P:Program} {t e:TypeId} {n:Nat} {l:List PV} (hu:P.underlying t=some (.slice e)) (h:Shape P n t l):∃(n' m:Nat) (f:Nat→List PV),n=n'+1∧l=[.seq m f]∧∀j,j<m→Shape P n' e (f j):=by
 cases n with
 | zero=>exact h.elim
 | succ n=>unfold Shape at h;rw[hu] at h;obtain ⟨m,f,h1,h2,h3⟩:=h;exact ⟨n,m,f,rfl,h2,h3⟩
theorem ae9 {α:Type} (d:α) {g:α→List PV} {m:Nat} {f:Nat→List PV} (h:∀j,j<m→∃x,bN (f j) (g x)):∃L:List α,L.length=m∧∀j,j<m→bN (f j) (g (L.getD j d)):=by
 have h1:∀j,∃x:α,j<m→bN (f j) (g x):=fun j=>by
  by_cases hj:j<m
  ·obtain ⟨x,hx⟩:=h j hj;exact ⟨x,fun _=>hx⟩
  ·exact ⟨d,fun h=>absurd h hj⟩
 obtain ⟨c,hc⟩:=Classical.axiomOfChoice h1
 refine ⟨(List.range m).map c,by simp,fun j hj=>?_⟩
 have:((List.range m).map c).getD j d=c j:=by simp[abo,hj]
 rw[this];exact hc j hj
theorem nu {α:Type} (d:α) {g:α→List PV} {P:Program} {t e:TypeId} {n:Nat} {l:List PV} (hu:P.underlying t=some (.slice e)) (he:∀k x,k<n→Shape P k e x→∃y,bN x (g y)) (h:Shape P n t l):∃L:List α,bN l [.seq L.length (fun j=>g (L.getD j d))]:=by
 obtain ⟨n',m,f,rfl,rfl,hf⟩:=aaw hu h
 obtain ⟨L,rfl,hL⟩:=ae9 d fun j hj=>he n' (f j) (Nat.lt_succ_self _) (hf j hj)
 exact ⟨L,abM (gK hL)⟩
theorem qH:∀{a b c d:List PV},bN a b→bN c d→bN (a++c) (b++d)
 | [],[],_,_,_,h=>h
 | x :: a,y :: b,c,d,h,k=>bG (h.2 0 x y rfl rfl) (qH ⟨by simpa using h.1,fun j s s' hs hs'=>h.2 (j+1) s s' hs hs'⟩ k)
 | [],_ :: _,_,_,h,_=>by have:=h.1;simp at this
 | _ :: _,[],_,_,h,_=>by have:=h.1;simp at this
theorem aeV {a b c a' b' c':List PV} (h1:bN a a') (h2:bN b b') (h3:bN c c'):bN [a,b,c].flatten (a'++(b'++c')):=by
 have:[a,b,c].flatten=a++(b++c):=by simp
 rw[this];exact qH h1 (qH h2 h3)
theorem afg {a b a' b':List PV} (h1:bN a a') (h2:bN b b'):bN [a,b].flatten (a'++b'):=by
 have:[a,b].flatten=a++b:=by simp
 rw[this];exact qH h1 h2
theorem alj {a b c d a' b' c' d':List PV} (h1:bN a a') (h2:bN b b') (h3:bN c c') (h4:bN d d'):bN [a,b,c,d].flatten (a'++(b'++(c'++d'))):=by
 have:[a,b,c,d].flatten=a++(b++(c++d)):=by simp
 rw[this];exact qH h1 (qH h2 (qH h3 h4))
theorem wJ {n:Nat} {l:List PV} (h:Shape Tryz.prog n 3 l):∃m:Int,bN l [iP m]:=by
 obtain ⟨m,_,rfl⟩:=akU Tryz.underlying3 h
 exact ⟨m,bN.rfl' _⟩
theorem aiR {n:Nat} {l:List PV} (h:Shape Tryz.prog n 4 l):∃b:Bool,bN l [bP b]:=by
 obtain ⟨m,rfl⟩:=ajW Tryz.underlying4 h
 exact ⟨m,bN.rfl' _⟩
theorem arj {n:Nat} {l:List PV} (h:Shape Tryz.prog n 9 l):∃s:List UInt8,bN l [sP s]:=by
 obtain ⟨s,_,rfl⟩:=ag0 Tryz.underlying9 h
 refine ⟨s.data.toList,bN.of ?_⟩
 have:strOf s.data.toList=s:=by cases s;simp[strOf]
 show _=[PV.val (.string (strOf s.data.toList))]
 rw[this]
theorem ai9 {n:Nat} {l:List PV} (h:Shape Tryz.prog n 29 l):∃L:List Int,bN l [jD L]:=nu 0 (g:=fun x=>[iP x]) Tryz.underlying29 (fun _ _ _ h=>wJ h) h
end Go.Sx.Pe
