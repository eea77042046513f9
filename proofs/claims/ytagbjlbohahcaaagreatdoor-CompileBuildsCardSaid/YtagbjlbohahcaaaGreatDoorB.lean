/- The card of CompileBuilds: for every input the law answers true, and its arguments read as they did. -/
import Derived.Test.YtagbjlbohahcaaaGreatDoorB6
set_option maxHeartbeats 1000000
set_option maxRecDepth 4000
set_option linter.unusedSimpArgs false
set_option linter.unusedVariables false
set_option linter.unusedSectionVars false
namespace Go.Sx.Pe
open Go Go.Proofs Go.Sx.Pn
set_option maxHeartbeats 8000000 in
theorem ahD:av Tryz.prog 69 (bq (fun a:bC×eZ=>[rQ a.1,yR a.2]) awD (fun a=>vk (uh a.1 a.2))):=by
 refine vI [7000022,7000028] Tryz.func69 ?_
 rintro ⟨c,s⟩ hpre
 obtain ⟨hc,hs,h0,hn,hi,hon⟩:=hpre
 have hc:kQ c:=hc
 have hs:sU c s:=hs
 have h0:0<c.sgs.length:=h0
 have hn:c.sgs.length≤1000:=hn
 have hi:c.ins.length≤1000:=hi
 have hon:∀k,k<c.sgs.length→(c.sgs.getD k ak).on.size≤1000000:=fun k hk=>by
  have:=hon (c.sgs[k]) (List.getElem_mem hk)
  rw[aai,aau hk];exact this
 have hvl:=adr hs
 obtain ⟨⟨ha0,ha1⟩,hc2,hc3⟩:=id hc
 obtain ⟨h1,h2,h3,h4,h5⟩:=id hs
 have hsm:adZ s:=⟨by omega,by omega,by omega⟩
 have hsn:bU c=2*c.act+c.ins.length:=rfl
 have hln:dx c=2*c.act+c.ins.length+c.sgs.length:=rfl
 have hew:∀k:Nat,k<c.sgs.length→IntKind.i64.wrap (bU c+(k:Int))=(((bU c).toNat+k:Nat):Int):=fun k hk=>by
  rw[dD (by omega) (by omega)];omega
 refine dR (.one 0 (.one 1 (.one 3 (.one 4 (.one 6 (.one 7 (.one 9 (.one 10 (.one 12 (.one 13 (.alt 2 (.alt 5 (.alt 8 (.alt 11 (.alt 14 (.one 15 (.one 16 (.one 17 .done))) (.alt 16 (.one 14 (.one 15 (.one 17 .done))) .stop)) (.alt 16 (.one 11 (.one 14 (.one 15 (.one 17 .done)))) .stop)) (.alt 16 (.one 8 (.one 11 (.one 14 (.one 15 (.one 17 .done))))) .stop)) (.alt 16 (.one 5 (.one 8 (.one 11 (.one 14 (.one 15 (.one 17 .done)))))) .stop)) (.alt 16 (.one 2 (.one 5 (.one 8 (.one 11 (.one 14 (.one 15 (.one 17 .done))))))) .stop)))))))))))) ?_
 refine ai ?_ ?_
 ·refine cK (tN) (s.en) (by exact (ai rfl (fun _ _=>rfl))) ((by show s.en.length≤1000000;omega)) ?_
  refine ai ?_ ?_
  ·refine cK (tF) (s.va) (by exact (ai rfl (fun _ _=>rfl))) ((by show s.va.length≤1000000;omega)) ?_
   refine ai ?_ ?_
   ·refine cK (tF) (s.inp) (by exact (ai rfl (fun _ _=>rfl))) ((by show s.inp.length≤1000000;omega)) ?_
    refine ai ?_ ?_
    ·refine ei _ (ai (aa8) (ei (s.vl) (ai (by exact (ai rfl (fun _ _=>rfl))) (ai (⟨by show 0<s.vl.length;omega,by show s.vl.length≤1000000;omega⟩) (ai (oG _) ?_)))))
     refine ai ?_ ?_
     ·refine cK (tN) (s.ti) (by exact (ai rfl (fun _ _=>rfl))) ((by show s.ti.length≤1000000;omega)) ?_
      refine ei _ (ai (xU) (ei (s) (ai ?_ (ai (hsm) (ai (oG _) ?_)))))
      ·refine (ai (ai rfl (fun _ _=>rfl)) (ai (ai rfl (fun _ _=>rfl)) (ai (ai rfl (fun _ _=>rfl)) (ai (ai ?_ ?_) (ai rfl (fun _ _=>rfl))))))
       ·exact gX s.vl
       ·exact fI s.vl rfl
      refine fR (c.sgs.length) (fun k=>[(32,.s (iA k)),(6,bsR (aM c s k).2)]) (fun k=>[⟨4,57,[.s (.p true (fE s.en)),.s (.p true (kH s.va)),.s (.p true (kH s.inp)),bsW (aM c s k).1,.s (.p true (fE s.ti))]⟩]) (fun k=>True) ?_ ?_ ?_ ?_
      ·refine (ai (ai (ai (fun _=>rfl) (iE (by omega))) rfl) (ai rfl (ai rfl (ai ?_ ?_))))
       ·exact gX (fC s)
       ·exact fI (fC s) rfl
      ·refine (ai (ai (ai (ai (fun _=>rfl) (ai rfl (fun _ _=>rfl))) rfl) (ai (ai (ai (fun _=>rfl) (ai rfl (fun _ _=>rfl))) rfl) (ai (ai (ai (fun _=>rfl) (ai rfl (fun _ _=>rfl))) rfl) (ai (ai rfl (ai rfl (ai ?_ ?_))) (ai (ai (fun _=>rfl) (ai rfl (fun _ _=>rfl))) rfl))))) trivial)
       ·exact gX s.vl
       ·exact fI s.vl rfl
      ·trivial
      intro (k:Nat) ⟨hk,_⟩
      have hg:=sI c s k
      refine ah (p:=k<c.sgs.length) (aB (by dsimp only;omega)) (fun g=>?_) (fun g=>?_)
      ·refine iX (k) (c.sgs.length) ?_
       refine ah (p:=(c.sgs.getD k ak).kd=0) (by simp only[zz,reduceCtorEq]) (fun g2=>?_) (fun g2=>?_)
       ·refine cK (vT) (((c.sgs.getD k ak).on,(aM c s k).2)) (by exact (ai (ai (iE (by simp only[zz,reduceCtorEq])) (ai (iE (by simp only[zz,reduceCtorEq])) (ai rfl (fun _ _=>rfl)))) (ai rfl (fun _ _=>rfl)))) (hon k g) ?_
        refine dR (.seq [0,1,2,3,4,6,8,9,5,7,10,11,12,13]) ?_
        refine cK (nA) (c) (by exact (ai rfl (ai (ai rfl (fun _ _=>rfl)) (ai (ai rfl (fun _ _=>rfl)) (ai (ai rfl (fun _ _=>rfl)) (ai rfl (fun _ _=>rfl))))))) (hc) ?_
        refine ai (ai (aaT _) (by show ((k:Nat):Int)<((aM c s k).1.length:Int);omega)) ?_
        refine ai (ai (by show ((k:Nat):Int).toNat<(aM c s k).1.length;omega) (acn _)) ?_
        refine ai (ai (by show 0≤IntKind.i64.wrap (bU c+(k:Int));rw[hew k g];omega) (by show IntKind.i64.wrap (bU c+(k:Int))<((aM c s k).2.length:Int);rw[hew k g];omega)) ?_
        refine ai (ai (by show (IntKind.i64.wrap (bU c+(k:Int))).toNat<(aM c s k).2.length;rw[hew k g];omega) (acn _)) ?_
        have e1:(aM c s (k+1)).1=(aM c s k).1.set k (d9 (c.sgs.getD k ak).on (aM c s k).2).1:=by rw[aM,if_pos g2]
        have e2:(aM c s (k+1)).2=(aM c s k).2.set ((bU c).toNat+k) (d9 (c.sgs.getD k ak).on (aM c s k).2).1:=by rw[aM,if_pos g2]
        refine nX (k) (ai (ai (ai (fun _=>rfl) (aH (by omega))) rfl) (ai rfl (ai rfl (ai ?_ ?_)))) (ai (ai (ai (ai (fun _=>rfl) (ai rfl (fun _ _=>rfl))) rfl) (ai (ai (ai (fun _=>rfl) (ai rfl (fun _ _=>rfl))) rfl) (ai (ai (ai (fun _=>rfl) (ai rfl (fun _ _=>rfl))) rfl) (ai (ai rfl (ai rfl (ai ?_ ?_))) (ai (ai (fun _=>rfl) (ai rfl (fun _ _=>rfl))) rfl))))) trivial) trivial
        ·rw[e2,aob]
        ·intro q hq
         show iY (fun w=>[bP ((aM c s k).2.getD w false)]) (IntKind.i64.wrap (bU c+(k:Int))).toNat 0 [bP (d9 (c.sgs.getD k ak).on (aM c s k).2).1] q=[bP ((aM c s (k+1)).2.getD q false)]
         rw[hew k g,e2]
         exact jI (by omega) _ q
        ·rw[e1,aob]
        ·intro q hq
         show iY (fun w=>[bP ((aM c s k).1.getD w false)]) k 0 [bP (d9 (c.sgs.getD k ak).on (aM c s k).2).1] q=[bP ((aM c s (k+1)).1.getD q false)]
         rw[e1]
         exact jI (by omega) _ q
       ·have e1:aM c s (k+1)=aM c s k:=by rw[aM,if_neg g2]
        refine nX (k) (ai (ai (ai (fun _=>rfl) (aH (by omega))) rfl) (ai rfl (ai rfl (ai ?_ ?_)))) (ai (ai (ai (ai (fun _=>rfl) (ai rfl (fun _ _=>rfl))) rfl) (ai (ai (ai (fun _=>rfl) (ai rfl (fun _ _=>rfl))) rfl) (ai (ai (ai (fun _=>rfl) (ai rfl (fun _ _=>rfl))) rfl) (ai (ai rfl (ai rfl (ai ?_ ?_))) (ai (ai (fun _=>rfl) (ai rfl (fun _ _=>rfl))) rfl))))) trivial) trivial
        ·rw[e1]
        ·rw[e1];exact fun _ _=>rfl
        ·rw[e1]
        ·rw[e1];exact fun _ _=>rfl
      obtain rfl:k=c.sgs.length:=by omega
      refine ai (ai (fun _=>?_) ?_) trivial
      ·exact ai trivial (ai trivial (ai trivial (ai (fun _ _=>rfl) trivial)))
      show kU _ (vk (uh c s))
      rw[uh]
      exact (ai (ai rfl (fun _ _=>rfl)) (ai (ai rfl (fun _ _=>rfl)) (ai (ai rfl (fun _ _=>rfl)) (ai (ai rfl (fun _ _=>rfl)) (ai rfl (fun _ _=>rfl))))))
     refine ai ?_ ?_
     ·refine cK (tN) (s.ti) (by exact (ai rfl (fun _ _=>rfl))) ((by show s.ti.length≤1000000;omega)) ?_
      refine ei _ (ai (xU) (ei (s) (ai ?_ (ai (hsm) (ai (oG _) ?_)))))
      ·refine (ai (ai rfl (fun _ _=>rfl)) (ai (ai rfl (fun _ _=>rfl)) (ai (ai rfl (fun _ _=>rfl)) (ai (ai ?_ ?_) (ai rfl (fun _ _=>rfl))))))
       ·exact gX s.vl
       ·exact fI s.vl rfl
      refine fR (c.sgs.length) (fun k=>[(32,.s (iA k)),(6,bsR (aM c s k).2)]) (fun k=>[⟨4,57,[.s (.p true (fE s.en)),.s (.p true (kH s.va)),.s (.p true (kH s.inp)),bsW (aM c s k).1,.s (.p true (fE s.ti))]⟩]) (fun k=>True) ?_ ?_ ?_ ?_
      ·refine (ai (ai (ai (fun _=>rfl) (iE (by omega))) rfl) (ai rfl (ai rfl (ai ?_ ?_))))
       ·exact gX (fC s)
       ·exact fI (fC s) rfl
      ·refine (ai (ai (ai (ai (fun _=>rfl) (ai rfl (fun _ _=>rfl))) rfl) (ai (ai (ai (fun _=>rfl) (ai rfl (fun _ _=>rfl))) rfl) (ai (ai (ai (fun _=>rfl) (ai rfl (fun _ _=>rfl))) rfl) (ai (ai rfl (ai rfl (ai ?_ ?_))) (ai (ai (fun _=>rfl) (ai rfl (fun _ _=>rfl))) rfl))))) trivial)
       ·exact gX s.vl
       ·exact fI s.vl rfl
      ·trivial
      intro (k:Nat) ⟨hk,_⟩
      have hg:=sI c s k
      refine ah (p:=k<c.sgs.length) (aB (by dsimp only;omega)) (fun g=>?_) (fun g=>?_)
      ·refine iX (k) (c.sgs.length) ?_
       refine ah (p:=(c.sgs.getD k ak).kd=0) (by simp only[zz,reduceCtorEq]) (fun g2=>?_) (fun g2=>?_)
       ·refine cK (vT) (((c.sgs.getD k ak).on,(aM c s k).2)) (by exact (ai (ai (iE (by simp only[zz,reduceCtorEq])) (ai (iE (by simp only[zz,reduceCtorEq])) (ai rfl (fun _ _=>rfl)))) (ai rfl (fun _ _=>rfl)))) (hon k g) ?_
        refine dR (.seq [0,1,2,3,4,6,8,9,5,7,10,11,12,13]) ?_
        refine cK (nA) (c) (by exact (ai rfl (ai (ai rfl (fun _ _=>rfl)) (ai (ai rfl (fun _ _=>rfl)) (ai (ai rfl (fun _ _=>rfl)) (ai rfl (fun _ _=>rfl))))))) (hc) ?_
        refine ai (ai (aaT _) (by show ((k:Nat):Int)<((aM c s k).1.length:Int);omega)) ?_
        refine ai (ai (by show ((k:Nat):Int).toNat<(aM c s k).1.length;omega) (acn _)) ?_
        refine ai (ai (by show 0≤IntKind.i64.wrap (bU c+(k:Int));rw[hew k g];omega) (by show IntKind.i64.wrap (bU c+(k:Int))<((aM c s k).2.length:Int);rw[hew k g];omega)) ?_
        refine ai (ai (by show (IntKind.i64.wrap (bU c+(k:Int))).toNat<(aM c s k).2.length;rw[hew k g];omega) (acn _)) ?_
        have e1:(aM c s (k+1)).1=(aM c s k).1.set k (d9 (c.sgs.getD k ak).on (aM c s k).2).1:=by rw[aM,if_pos g2]
        have e2:(aM c s (k+1)).2=(aM c s k).2.set ((bU c).toNat+k) (d9 (c.sgs.getD k ak).on (aM c s k).2).1:=by rw[aM,if_pos g2]
        refine nX (k) (ai (ai (ai (fun _=>rfl) (aH (by omega))) rfl) (ai rfl (ai rfl (ai ?_ ?_)))) (ai (ai (ai (ai (fun _=>rfl) (ai rfl (fun _ _=>rfl))) rfl) (ai (ai (ai (fun _=>rfl) (ai rfl (fun _ _=>rfl))) rfl) (ai (ai (ai (fun _=>rfl) (ai rfl (fun _ _=>rfl))) rfl) (ai (ai rfl (ai rfl (ai ?_ ?_))) (ai (ai (fun _=>rfl) (ai rfl (fun _ _=>rfl))) rfl))))) trivial) trivial
        ·rw[e2,aob]
        ·intro q hq
         show iY (fun w=>[bP ((aM c s k).2.getD w false)]) (IntKind.i64.wrap (bU c+(k:Int))).toNat 0 [bP (d9 (c.sgs.getD k ak).on (aM c s k).2).1] q=[bP ((aM c s (k+1)).2.getD q false)]
         rw[hew k g,e2]
         exact jI (by omega) _ q
        ·rw[e1,aob]
        ·intro q hq
         show iY (fun w=>[bP ((aM c s k).1.getD w false)]) k 0 [bP (d9 (c.sgs.getD k ak).on (aM c s k).2).1] q=[bP ((aM c s (k+1)).1.getD q false)]
         rw[e1]
         exact jI (by omega) _ q
       ·have e1:aM c s (k+1)=aM c s k:=by rw[aM,if_neg g2]
        refine nX (k) (ai (ai (ai (fun _=>rfl) (aH (by omega))) rfl) (ai rfl (ai rfl (ai ?_ ?_)))) (ai (ai (ai (ai (fun _=>rfl) (ai rfl (fun _ _=>rfl))) rfl) (ai (ai (ai (fun _=>rfl) (ai rfl (fun _ _=>rfl))) rfl) (ai (ai (ai (fun _=>rfl) (ai rfl (fun _ _=>rfl))) rfl) (ai (ai rfl (ai rfl (ai ?_ ?_))) (ai (ai (fun _=>rfl) (ai rfl (fun _ _=>rfl))) rfl))))) trivial) trivial
        ·rw[e1]
        ·rw[e1];exact fun _ _=>rfl
        ·rw[e1]
        ·rw[e1];exact fun _ _=>rfl
      obtain rfl:k=c.sgs.length:=by omega
      refine ai (ai (fun _=>?_) ?_) trivial
      ·exact ai trivial (ai trivial (ai trivial (ai (fun _ _=>rfl) trivial)))
      show kU _ (vk (uh c s))
      rw[uh]
      exact (ai (ai rfl (fun _ _=>rfl)) (ai (ai rfl (fun _ _=>rfl)) (ai (ai rfl (fun _ _=>rfl)) (ai (ai rfl (fun _ _=>rfl)) (ai rfl (fun _ _=>rfl))))))
     exact trivial
    refine ai ?_ ?_
    ·refine ei _ (ai (aa8) (ei (s.vl) (ai (by exact (ai rfl (fun _ _=>rfl))) (ai (⟨by show 0<s.vl.length;omega,by show s.vl.length≤1000000;omega⟩) (ai (oG _) ?_)))))
     refine cK (tN) (s.ti) (by exact (ai rfl (fun _ _=>rfl))) ((by show s.ti.length≤1000000;omega)) ?_
     refine ei _ (ai (xU) (ei (s) (ai ?_ (ai (hsm) (ai (oG _) ?_)))))
     ·refine (ai (ai rfl (fun _ _=>rfl)) (ai (ai rfl (fun _ _=>rfl)) (ai (ai rfl (fun _ _=>rfl)) (ai (ai ?_ ?_) (ai rfl (fun _ _=>rfl))))))
      ·exact gX s.vl
      ·exact fI s.vl rfl
     refine fR (c.sgs.length) (fun k=>[(32,.s (iA k)),(6,bsR (aM c s k).2)]) (fun k=>[⟨3,57,[.s (.p true (fE s.en)),.s (.p true (kH s.va)),.s (.p true (kH s.inp)),bsW (aM c s k).1,.s (.p true (fE s.ti))]⟩]) (fun k=>True) ?_ ?_ ?_ ?_
     ·refine (ai (ai (ai (fun _=>rfl) (iE (by omega))) rfl) (ai rfl (ai rfl (ai ?_ ?_))))
      ·exact gX (fC s)
      ·exact fI (fC s) rfl
     ·refine (ai (ai (ai (ai (fun _=>rfl) (ai rfl (fun _ _=>rfl))) rfl) (ai (ai (ai (fun _=>rfl) (ai rfl (fun _ _=>rfl))) rfl) (ai (ai (ai (fun _=>rfl) (ai rfl (fun _ _=>rfl))) rfl) (ai (ai rfl (ai rfl (ai ?_ ?_))) (ai (ai (fun _=>rfl) (ai rfl (fun _ _=>rfl))) rfl))))) trivial)
      ·exact gX s.vl
      ·exact fI s.vl rfl
     ·trivial
     intro (k:Nat) ⟨hk,_⟩
     have hg:=sI c s k
     refine ah (p:=k<c.sgs.length) (aB (by dsimp only;omega)) (fun g=>?_) (fun g=>?_)
     ·refine iX (k) (c.sgs.length) ?_
      refine ah (p:=(c.sgs.getD k ak).kd=0) (by simp only[zz,reduceCtorEq]) (fun g2=>?_) (fun g2=>?_)
      ·refine cK (vT) (((c.sgs.getD k ak).on,(aM c s k).2)) (by exact (ai (ai (iE (by simp only[zz,reduceCtorEq])) (ai (iE (by simp only[zz,reduceCtorEq])) (ai rfl (fun _ _=>rfl)))) (ai rfl (fun _ _=>rfl)))) (hon k g) ?_
       refine dR (.seq [0,1,2,3,4,6,8,9,5,7,10,11,12,13]) ?_
       refine cK (nA) (c) (by exact (ai rfl (ai (ai rfl (fun _ _=>rfl)) (ai (ai rfl (fun _ _=>rfl)) (ai (ai rfl (fun _ _=>rfl)) (ai rfl (fun _ _=>rfl))))))) (hc) ?_
       refine ai (ai (aaT _) (by show ((k:Nat):Int)<((aM c s k).1.length:Int);omega)) ?_
       refine ai (ai (by show ((k:Nat):Int).toNat<(aM c s k).1.length;omega) (acn _)) ?_
       refine ai (ai (by show 0≤IntKind.i64.wrap (bU c+(k:Int));rw[hew k g];omega) (by show IntKind.i64.wrap (bU c+(k:Int))<((aM c s k).2.length:Int);rw[hew k g];omega)) ?_
       refine ai (ai (by show (IntKind.i64.wrap (bU c+(k:Int))).toNat<(aM c s k).2.length;rw[hew k g];omega) (acn _)) ?_
       have e1:(aM c s (k+1)).1=(aM c s k).1.set k (d9 (c.sgs.getD k ak).on (aM c s k).2).1:=by rw[aM,if_pos g2]
       have e2:(aM c s (k+1)).2=(aM c s k).2.set ((bU c).toNat+k) (d9 (c.sgs.getD k ak).on (aM c s k).2).1:=by rw[aM,if_pos g2]
       refine nX (k) (ai (ai (ai (fun _=>rfl) (aH (by omega))) rfl) (ai rfl (ai rfl (ai ?_ ?_)))) (ai (ai (ai (ai (fun _=>rfl) (ai rfl (fun _ _=>rfl))) rfl) (ai (ai (ai (fun _=>rfl) (ai rfl (fun _ _=>rfl))) rfl) (ai (ai (ai (fun _=>rfl) (ai rfl (fun _ _=>rfl))) rfl) (ai (ai rfl (ai rfl (ai ?_ ?_))) (ai (ai (fun _=>rfl) (ai rfl (fun _ _=>rfl))) rfl))))) trivial) trivial
       ·rw[e2,aob]
       ·intro q hq
        show iY (fun w=>[bP ((aM c s k).2.getD w false)]) (IntKind.i64.wrap (bU c+(k:Int))).toNat 0 [bP (d9 (c.sgs.getD k ak).on (aM c s k).2).1] q=[bP ((aM c s (k+1)).2.getD q false)]
        rw[hew k g,e2]
        exact jI (by omega) _ q
       ·rw[e1,aob]
       ·intro q hq
        show iY (fun w=>[bP ((aM c s k).1.getD w false)]) k 0 [bP (d9 (c.sgs.getD k ak).on (aM c s k).2).1] q=[bP ((aM c s (k+1)).1.getD q false)]
        rw[e1]
        exact jI (by omega) _ q
      ·have e1:aM c s (k+1)=aM c s k:=by rw[aM,if_neg g2]
       refine nX (k) (ai (ai (ai (fun _=>rfl) (aH (by omega))) rfl) (ai rfl (ai rfl (ai ?_ ?_)))) (ai (ai (ai (ai (fun _=>rfl) (ai rfl (fun _ _=>rfl))) rfl) (ai (ai (ai (fun _=>rfl) (ai rfl (fun _ _=>rfl))) rfl) (ai (ai (ai (fun _=>rfl) (ai rfl (fun _ _=>rfl))) rfl) (ai (ai rfl (ai rfl (ai ?_ ?_))) (ai (ai (fun _=>rfl) (ai rfl (fun _ _=>rfl))) rfl))))) trivial) trivial
       ·rw[e1]
       ·rw[e1];exact fun _ _=>rfl
       ·rw[e1]
       ·rw[e1];exact fun _ _=>rfl
     obtain rfl:k=c.sgs.length:=by omega
     refine ai (ai (fun _=>?_) ?_) trivial
     ·exact ai trivial (ai trivial (ai trivial (ai (fun _ _=>rfl) trivial)))
     show kU _ (vk (uh c s))
     rw[uh]
     exact (ai (ai rfl (fun _ _=>rfl)) (ai (ai rfl (fun _ _=>rfl)) (ai (ai rfl (fun _ _=>rfl)) (ai (ai rfl (fun _ _=>rfl)) (ai rfl (fun _ _=>rfl))))))
    exact trivial
   refine ai ?_ ?_
   ·refine cK (tF) (s.inp) (by exact (ai rfl (fun _ _=>rfl))) ((by show s.inp.length≤1000000;omega)) ?_
    refine ei _ (ai (aa8) (ei (s.vl) (ai (by exact (ai rfl (fun _ _=>rfl))) (ai (⟨by show 0<s.vl.length;omega,by show s.vl.length≤1000000;omega⟩) (ai (oG _) ?_)))))
    refine cK (tN) (s.ti) (by exact (ai rfl (fun _ _=>rfl))) ((by show s.ti.length≤1000000;omega)) ?_
    refine ei _ (ai (xU) (ei (s) (ai ?_ (ai (hsm) (ai (oG _) ?_)))))
    ·refine (ai (ai rfl (fun _ _=>rfl)) (ai (ai rfl (fun _ _=>rfl)) (ai (ai rfl (fun _ _=>rfl)) (ai (ai ?_ ?_) (ai rfl (fun _ _=>rfl))))))
     ·exact gX s.vl
     ·exact fI s.vl rfl
    refine fR (c.sgs.length) (fun k=>[(32,.s (iA k)),(6,bsR (aM c s k).2)]) (fun k=>[⟨3,57,[.s (.p true (fE s.en)),.s (.p true (kH s.va)),.s (.p true (kH s.inp)),bsW (aM c s k).1,.s (.p true (fE s.ti))]⟩]) (fun k=>True) ?_ ?_ ?_ ?_
    ·refine (ai (ai (ai (fun _=>rfl) (iE (by omega))) rfl) (ai rfl (ai rfl (ai ?_ ?_))))
     ·exact gX (fC s)
     ·exact fI (fC s) rfl
    ·refine (ai (ai (ai (ai (fun _=>rfl) (ai rfl (fun _ _=>rfl))) rfl) (ai (ai (ai (fun _=>rfl) (ai rfl (fun _ _=>rfl))) rfl) (ai (ai (ai (fun _=>rfl) (ai rfl (fun _ _=>rfl))) rfl) (ai (ai rfl (ai rfl (ai ?_ ?_))) (ai (ai (fun _=>rfl) (ai rfl (fun _ _=>rfl))) rfl))))) trivial)
     ·exact gX s.vl
     ·exact fI s.vl rfl
    ·trivial
    intro (k:Nat) ⟨hk,_⟩
    have hg:=sI c s k
    refine ah (p:=k<c.sgs.length) (aB (by dsimp only;omega)) (fun g=>?_) (fun g=>?_)
    ·refine iX (k) (c.sgs.length) ?_
     refine ah (p:=(c.sgs.getD k ak).kd=0) (by simp only[zz,reduceCtorEq]) (fun g2=>?_) (fun g2=>?_)
     ·refine cK (vT) (((c.sgs.getD k ak).on,(aM c s k).2)) (by exact (ai (ai (iE (by simp only[zz,reduceCtorEq])) (ai (iE (by simp only[zz,reduceCtorEq])) (ai rfl (fun _ _=>rfl)))) (ai rfl (fun _ _=>rfl)))) (hon k g) ?_
      refine dR (.seq [0,1,2,3,4,6,8,9,5,7,10,11,12,13]) ?_
      refine cK (nA) (c) (by exact (ai rfl (ai (ai rfl (fun _ _=>rfl)) (ai (ai rfl (fun _ _=>rfl)) (ai (ai rfl (fun _ _=>rfl)) (ai rfl (fun _ _=>rfl))))))) (hc) ?_
      refine ai (ai (aaT _) (by show ((k:Nat):Int)<((aM c s k).1.length:Int);omega)) ?_
      refine ai (ai (by show ((k:Nat):Int).toNat<(aM c s k).1.length;omega) (acn _)) ?_
      refine ai (ai (by show 0≤IntKind.i64.wrap (bU c+(k:Int));rw[hew k g];omega) (by show IntKind.i64.wrap (bU c+(k:Int))<((aM c s k).2.length:Int);rw[hew k g];omega)) ?_
      refine ai (ai (by show (IntKind.i64.wrap (bU c+(k:Int))).toNat<(aM c s k).2.length;rw[hew k g];omega) (acn _)) ?_
      have e1:(aM c s (k+1)).1=(aM c s k).1.set k (d9 (c.sgs.getD k ak).on (aM c s k).2).1:=by rw[aM,if_pos g2]
      have e2:(aM c s (k+1)).2=(aM c s k).2.set ((bU c).toNat+k) (d9 (c.sgs.getD k ak).on (aM c s k).2).1:=by rw[aM,if_pos g2]
      refine nX (k) (ai (ai (ai (fun _=>rfl) (aH (by omega))) rfl) (ai rfl (ai rfl (ai ?_ ?_)))) (ai (ai (ai (ai (fun _=>rfl) (ai rfl (fun _ _=>rfl))) rfl) (ai (ai (ai (fun _=>rfl) (ai rfl (fun _ _=>rfl))) rfl) (ai (ai (ai (fun _=>rfl) (ai rfl (fun _ _=>rfl))) rfl) (ai (ai rfl (ai rfl (ai ?_ ?_))) (ai (ai (fun _=>rfl) (ai rfl (fun _ _=>rfl))) rfl))))) trivial) trivial
      ·rw[e2,aob]
      ·intro q hq
       show iY (fun w=>[bP ((aM c s k).2.getD w false)]) (IntKind.i64.wrap (bU c+(k:Int))).toNat 0 [bP (d9 (c.sgs.getD k ak).on (aM c s k).2).1] q=[bP ((aM c s (k+1)).2.getD q false)]
       rw[hew k g,e2]
       exact jI (by omega) _ q
      ·rw[e1,aob]
      ·intro q hq
       show iY (fun w=>[bP ((aM c s k).1.getD w false)]) k 0 [bP (d9 (c.sgs.getD k ak).on (aM c s k).2).1] q=[bP ((aM c s (k+1)).1.getD q false)]
       rw[e1]
       exact jI (by omega) _ q
     ·have e1:aM c s (k+1)=aM c s k:=by rw[aM,if_neg g2]
      refine nX (k) (ai (ai (ai (fun _=>rfl) (aH (by omega))) rfl) (ai rfl (ai rfl (ai ?_ ?_)))) (ai (ai (ai (ai (fun _=>rfl) (ai rfl (fun _ _=>rfl))) rfl) (ai (ai (ai (fun _=>rfl) (ai rfl (fun _ _=>rfl))) rfl) (ai (ai (ai (fun _=>rfl) (ai rfl (fun _ _=>rfl))) rfl) (ai (ai rfl (ai rfl (ai ?_ ?_))) (ai (ai (fun _=>rfl) (ai rfl (fun _ _=>rfl))) rfl))))) trivial) trivial
      ·rw[e1]
      ·rw[e1];exact fun _ _=>rfl
      ·rw[e1]
      ·rw[e1];exact fun _ _=>rfl
    obtain rfl:k=c.sgs.length:=by omega
    refine ai (ai (fun _=>?_) ?_) trivial
    ·exact ai trivial (ai trivial (ai trivial (ai (fun _ _=>rfl) trivial)))
    show kU _ (vk (uh c s))
    rw[uh]
    exact (ai (ai rfl (fun _ _=>rfl)) (ai (ai rfl (fun _ _=>rfl)) (ai (ai rfl (fun _ _=>rfl)) (ai (ai rfl (fun _ _=>rfl)) (ai rfl (fun _ _=>rfl))))))
   exact trivial
  refine ai ?_ ?_
  ·refine cK (tF) (s.va) (by exact (ai rfl (fun _ _=>rfl))) ((by show s.va.length≤1000000;omega)) ?_
   refine cK (tF) (s.inp) (by exact (ai rfl (fun _ _=>rfl))) ((by show s.inp.length≤1000000;omega)) ?_
   refine ei _ (ai (aa8) (ei (s.vl) (ai (by exact (ai rfl (fun _ _=>rfl))) (ai (⟨by show 0<s.vl.length;omega,by show s.vl.length≤1000000;omega⟩) (ai (oG _) ?_)))))
   refine cK (tN) (s.ti) (by exact (ai rfl (fun _ _=>rfl))) ((by show s.ti.length≤1000000;omega)) ?_
   refine ei _ (ai (xU) (ei (s) (ai ?_ (ai (hsm) (ai (oG _) ?_)))))
   ·refine (ai (ai rfl (fun _ _=>rfl)) (ai (ai rfl (fun _ _=>rfl)) (ai (ai rfl (fun _ _=>rfl)) (ai (ai ?_ ?_) (ai rfl (fun _ _=>rfl))))))
    ·exact gX s.vl
    ·exact fI s.vl rfl
   refine fR (c.sgs.length) (fun k=>[(32,.s (iA k)),(6,bsR (aM c s k).2)]) (fun k=>[⟨3,57,[.s (.p true (fE s.en)),.s (.p true (kH s.va)),.s (.p true (kH s.inp)),bsW (aM c s k).1,.s (.p true (fE s.ti))]⟩]) (fun k=>True) ?_ ?_ ?_ ?_
   ·refine (ai (ai (ai (fun _=>rfl) (iE (by omega))) rfl) (ai rfl (ai rfl (ai ?_ ?_))))
    ·exact gX (fC s)
    ·exact fI (fC s) rfl
   ·refine (ai (ai (ai (ai (fun _=>rfl) (ai rfl (fun _ _=>rfl))) rfl) (ai (ai (ai (fun _=>rfl) (ai rfl (fun _ _=>rfl))) rfl) (ai (ai (ai (fun _=>rfl) (ai rfl (fun _ _=>rfl))) rfl) (ai (ai rfl (ai rfl (ai ?_ ?_))) (ai (ai (fun _=>rfl) (ai rfl (fun _ _=>rfl))) rfl))))) trivial)
    ·exact gX s.vl
    ·exact fI s.vl rfl
   ·trivial
   intro (k:Nat) ⟨hk,_⟩
   have hg:=sI c s k
   refine ah (p:=k<c.sgs.length) (aB (by dsimp only;omega)) (fun g=>?_) (fun g=>?_)
   ·refine iX (k) (c.sgs.length) ?_
    refine ah (p:=(c.sgs.getD k ak).kd=0) (by simp only[zz,reduceCtorEq]) (fun g2=>?_) (fun g2=>?_)
    ·refine cK (vT) (((c.sgs.getD k ak).on,(aM c s k).2)) (by exact (ai (ai (iE (by simp only[zz,reduceCtorEq])) (ai (iE (by simp only[zz,reduceCtorEq])) (ai rfl (fun _ _=>rfl)))) (ai rfl (fun _ _=>rfl)))) (hon k g) ?_
     refine dR (.seq [0,1,2,3,4,6,8,9,5,7,10,11,12,13]) ?_
     refine cK (nA) (c) (by exact (ai rfl (ai (ai rfl (fun _ _=>rfl)) (ai (ai rfl (fun _ _=>rfl)) (ai (ai rfl (fun _ _=>rfl)) (ai rfl (fun _ _=>rfl))))))) (hc) ?_
     refine ai (ai (aaT _) (by show ((k:Nat):Int)<((aM c s k).1.length:Int);omega)) ?_
     refine ai (ai (by show ((k:Nat):Int).toNat<(aM c s k).1.length;omega) (acn _)) ?_
     refine ai (ai (by show 0≤IntKind.i64.wrap (bU c+(k:Int));rw[hew k g];omega) (by show IntKind.i64.wrap (bU c+(k:Int))<((aM c s k).2.length:Int);rw[hew k g];omega)) ?_
     refine ai (ai (by show (IntKind.i64.wrap (bU c+(k:Int))).toNat<(aM c s k).2.length;rw[hew k g];omega) (acn _)) ?_
     have e1:(aM c s (k+1)).1=(aM c s k).1.set k (d9 (c.sgs.getD k ak).on (aM c s k).2).1:=by rw[aM,if_pos g2]
     have e2:(aM c s (k+1)).2=(aM c s k).2.set ((bU c).toNat+k) (d9 (c.sgs.getD k ak).on (aM c s k).2).1:=by rw[aM,if_pos g2]
     refine nX (k) (ai (ai (ai (fun _=>rfl) (aH (by omega))) rfl) (ai rfl (ai rfl (ai ?_ ?_)))) (ai (ai (ai (ai (fun _=>rfl) (ai rfl (fun _ _=>rfl))) rfl) (ai (ai (ai (fun _=>rfl) (ai rfl (fun _ _=>rfl))) rfl) (ai (ai (ai (fun _=>rfl) (ai rfl (fun _ _=>rfl))) rfl) (ai (ai rfl (ai rfl (ai ?_ ?_))) (ai (ai (fun _=>rfl) (ai rfl (fun _ _=>rfl))) rfl))))) trivial) trivial
     ·rw[e2,aob]
     ·intro q hq
      show iY (fun w=>[bP ((aM c s k).2.getD w false)]) (IntKind.i64.wrap (bU c+(k:Int))).toNat 0 [bP (d9 (c.sgs.getD k ak).on (aM c s k).2).1] q=[bP ((aM c s (k+1)).2.getD q false)]
      rw[hew k g,e2]
      exact jI (by omega) _ q
     ·rw[e1,aob]
     ·intro q hq
      show iY (fun w=>[bP ((aM c s k).1.getD w false)]) k 0 [bP (d9 (c.sgs.getD k ak).on (aM c s k).2).1] q=[bP ((aM c s (k+1)).1.getD q false)]
      rw[e1]
      exact jI (by omega) _ q
    ·have e1:aM c s (k+1)=aM c s k:=by rw[aM,if_neg g2]
     refine nX (k) (ai (ai (ai (fun _=>rfl) (aH (by omega))) rfl) (ai rfl (ai rfl (ai ?_ ?_)))) (ai (ai (ai (ai (fun _=>rfl) (ai rfl (fun _ _=>rfl))) rfl) (ai (ai (ai (fun _=>rfl) (ai rfl (fun _ _=>rfl))) rfl) (ai (ai (ai (fun _=>rfl) (ai rfl (fun _ _=>rfl))) rfl) (ai (ai rfl (ai rfl (ai ?_ ?_))) (ai (ai (fun _=>rfl) (ai rfl (fun _ _=>rfl))) rfl))))) trivial) trivial
     ·rw[e1]
     ·rw[e1];exact fun _ _=>rfl
     ·rw[e1]
     ·rw[e1];exact fun _ _=>rfl
   obtain rfl:k=c.sgs.length:=by omega
   refine ai (ai (fun _=>?_) ?_) trivial
   ·exact ai trivial (ai trivial (ai trivial (ai (fun _ _=>rfl) trivial)))
   show kU _ (vk (uh c s))
   rw[uh]
   exact (ai (ai rfl (fun _ _=>rfl)) (ai (ai rfl (fun _ _=>rfl)) (ai (ai rfl (fun _ _=>rfl)) (ai (ai rfl (fun _ _=>rfl)) (ai rfl (fun _ _=>rfl))))))
  exact trivial
 refine ai ?_ ?_
 ·refine cK (tN) (s.en) (by exact (ai rfl (fun _ _=>rfl))) ((by show s.en.length≤1000000;omega)) ?_
  refine cK (tF) (s.va) (by exact (ai rfl (fun _ _=>rfl))) ((by show s.va.length≤1000000;omega)) ?_
  refine cK (tF) (s.inp) (by exact (ai rfl (fun _ _=>rfl))) ((by show s.inp.length≤1000000;omega)) ?_
  refine ei _ (ai (aa8) (ei (s.vl) (ai (by exact (ai rfl (fun _ _=>rfl))) (ai (⟨by show 0<s.vl.length;omega,by show s.vl.length≤1000000;omega⟩) (ai (oG _) ?_)))))
  refine cK (tN) (s.ti) (by exact (ai rfl (fun _ _=>rfl))) ((by show s.ti.length≤1000000;omega)) ?_
  refine ei _ (ai (xU) (ei (s) (ai ?_ (ai (hsm) (ai (oG _) ?_)))))
  ·refine (ai (ai rfl (fun _ _=>rfl)) (ai (ai rfl (fun _ _=>rfl)) (ai (ai rfl (fun _ _=>rfl)) (ai (ai ?_ ?_) (ai rfl (fun _ _=>rfl))))))
   ·exact gX s.vl
   ·exact fI s.vl rfl
  refine fR (c.sgs.length) (fun k=>[(32,.s (iA k)),(6,bsR (aM c s k).2)]) (fun k=>[⟨3,57,[.s (.p true (fE s.en)),.s (.p true (kH s.va)),.s (.p true (kH s.inp)),bsW (aM c s k).1,.s (.p true (fE s.ti))]⟩]) (fun k=>True) ?_ ?_ ?_ ?_
  ·refine (ai (ai (ai (fun _=>rfl) (iE (by omega))) rfl) (ai rfl (ai rfl (ai ?_ ?_))))
   ·exact gX (fC s)
   ·exact fI (fC s) rfl
  ·refine (ai (ai (ai (ai (fun _=>rfl) (ai rfl (fun _ _=>rfl))) rfl) (ai (ai (ai (fun _=>rfl) (ai rfl (fun _ _=>rfl))) rfl) (ai (ai (ai (fun _=>rfl) (ai rfl (fun _ _=>rfl))) rfl) (ai (ai rfl (ai rfl (ai ?_ ?_))) (ai (ai (fun _=>rfl) (ai rfl (fun _ _=>rfl))) rfl))))) trivial)
   ·exact gX s.vl
   ·exact fI s.vl rfl
  ·trivial
  intro (k:Nat) ⟨hk,_⟩
  have hg:=sI c s k
  refine ah (p:=k<c.sgs.length) (aB (by dsimp only;omega)) (fun g=>?_) (fun g=>?_)
  ·refine iX (k) (c.sgs.length) ?_
   refine ah (p:=(c.sgs.getD k ak).kd=0) (by simp only[zz,reduceCtorEq]) (fun g2=>?_) (fun g2=>?_)
   ·refine cK (vT) (((c.sgs.getD k ak).on,(aM c s k).2)) (by exact (ai (ai (iE (by simp only[zz,reduceCtorEq])) (ai (iE (by simp only[zz,reduceCtorEq])) (ai rfl (fun _ _=>rfl)))) (ai rfl (fun _ _=>rfl)))) (hon k g) ?_
    refine dR (.seq [0,1,2,3,4,6,8,9,5,7,10,11,12,13]) ?_
    refine cK (nA) (c) (by exact (ai rfl (ai (ai rfl (fun _ _=>rfl)) (ai (ai rfl (fun _ _=>rfl)) (ai (ai rfl (fun _ _=>rfl)) (ai rfl (fun _ _=>rfl))))))) (hc) ?_
    refine ai (ai (aaT _) (by show ((k:Nat):Int)<((aM c s k).1.length:Int);omega)) ?_
    refine ai (ai (by show ((k:Nat):Int).toNat<(aM c s k).1.length;omega) (acn _)) ?_
    refine ai (ai (by show 0≤IntKind.i64.wrap (bU c+(k:Int));rw[hew k g];omega) (by show IntKind.i64.wrap (bU c+(k:Int))<((aM c s k).2.length:Int);rw[hew k g];omega)) ?_
    refine ai (ai (by show (IntKind.i64.wrap (bU c+(k:Int))).toNat<(aM c s k).2.length;rw[hew k g];omega) (acn _)) ?_
    have e1:(aM c s (k+1)).1=(aM c s k).1.set k (d9 (c.sgs.getD k ak).on (aM c s k).2).1:=by rw[aM,if_pos g2]
    have e2:(aM c s (k+1)).2=(aM c s k).2.set ((bU c).toNat+k) (d9 (c.sgs.getD k ak).on (aM c s k).2).1:=by rw[aM,if_pos g2]
    refine nX (k) (ai (ai (ai (fun _=>rfl) (aH (by omega))) rfl) (ai rfl (ai rfl (ai ?_ ?_)))) (ai (ai (ai (ai (fun _=>rfl) (ai rfl (fun _ _=>rfl))) rfl) (ai (ai (ai (fun _=>rfl) (ai rfl (fun _ _=>rfl))) rfl) (ai (ai (ai (fun _=>rfl) (ai rfl (fun _ _=>rfl))) rfl) (ai (ai rfl (ai rfl (ai ?_ ?_))) (ai (ai (fun _=>rfl) (ai rfl (fun _ _=>rfl))) rfl))))) trivial) trivial
    ·rw[e2,aob]
    ·intro q hq
     show iY (fun w=>[bP ((aM c s k).2.getD w false)]) (IntKind.i64.wrap (bU c+(k:Int))).toNat 0 [bP (d9 (c.sgs.getD k ak).on (aM c s k).2).1] q=[bP ((aM c s (k+1)).2.getD q false)]
     rw[hew k g,e2]
     exact jI (by omega) _ q
    ·rw[e1,aob]
    ·intro q hq
     show iY (fun w=>[bP ((aM c s k).1.getD w false)]) k 0 [bP (d9 (c.sgs.getD k ak).on (aM c s k).2).1] q=[bP ((aM c s (k+1)).1.getD q false)]
     rw[e1]
     exact jI (by omega) _ q
   ·have e1:aM c s (k+1)=aM c s k:=by rw[aM,if_neg g2]
    refine nX (k) (ai (ai (ai (fun _=>rfl) (aH (by omega))) rfl) (ai rfl (ai rfl (ai ?_ ?_)))) (ai (ai (ai (ai (fun _=>rfl) (ai rfl (fun _ _=>rfl))) rfl) (ai (ai (ai (fun _=>rfl) (ai rfl (fun _ _=>rfl))) rfl) (ai (ai (ai (fun _=>rfl) (ai rfl (fun _ _=>rfl))) rfl) (ai (ai rfl (ai rfl (ai ?_ ?_))) (ai (ai (fun _=>rfl) (ai rfl (fun _ _=>rfl))) rfl))))) trivial) trivial
    ·rw[e1]
    ·rw[e1];exact fun _ _=>rfl
    ·rw[e1]
    ·rw[e1];exact fun _ _=>rfl
  obtain rfl:k=c.sgs.length:=by omega
  refine ai (ai (fun _=>?_) ?_) trivial
  ·exact ai trivial (ai trivial (ai trivial (ai (fun _ _=>rfl) trivial)))
  show kU _ (vk (uh c s))
  rw[uh]
  exact (ai (ai rfl (fun _ _=>rfl)) (ai (ai rfl (fun _ _=>rfl)) (ai (ai rfl (fun _ _=>rfl)) (ai (ai rfl (fun _ _=>rfl)) (ai rfl (fun _ _=>rfl))))))
 exact trivial
def avR:List (Nat×(List Nat→SV))→Nat→List Nat→SV
 | [],_,_=>.any
 | (k,v) :: l,i,ns=>match k.beq i with
  | true=>v ns
  | false=>avR l i ns
def avy:List (Nat×List Nat)→Nat→List Nat
 | [],_=>[]
 | (k,v) :: l,i=>match k.beq i with
  | true=>v
  | false=>avy l i
def auT:List (Nat×(List Nat→Ob))→Nat→List Nat→Ob
 | [],_,_=>.cells 0 []
 | (k,v) :: l,i,ns=>match k.beq i with
  | true=>v ns
  | false=>auT l i ns
def aqK:List Nat→Nat
 | []=>0
 | n :: _=>n
def nU (c:bC) (k:Nat):List Bool:=(List.range c.sgs.length).map fun q=>if q<k then (c.sgs.getD q ak).ini else false
theorem sJ (c:bC) (k:Nat):(nU c k).length=c.sgs.length:=by unfold nU;simp
theorem ace {c:bC} {k q:Nat} (h:q<c.sgs.length):(nU c k).getD q false=if q<k then (c.sgs.getD q ak).ini else false:=by
 unfold nU
 rw[aai,akE,axy h];rfl
theorem akD {c:bC} {k:Nat} (h:k<c.sgs.length):(nU c k).set k (c.sgs.getD k ak).ini=nU c (k+1):=by
 have h1:=sJ c k
 have h2:=sJ c (k+1)
 refine List.ext_getElem (by rw[aob];omega) fun q g1 g2=>?_
 have e1:=ace (c:=c) (k:=k) (q:=q) (by omega)
 have e2:=ace (c:=c) (k:=k+1) (q:=q) (by omega)
 rw[aai,aau (by omega)] at e1
 rw[aai,aau g2] at e2
 rw[List.getElem_set]
 have e1:(nU c k)[q]'(by omega)=if q<k then (c.sgs.getD q ak).ini else false:=e1
 have e2:(nU c (k+1))[q]=if q<k+1 then (c.sgs.getD q ak).ini else false:=e2
 by_cases hq:k=q
 ·subst hq
  rw[if_pos rfl,e2,if_pos (by omega)]
 ·rw[if_neg hq,e1,e2]
  by_cases g:q<k
  ·rw[if_pos g,if_pos (by omega)]
  ·rw[if_neg g,if_neg (by omega)]
def ajW (c:bC):eZ:=⟨List.replicate c.act.toNat 0,List.replicate c.act.toNat false,List.replicate c.ins.length false,nU c c.sgs.length,List.replicate c.sgs.length 0⟩
def adp (c:bC):eZ:=uh c (ajW c)
theorem amm {c:bC} (h:0≤c.act):sU c (ajW c):=by
 unfold sU ajW
 refine ⟨?_,?_,?_,?_,?_⟩
 ·show ((List.replicate c.act.toNat (0:Int)).length:Int)=c.act
  rw[an7];omega
 ·show ((List.replicate c.act.toNat false).length:Int)=c.act
  rw[an7];omega
 ·exact an7
 ·exact sJ c _
 ·exact an7
theorem adD {n q:Nat} (h:q<n):[iP ((List.replicate n (0:Int)).getD q 0)]=[.val (.int .i64 0)]:=by
 rw[aai,awJ,if_pos h];rfl
theorem abI {n q:Nat} (h:q<n):[bP ((List.replicate n false).getD q false)]=[.val (.bool false)]:=by
 rw[aai,awJ,if_pos h];rfl
def zI (n:Nat):SV:=.p false (.seq n fun _=>[.val (.int .i64 0)])
def zB (n:Nat):SV:=.p false (.seq n fun _=>[.val (.bool false)])
def fsS (c:bC):qc where
 l:=[2,5,9,11,13,14,15]
 own:=[11,15]
 u:=avy [(11,[11]),(14,[11]),(15,[15])]
 f:=avR [(2,fun _=>zI c.act.toNat),(5,fun _=>zB c.act.toNat),(9,fun _=>zB c.ins.length),(11,fun ns=>.row (aqK ns)),(13,fun _=>zI c.sgs.length),(14,fun ns=>.agg [zI c.act.toNat,zB c.act.toNat,zB c.ins.length,.row (aqK ns),zI c.sgs.length]),(15,fun ns=>.own (aqK ns) 0)]
 ob:=auT [(11,fun _=>.row 4 1 c.sgs.length (fun _=>[.val (.bool false)])),(15,fun _=>.cells 57 [.p true (.val (.slice none 0 0)),.p true (.val (.slice none 0 0)),.p true (.val (.slice none 0 0)),.p true (.val (.slice none 0 0)),.p true (.val (.slice none 0 0))])]
def arS (c:bC):Prop:=agX c∧bH c=0∧0<c.sgs.length∧∀x∈c.sgs,x.on.size≤1000000
set_option maxHeartbeats 4000000 in
theorem asZ:av Tryz.prog 30 (bQ (fun c:bC=>[rQ c]) arS (fun c=>.tup [vk (adp c),iP 0])):=by
 refine vI [4000020,4000023,4000027,4000031] Tryz.func30 ?_
 rintro (c:bC) hpre
 obtain ⟨hb,hc,h0,hon⟩:=hpre
 have hc:bH c=0:=hc
 have h0:0<c.sgs.length:=h0
 have hsm:=acW hc
 refine cK (adN) (c) (by exact (ai rfl (ai (ai rfl (fun _ _=>rfl)) (ai (ai rfl (fun _ _=>rfl)) (ai (ai rfl (fun _ _=>rfl)) (ai rfl (fun _ _=>rfl))))))) (hb) ?_
 refine bN (bH c=0) (fun h1=>?_) fun h1=>?_
 ·exact absurd hc h1
 refine ei (.one 0 (.one 1 (.one 3 (.one 4 (.one 6 (.one 7 (.one 8 (.one 10 (.one 12 (.set (fsS c) (.one 16 .done))))))))))) (ai (by kernel_rfl) (ai ?_ ?_))
 ·repeat' (first | exact trivial | exact arP.mk rfl rfl rfl rfl | refine ai ?_ ?_ | intro q)
  all_goals omega
 refine ai trivial (ai (ai trivial (ai ?_ trivial)) (ai (ai trivial (ai ?_ trivial)) trivial))
 ·refine fR (c.sgs.length) (fun k=>[(36,.s (iA k))]) (fun k=>[⟨3,57,[.s (zI c.act.toNat),.s (zB c.act.toNat),.s (zB c.ins.length),bsW (nU c k),.s (zI c.sgs.length)]⟩]) (fun k=>True) ?_ ?_ ?_ ?_
  ·exact (ai (ai (fun _=>rfl) (iE (by omega))) rfl)
  ·refine (ai (ai (ai (ai nof (ai rfl (fun _ _=>rfl))) rfl) (ai (ai (ai nof (ai rfl (fun _ _=>rfl))) rfl) (ai (ai (ai nof (ai rfl (fun _ _=>rfl))) rfl) (ai (ai rfl (ai rfl (ai ?_ ?_))) (ai (ai nof (ai rfl (fun _ _=>rfl))) rfl))))) trivial)
   ·exact (sJ c 0).symm
   ·intro q hq
    have hq:q<c.sgs.length:=hq
    show [bP false]=[bP ((nU c 0).getD q false)]
    rw[ace hq,if_neg (aee q)]
  ·trivial
  intro (k:Nat) ⟨hk,_⟩
  have hl:=sJ c k
  refine bL (k<c.sgs.length) (fun g=>?_) fun g=>?_
  ·refine iX (k) (c.sgs.length) ?_
   refine ai (ai (aaT _) (by show ((k:Nat):Int)<((nU c k).length:Int);omega)) ?_
   refine ai (ai (by show ((k:Nat):Int).toNat<(nU c k).length;omega) (acn _)) ?_
   have e1:=akD g
   refine nX (k) (ai (ai (fun _=>rfl) (aH (by omega))) rfl) (ai (ai (ai (ai nof (ai rfl (fun _ _=>rfl))) rfl) (ai (ai (ai nof (ai rfl (fun _ _=>rfl))) rfl) (ai (ai (ai nof (ai rfl (fun _ _=>rfl))) rfl) (ai (ai rfl (ai rfl (ai ?_ ?_))) (ai (ai nof (ai rfl (fun _ _=>rfl))) rfl))))) trivial) trivial
   ·rw[←e1,aob]
   ·intro q hq
    show iY (fun w=>[bP ((nU c k).getD w false)]) k 0 [bP (c.sgs.getD k ak).ini] q=[bP ((nU c (k+1)).getD q false)]
    rw[←e1]
    exact jI (by omega) _ q
  obtain rfl:k=c.sgs.length:=by omega
  refine ei _ (ai (ahD) (ei ((c,ajW c)) (ei [] (ai (ai rfl (ai rfl (ai rfl (ai rfl (ai (fun _=>Or.inl rfl) (ai (fun _=>ai rfl rfl) (Or.inl rfl))))))) (ai ?_ (ai (by exact trivial) (ai (⟨ajM hc,amm (c:=c) (by omega),h0,by show c.sgs.length≤1000;omega,by show c.ins.length≤1000;omega,hon⟩) ?_)))))))
  ·refine (ai (ai rfl (ai (ai rfl (fun _ _=>rfl)) (ai (ai rfl (fun _ _=>rfl)) (ai (ai rfl (fun _ _=>rfl)) (ai rfl (fun _ _=>rfl)))))) (ai (ai ?_ ?_) (ai (ai ?_ ?_) (ai (ai ?_ ?_) (ai (ai rfl (fun _ _=>rfl)) (ai ?_ ?_))))))
   ·exact an7.symm
   ·exact fun q hq=>(adD hq).symm
   ·exact an7.symm
   ·exact fun q hq=>(abI hq).symm
   ·exact an7.symm
   ·exact fun q hq=>(abI hq).symm
   ·exact an7.symm
   ·exact fun q hq=>(adD hq).symm
  refine eF (.tup [vk (adp c),iP 0]) ?_
  rw[adp]
  exact (ai (ai (ai rfl (fun _ _=>rfl)) (ai (ai rfl (fun _ _=>rfl)) (ai (ai rfl (fun _ _=>rfl)) (ai (ai rfl (fun _ _=>rfl)) (ai rfl (fun _ _=>rfl)))))) rfl)
 ·refine fR (c.sgs.length) (fun k=>[(36,.s (iA k))]) (fun k=>[⟨2,57,[.s (zI c.act.toNat),.s (zB c.act.toNat),.s (zB c.ins.length),bsW (nU c k),.s (zI c.sgs.length)]⟩]) (fun k=>True) ?_ ?_ ?_ ?_
  ·exact (ai (ai (fun _=>rfl) (iE (by omega))) rfl)
  ·refine (ai (ai (ai (ai nof (ai rfl (fun _ _=>rfl))) rfl) (ai (ai (ai nof (ai rfl (fun _ _=>rfl))) rfl) (ai (ai (ai nof (ai rfl (fun _ _=>rfl))) rfl) (ai (ai rfl (ai rfl (ai ?_ ?_))) (ai (ai nof (ai rfl (fun _ _=>rfl))) rfl))))) trivial)
   ·exact (sJ c 0).symm
   ·intro q hq
    have hq:q<c.sgs.length:=hq
    show [bP false]=[bP ((nU c 0).getD q false)]
    rw[ace hq,if_neg (aee q)]
  ·trivial
  intro (k:Nat) ⟨hk,_⟩
  have hl:=sJ c k
  refine bL (k<c.sgs.length) (fun g=>?_) fun g=>?_
  ·refine iX (k) (c.sgs.length) ?_
   refine ai (ai (aaT _) (by show ((k:Nat):Int)<((nU c k).length:Int);omega)) ?_
   refine ai (ai (by show ((k:Nat):Int).toNat<(nU c k).length;omega) (acn _)) ?_
   have e1:=akD g
   refine nX (k) (ai (ai (fun _=>rfl) (aH (by omega))) rfl) (ai (ai (ai (ai nof (ai rfl (fun _ _=>rfl))) rfl) (ai (ai (ai nof (ai rfl (fun _ _=>rfl))) rfl) (ai (ai (ai nof (ai rfl (fun _ _=>rfl))) rfl) (ai (ai rfl (ai rfl (ai ?_ ?_))) (ai (ai nof (ai rfl (fun _ _=>rfl))) rfl))))) trivial) trivial
   ·rw[←e1,aob]
   ·intro q hq
    show iY (fun w=>[bP ((nU c k).getD w false)]) k 0 [bP (c.sgs.getD k ak).ini] q=[bP ((nU c (k+1)).getD q false)]
    rw[←e1]
    exact jI (by omega) _ q
  obtain rfl:k=c.sgs.length:=by omega
  refine ei _ (ai (ahD) (ei ((c,ajW c)) (ei [] (ai (ai rfl (ai rfl (ai rfl (ai rfl (ai (fun _=>Or.inl rfl) (ai (fun _=>ai rfl rfl) (Or.inl rfl))))))) (ai ?_ (ai (by exact trivial) (ai (⟨ajM hc,amm (c:=c) (by omega),h0,by show c.sgs.length≤1000;omega,by show c.ins.length≤1000;omega,hon⟩) ?_)))))))
  ·refine (ai (ai rfl (ai (ai rfl (fun _ _=>rfl)) (ai (ai rfl (fun _ _=>rfl)) (ai (ai rfl (fun _ _=>rfl)) (ai rfl (fun _ _=>rfl)))))) (ai (ai ?_ ?_) (ai (ai ?_ ?_) (ai (ai ?_ ?_) (ai (ai rfl (fun _ _=>rfl)) (ai ?_ ?_))))))
   ·exact an7.symm
   ·exact fun q hq=>(adD hq).symm
   ·exact an7.symm
   ·exact fun q hq=>(abI hq).symm
   ·exact an7.symm
   ·exact fun q hq=>(abI hq).symm
   ·exact an7.symm
   ·exact fun q hq=>(adD hq).symm
  refine eF (.tup [vk (adp c),iP 0]) ?_
  rw[adp]
  exact (ai (ai (ai rfl (fun _ _=>rfl)) (ai (ai rfl (fun _ _=>rfl)) (ai (ai rfl (fun _ _=>rfl)) (ai (ai rfl (fun _ _=>rfl)) (ai rfl (fun _ _=>rfl)))))) rfl)
def vQ (t:rD):Bool:=decide (t.fr.length≤40)&&(decide (t.to.length≤40)&&oK t.wh)
def kP (c:aA):Bool:=(decide (c.ins.length≤40)&&(decide (c.sts.length≤60)&&decide (c.trs.length≤60)))&&((c.ins.all fun t=>decide (t.length≤100))&&((c.sts.all fun x=>decide (x.st.length≤40))&&((c.trs.all vQ)&&((decide (c.sts.length≤7)&&decide (c.trs.length≤9))||decide (¬cB c=0)))))
theorem ab2 {c:aA} (h:¬(c.ins.length≤40∧c.sts.length≤60∧c.trs.length≤60)):kP c=false:=by
 unfold kP
 rw[←axY,←axY,decide_eq_false h,aoc]
theorem aqU {c:aA} (h:∃x∈c.ins,¬x.length≤100):kP c=false:=by
 obtain ⟨x,hx,h⟩:=h
 unfold kP
 rw[show (c.ins.all fun t=>decide (t.length≤100))=false from asa.2 ⟨x,hx,by simpa using h⟩,aoc,ar0]
theorem akc {c:aA} (h:∃x∈c.sts,¬x.st.length≤40):kP c=false:=by
 obtain ⟨x,hx,h⟩:=h
 unfold kP
 rw[show (c.sts.all fun x=>decide (x.st.length≤40))=false from asa.2 ⟨x,hx,by simpa using h⟩,aoc,ar0,ar0]
theorem abY {c:aA} (h:∃x∈c.trs,vQ x=false):kP c=false:=by
 obtain ⟨x,hx,h⟩:=h
 unfold kP
 rw[show c.trs.all vQ=false from asa.2 ⟨x,hx,by rw[h];decide⟩,aoc,ar0,ar0,ar0]
theorem aql {c:aA} (h1:c.ins.length≤40∧c.sts.length≤60∧c.trs.length≤60) (h2:∀x∈c.ins,x.length≤100) (h3:∀x∈c.sts,x.st.length≤40) (h4:∀x∈c.trs,vQ x=true):kP c=((decide (c.sts.length≤7)&&decide (c.trs.length≤9))||decide (¬cB c=0)):=by
 unfold kP
 rw[←axY,←axY,decide_eq_true h1,ac9,show (c.ins.all fun t=>decide (t.length≤100))=true from alQ.2 fun x hx=>decide_eq_true (h2 x hx),ac9,show (c.sts.all fun x=>decide (x.st.length≤40))=true from alQ.2 fun x hx=>decide_eq_true (h3 x hx),ac9,alQ.2 h4,ac9]
theorem ap1 {t:rD} (h:vQ t=true):t.fr.length≤40∧t.to.length≤40∧oK t.wh=true:=by
 unfold vQ at h
 rw[aaX,aaX] at h
 exact ⟨of_decide_eq_true h.1,of_decide_eq_true h.2.1,h.2.2⟩
theorem akw {c:aA} (h1:c.ins.length≤40∧c.sts.length≤60∧c.trs.length≤60) (h3:∀x∈c.sts,x.st.length≤40) (h4:∀x∈c.trs,vQ x=true):gN c:=by
 refine ⟨fun s hs=>?_,fun t ht=>?_⟩
 ·have:=h3 s hs;omega
 ·obtain ⟨h5,h6,h7⟩:=ap1 (h4 t ht)
  have:=aoK h7
  exact ⟨by omega,by omega,by omega⟩
theorem avr (x:Int):decide (¬x=0)=(x != 0):=by
 by_cases h:x=0
 ·subst h;rfl
 ·rw[decide_eq_true h];exact (bne_iff_ne.2 h).symm
theorem ara:av Tryz.prog 47 (bq (fun c:aA=>[jh c]) (fun _=>True) (fun c=>bP (kP c))):=by
 refine vF Tryz.func47 ?_
 rintro (c:aA) hpre
 refine bL (40<c.ins.length) (fun h1=>?_) fun h1=>?_
 ·refine eN (bP (kP c)) ?_
  rw[ab2 (fun h=>absurd h.1 (by omega))]
  exact rfl
 refine bL (60<c.sts.length) (fun h2=>?_) fun h2=>?_
 ·refine eN (bP (kP c)) ?_
  rw[ab2 (fun h=>absurd h.2.1 (by omega))]
  exact rfl
 refine bL (60<c.trs.length) (fun h3=>?_) fun h3=>?_
 ·refine eN (bP (kP c)) ?_
  rw[ab2 (fun h=>absurd h.2.2 (by omega))]
  exact rfl
 have hs1:c.ins.length≤40∧c.sts.length≤60∧c.trs.length≤60:=⟨by omega,by omega,by omega⟩
 refine fR (c.ins.length) (fun k=>[(3,.s (iA k))]) (fun k=>[]) (fun k=>∀y∈c.ins.take k,y.length≤100) (by exact (ai (ai (fun _=>rfl) (iE (by omega))) rfl)) (by exact trivial) ?_ ?_
 ·exact fun y hy=>absurd hy (by simp)
 intro (k:Nat) ⟨hk,hall⟩
 refine bL (k<c.ins.length) (fun h4=>?_) fun h4=>?_
 ·refine iX (k) (c.ins.length) ?_
  have hz:=bY (c.ins.getD k [])
  refine ah (p:=100<(c.ins.getD k []).length) (by exact aB (by show (100:Int)<((strOf (c.ins.getD k [])).size:Int)↔_;rw[hz];omega)) (fun h5=>?_) (fun h5=>?_)
  ·refine eN (bP (kP c)) ?_
   rw[aqU ⟨_,aay (bB [] h4),by omega⟩]
   exact rfl
  refine nX (k) (ai (ai (fun _=>rfl) (aH (by omega))) rfl) trivial ?_
  intro y hy
  rw[aO [] h4] at hy
  rcases acw.1 hy with hy | hy
  ·exact hall y hy
  ·simp only[acC] at hy;subst hy;omega
 obtain rfl:k=c.ins.length:=by omega
 rw[acr] at hall
 have hins:=hall
 clear hall
 refine fR (c.sts.length) (fun k=>[(4,.s (iA k))]) (fun k=>[]) (fun k=>∀y∈c.sts.take k,y.st.length≤40) (by exact (ai (ai (fun _=>rfl) (iE (by omega))) rfl)) (by exact trivial) ?_ ?_
 ·exact fun y hy=>absurd hy (by simp)
 intro (k:Nat) ⟨hk,hall⟩
 refine bL (k<c.sts.length) (fun h4=>?_) fun h4=>?_
 ·refine iX (k) (c.sts.length) ?_
  refine ah (p:=40<(c.sts.getD k st0).st.length) (by simp only[zz,reduceCtorEq];omega) (fun h5=>?_) (fun h5=>?_)
  ·refine eN (bP (kP c)) ?_
   rw[akc ⟨_,aay (bB st0 h4),by omega⟩]
   exact rfl
  refine nX (k) (ai (ai (fun _=>rfl) (aH (by omega))) rfl) trivial ?_
  intro y hy
  rw[aO st0 h4] at hy
  rcases acw.1 hy with hy | hy
  ·exact hall y hy
  ·simp only[acC] at hy;subst hy;omega
 obtain rfl:k=c.sts.length:=by omega
 rw[acr] at hall
 have hsts:=hall
 clear hall
 refine fR (c.trs.length) (fun k=>[(5,.s (iA k))]) (fun k=>[]) (fun k=>∀y∈c.trs.take k,vQ y=true) (by exact (ai (ai (fun _=>rfl) (iE (by omega))) rfl)) (by exact trivial) ?_ ?_
 ·exact fun y hy=>absurd hy (by simp)
 intro (k:Nat) ⟨hk,hall⟩
 refine bL (k<c.trs.length) (fun h4=>?_) fun h4=>?_
 ·refine iX (k) (c.trs.length) ?_
  refine ah (p:=40<(c.trs.getD k aY).fr.length) (by simp only[zz,reduceCtorEq];omega) (fun h5=>?_) (fun h5=>?_)
  ·refine eN (bP (kP c)) ?_
   rw[abY ⟨_,aay (bB aY h4),by unfold vQ;rw[decide_eq_false (by omega),aoc]⟩]
   exact rfl
  refine ah (p:=40<(c.trs.getD k aY).to.length) (by simp only[zz,reduceCtorEq];omega) (fun h6=>?_) (fun h6=>?_)
  ·refine eN (bP (kP c)) ?_
   rw[abY ⟨_,aay (bB aY h4),by unfold vQ;rw[decide_eq_false (p:=(c.trs.getD k aY).to.length≤40) (by omega),aoc,ar0]⟩]
   exact rfl
  refine cK (au7) ((c.trs.getD k aY).wh) (by exact (ai (iE (by simp only[zz,reduceCtorEq])) (ai (iE (by simp only[zz,reduceCtorEq])) (ai rfl (fun _ _=>rfl))))) (trivial) ?_
  refine aC (b:=!oK (c.trs.getD k aY).wh) rfl (fun h7=>?_) (fun h7=>?_)
  ·have h7:oK (c.trs.getD k aY).wh=false:=by simpa using h7
   refine eN (bP (kP c)) ?_
   rw[abY ⟨_,aay (bB aY h4),by unfold vQ;rw[h7,ar0,ar0]⟩]
   exact rfl
  have h7:oK (c.trs.getD k aY).wh=true:=by simpa using h7
  refine nX (k) (ai (ai (fun _=>rfl) (aH (by omega))) rfl) trivial ?_
  intro y hy
  rw[aO aY h4] at hy
  rcases acw.1 hy with hy | hy
  ·exact hall y hy
  ·simp only[acC] at hy;subst hy;unfold vQ;rw[decide_eq_true (by omega),decide_eq_true (by omega),h7];rfl
 obtain rfl:k=c.trs.length:=by omega
 rw[acr] at hall
 have hy:=aql hs1 hins hsts hall
 have ho:=akw hs1 hsts hall
 refine bG (c.sts.length≤7) (fun h4=>?_) fun h4=>?_
 ·refine bG (c.trs.length≤9) (fun h5=>?_) fun h5=>?_
  ·refine eN (bP (kP c)) ?_
   rw[hy,decide_eq_true h4,decide_eq_true h5,ac9,aen]
   exact rfl
  ·refine cK (agt) (c) (by exact (ai rfl (ai (ai rfl (fun _ _=>rfl)) (ai (ai rfl (fun _ _=>rfl)) (ai rfl (fun _ _=>rfl)))))) (ho) ?_
   refine eN (bP (kP c)) ?_
   rw[hy,decide_eq_false h5,ar0,arK,avr (cB c)]
   exact rfl
 ·refine cK (agt) (c) (by exact (ai rfl (ai (ai rfl (fun _ _=>rfl)) (ai (ai rfl (fun _ _=>rfl)) (ai rfl (fun _ _=>rfl)))))) (ho) ?_
  refine eN (bP (kP c)) ?_
  rw[hy,decide_eq_false h4,aoc,arK,avr (cB c)]
  exact rfl
theorem alm {c:aA} (h:kP c=true):gN c∧akJ c∧c.ins.length≤1000000:=by
 by_cases h1:c.ins.length≤40∧c.sts.length≤60∧c.trs.length≤60
 ·by_cases h3:∀x∈c.sts,x.st.length≤40
  ·by_cases h4:∀x∈c.trs,vQ x=true
   ·exact ⟨akw h1 h3 h4,⟨by omega,by omega⟩,by omega⟩
   ·simp only[Classical.not_forall] at h4
    obtain ⟨x,hx,h4⟩:=h4
    rw[abY ⟨x,hx,by simpa using h4⟩] at h;cases h
  ·simp only[Classical.not_forall] at h3
   obtain ⟨x,hx,h3⟩:=h3
   rw[akc ⟨x,hx,h3⟩] at h;cases h
 ·rw[ab2 h1] at h;cases h
def three:kY:=⟨2,[⟨[(0,true)],0⟩,⟨[(1,true)],150⟩,⟨[(0,false),(1,false)],0⟩]⟩
def auZ (n:Int) (b:Bool):PV:=.seq 1 (aU 2 [iP n,bP b])
def zy:PV:=.agg [iP 2,.seq 3 (aU 2 [auZ 0 true,iP 0,auZ 1 true,iP 150,.seq 2 (aU 2 [iP 0,bP false,iP 1,bP false]),iP 0])]
theorem aou:av Tryz.prog 48 (bQ (fun _:Unit=>[]) (fun _=>True) (fun _=>zy)):=by
 refine vI [4000002,4000005,4000009,4000011] Tryz.func48 ?_
 rintro (u:Unit) hpre
 refine eF (zy) ?_
 rw[show zy=zy from rfl]
 exact (ai rfl (ai rfl (fun _ _=>rfl)))
theorem apX:fQ zy (.agg (sqK three)):=by
 refine mU (aG (.refl _) (aG (iG fun k hk=>?_) rA))
 match k,hk with
 | 0,_=>exact ark (iG fun k hk=>by match k,hk with | 0,_=>exact cu.rfl' _) (.refl _)
 | 1,_=>exact ark (iG fun k hk=>by match k,hk with | 0,_=>exact cu.rfl' _) (.refl _)
 | 2,_=>exact ark (iG fun k hk=>by match k,hk with | 0,_=>exact cu.rfl' _ | 1,_=>exact cu.rfl' _) (.refl _)
theorem ajg:av Tryz.prog 48 (bQ (fun _:Unit=>[]) (fun _=>True) (fun _=>.agg (sqK three))):=gW aou fun _ _=>apX
theorem ahR:∀l:List Sk,sizes (l.map fun y=>fG (l7 y))=l.length
 | []=>by simp[sizes]
 | y :: l=>by
  rw[awI,sizes,ahR l,aog]
  show (Ex.node 1 (l7 y) []).size+l.length=_
  rw[Ex.size,sizes];omega
theorem ahJ:∀l:List Sk,gL (l.map fun y=>fG (l7 y))≤1
 | []=>by simp[gL]
 | y :: l=>by
  rw[awI,gL]
  have:=ahJ l
  have h:(fG (l7 y)).deep=1:=by show (Ex.node 1 (l7 y) []).deep=1;rw[Ex.deep,gL]
  omega
theorem abz (n:Int):eO (fG n)=true:=jy.2 ⟨by show (Ex.node 1 n []).size≤256;rw[Ex.size,sizes];omega,by show (Ex.node 1 n []).deep≤16;rw[Ex.deep,gL];omega⟩
theorem afN {l:List Sk} (h:l.length≤6):eO (.node 3 0 (l.map fun y=>fG (l7 y)))=true:=by
 have h1:=ahR l
 have h2:=ahJ l
 exact jy.2 ⟨by rw[Ex.size];omega,by rw[Ex.deep];omega⟩
theorem afD {l:List Sk} (h:l.length≤6):eO (aha l)=true:=by
 match l,h with
 | [y],_=>exact abz _
 | [],h=>exact afN h
 | a :: b :: l,h=>exact afN h
def okQ (q:SX):Prop:=q.1.st.length≤6∧eO q.2=true
theorem aul {s:kY} (h:∀x∈s.sts,x.st.length≤6):∀q∈zl s,okQ q:=by
 have key:∀(l:List Stp) (p:List SX),(∀x∈l,x.st.length≤6)→(∀q∈p,okQ q)→∀q∈l.foldl (ae5 s.act) p,okQ q:=by
  intro l
  induction l with
  | nil=>intro p _ h;exact h
  | cons x l ih=>
   intro p hx h
   rw[avb]
   refine ih _ (fun y hy=>hx y (by simp[hy])) fun q hq=>?_
   have hx0:=hx x (by simp)
   unfold ae5 at hq
   split at hq
   ·rcases acw.1 hq with hq | hq
    ·rcases acw.1 hq with hq | hq
     ·exact h q hq
     ·simp only[acC] at hq;subst hq;exact ⟨hx0,afD hx0⟩
    ·simp only[acC] at hq;subst hq;exact ⟨ah8 _,abz _⟩
   ·rcases acw.1 hq with hq | hq
    ·exact h q hq
    ·simp only[acC] at hq;subst hq;exact ⟨hx0,afD hx0⟩
 exact key s.sts _ h fun q hq=>by simp only[acC] at hq;subst hq;exact ⟨ah8 _,abz _⟩
theorem ath {s:kY} (h:rM s=0):mK s=0∧(zl s).length≤24:=by
 unfold rM at h
 split at h
 ·rename_i h1;exact absurd h h1
 ·rename_i h1
  split at h
  ·cases h
  ·rename_i h2
   rw[akj,aeu] at h2
   exact ⟨aku.1 h1,by omega⟩
theorem aod (s:kY):apH (ofC s):=by
 unfold ofC
 split
 ·rename_i h
  obtain ⟨h1,h2⟩:=ath h
  obtain ⟨_,_,hck⟩:=seq_ok h1
  have hq:=aul (s:=s) fun x hx=>(zi (hck x hx)).1.2
  refine ⟨⟨?_,?_⟩,?_,fun x hx=>?_,fun t ht=>?_⟩
  ·show ((zl s).map (·.1)).length≤_;rw[aeu];omega
  ·show ((List.range (zl s).length).map (ae1 (zl s))).length≤_;rw[aeu,at6];omega
  ·show 1≤1000000;omega
  ·have hx:x∈(zl s).map (·.1):=hx
   obtain ⟨q,hq1,rfl⟩:=aum.1 hx
   have:=(hq q hq1).1;omega
  ·have ht:t∈(List.range (zl s).length).map (ae1 (zl s)):=ht
   obtain ⟨k,hk,rfl⟩:=aum.1 ht
   have hk:=aup.1 hk
   exact ⟨by show 1≤1000000;omega,by show 1≤1000000;omega,(hq _ (aay (bB sx0 hk))).2⟩
 ·exact ⟨⟨ah8 _,ah8 _⟩,ah8 _,(fun x hx=>nomatch (show x∈([]:List Stp) from hx)),(fun t ht=>nomatch (show t∈([]:List rD) from ht))⟩
theorem ajk {c:aA} (h:apH c):gN c:=⟨h.2.2.1,fun t ht=>⟨(h.2.2.2 t ht).1,(h.2.2.2 t ht).2.1,by have:=(jy.1 (h.2.2.2 t ht).2.2).1;omega⟩⟩
def ocN (s:kY):Int:=if rM s=0 then bM (ofC s) else rM s
def ocC (s:kY):bC:=if rM s=0 then adj (ofC s) else zC
def ocP (s:kY):PV:=.tup [ctP (ocC s),iP (ocN s)]
def abG (s:kY):PV:=if rM s=0 then .tup [ctP (adj (ofC s)),iP (bM (ofC s))] else .tup [zCP,iP (rM s)]
theorem awv (s:kY):fQ (abG s) (ocP s):=by
 unfold abG ocP ocC ocN
 split
 ·exact .refl _
 ·exact vo (aG ar1 (nY (.refl _)))
theorem ate:av Tryz.prog 23 (bQ (fun s:kY=>[sqA s]) (fun _=>True) ocP):=by
 have h:av Tryz.prog 23 (bQ (fun s:kY=>[sqA s]) (fun _=>True) abG):=by
  refine vF Tryz.func23 ?_
  rintro (s:kY) hpre
  refine cK (acy) (s) (by exact (ai rfl (ai rfl (fun _ _=>rfl)))) (trivial) ?_
  refine bN (rM s=0) (fun h1=>?_) fun h1=>?_
  ·refine eF (abG s) ?_
   rw[abG,if_neg h1]
   exact (ai (ai rfl (ai rfl (ai rfl (ai rfl rfl)))) rfl)
  refine cK (ad8) (ofC s) (by exact (ai rfl (ai (ai rfl (fun _ _=>rfl)) (ai (ai rfl (fun _ _=>rfl)) (ai rfl (fun _ _=>rfl)))))) (ajk (aod s)) ?_
  refine eF (abG s) ?_
  rw[abG,if_pos h1]
  exact (ai (ai rfl (ai (ai rfl (fun _ _=>rfl)) (ai (ai rfl (fun _ _=>rfl)) (ai (ai rfl (fun _ _=>rfl)) (ai rfl (fun _ _=>rfl)))))) rfl)
 exact gW h fun s _=>awv s
def vrY (n:Int):Ex:=.node 1 n []
def jQ:aA:=⟨2,[[115,116,97,114,116]],[⟨[],0⟩,⟨[(0,true)],0⟩,⟨[(1,true)],0⟩,⟨[],150⟩,⟨[(0,false),(1,false)],0⟩],
 [⟨[0],[1],vrY 4⟩,⟨[1],[2],vrY 1⟩,⟨[2],[3],vrY 3⟩,⟨[3],[4],vrY 8⟩,⟨[4],[0],.node 3 0 [vrY 0,vrY 2]⟩]⟩
theorem ahd:ofC three=jQ:=by kernel_rfl
theorem akB:rM three=0:=by decide +kernel
theorem aa0:bM jQ=0:=by decide +kernel
def sK:bC:=gF jQ
theorem asu:adj jQ=sK:=if_pos aa0
theorem apP:sK.sgs.length=15:=by decide +kernel
theorem aun:(sK.sgs.getD 6 ak).nm=[122,48]:=by decide +kernel
theorem axh:dL jQ jQ.sts.length=[5,6,7,8,9]:=by decide +kernel
theorem axe:cZ jQ jQ.sts.length=[-1099511627776,-1099511627776,-1099511627776,10,-1099511627776]:=by decide +kernel
def aeJ:eZ:={ adp sK with inp:=[true] }
theorem avd:rH jQ aeJ=0:=by decide +kernel
theorem auL:za jQ aeJ=[false,true,false,false,false]:=by decide +kernel
theorem awV:ocC three=sK:=by unfold ocC;rw[if_pos akB,ahd,asu]
theorem aw7:ocN three=0:=by unfold ocN;rw[if_pos akB,ahd,aa0]
theorem air:gN jQ:=by
 refine ⟨fun s hs=>?_,fun t ht=>?_⟩
 ·have:∀s∈jQ.sts,s.st.length≤2:=by decide
  have:=this s hs;omega
 ·have:∀t∈jQ.trs,t.fr.length≤2∧t.to.length≤2∧t.wh.size≤10:=by decide +kernel
  have:=this t ht
  exact ⟨by omega,by omega,by omega⟩
theorem axa:kL jQ:=⟨(lN.1 aa0).1,air⟩
theorem bd3:agX sK:=aa9 axa
theorem fs3:arS sK:=by
 refine ⟨bd3,(lN.1 aa0).2,by rw[apP];decide,fun x hx=>?_⟩
 have:∀x∈sK.sgs,x.on.size≤100:=by decide +kernel
 have:=this x hx
 omega
theorem cs3:amw (jQ,aeJ):=by
 refine ⟨air,?_,?_⟩
 ·exact ⟨by decide +kernel,by decide +kernel⟩
 ·exact ⟨by decide +kernel,by decide +kernel,by decide +kernel⟩
section
variable {z : Int} (hz : z = 0)
include hz
theorem asX:av Tryz.prog 23 (bQ (fun _:Unit=>[sqA three]) (fun _=>True) (fun _=>.tup [ctP sK,iP z])):=
 mM ate three trivial (by show PV.tup [ctP (ocC three),iP (ocN three)]=_;rw[hz,awV,aw7])
theorem asT:av Tryz.prog 49 (bQ (fun _:Unit=>[sqA three]) (fun _=>True) (fun _=>.tup [chP jQ,iP z])):=
 mM acy three trivial (by show PV.tup [chP (ofC three),iP (rM three)]=_;rw[hz,ahd,akB])
theorem atz:av Tryz.prog 16 (bQ (fun _:Unit=>[jh jQ]) (fun _=>True) (fun _=>.tup [fE [5,6,7,8,9],iP z])):=
 mM ahW jQ air (by show adi (bM jQ) (dL jQ jQ.sts.length)=_;rw[aa0,axh,hz];rfl)
theorem asM:av Tryz.prog 18 (bQ (fun _:Unit=>[jh jQ]) (fun _=>True) (fun _=>.tup [fE [-1099511627776,-1099511627776,-1099511627776,10,-1099511627776],iP z])):=
 mM afZ jQ air (by show adi (bM jQ) (cZ jQ jQ.sts.length)=_;rw[aa0,axe,hz];rfl)
theorem asA:av Tryz.prog 30 (bQ (fun _:Unit=>[rQ sK]) (fun _=>True) (fun _=>.tup [vk (adp sK),iP z])):=
 mM asZ sK fs3 (by show PV.tup [vk (adp sK),iP 0]=_;rw[hz])
theorem atQ:av Tryz.prog 26 (bQ (fun _:Unit=>[jh jQ,yR aeJ]) (fun _=>True) (fun _=>.tup [kH [false,true,false,false,false],iP z])):=
 mM arz (jQ,aeJ) cs3 (by show anp (rH jQ aeJ) (za jQ aeJ)=_;rw[avd,auL,hz];rfl)
end
theorem aix (l:List Int) (h:l.length≤1000000):av Tryz.prog 50 (bq (fun _:Unit=>[isA l,isA l]) (fun _=>True) (fun _=>bP true)):=
 uT atO (l,l) h (by show bP (decide (l=l))=_;rw[decide_eq_true rfl])
theorem av1 (l:List Bool) (h:l.length≤1000000):av Tryz.prog 33 (bq (fun _:Unit=>[rY l,rY l]) (fun _=>True) (fun _=>bP true)):=
 uT agx (l,l) h (by show bP (decide (l=l))=_;rw[decide_eq_true rfl])
theorem afm:av Tryz.prog 12 (bq (fun _:Unit=>[]) (fun _=>True) (fun _=>bP true)):=by
 refine vI [4000059,4000071,4000076,4000082,4000088,4000101] Tryz.func12 ?_
 rintro ⟨⟩ hpre
 obtain ⟨z,hz⟩:∃z:Int,z=0:=⟨0,rfl⟩
 refine cK (ajg) (()) (by exact trivial) (trivial) ?_
 refine cK ((asX hz)) (()) (by exact (ai rfl (ai rfl (fun _ _=>rfl)))) (trivial) ?_
 refine cK (ajg) (()) (by exact trivial) (trivial) ?_
 refine cK ((asT hz)) (()) (by exact (ai rfl (ai rfl (fun _ _=>rfl)))) (trivial) ?_
 refine cK ((atz hz)) (()) (by exact (ai rfl (ai (ai rfl (fun _ _=>rfl)) (ai (ai rfl (fun _ _=>rfl)) (ai rfl (fun _ _=>rfl)))))) (trivial) ?_
 refine cK ((asM hz)) (()) (by exact (ai rfl (ai (ai rfl (fun _ _=>rfl)) (ai (ai rfl (fun _ _=>rfl)) (ai rfl (fun _ _=>rfl)))))) (trivial) ?_
 refine cK ((asA hz)) (()) (by exact (ai rfl (ai (ai rfl (fun _ _=>rfl)) (ai (ai rfl (fun _ _=>rfl)) (ai (ai rfl (fun _ _=>rfl)) (ai rfl (fun _ _=>rfl))))))) (trivial) ?_
 refine bF (by simp only[hz,Int.add_zero,aoV];rfl) ?_
 refine ei _ (ai ((atQ hz)) (ei (()) (ei [] (ai (a4 (ai (fun _=>Or.inl rfl) (ai nof (Or.inl rfl)))) (ai ?_ (ai trivial (ai ?_ ?_)))))))
 ·refine (ai (ai rfl (ai (ai rfl (fun _ _=>rfl)) (ai (ai rfl (fun _ _=>rfl)) (ai rfl (fun _ _=>rfl))))) (ai (ai rfl (fun _ _=>rfl)) (ai (ai rfl (fun _ _=>rfl)) (ai (ai rfl ?_) (ai (ai rfl (fun _ _=>rfl)) (ai rfl (fun _ _=>rfl)))))))
  (intro k hk;have hk:k<1:=hk;match k,hk with | 0,_=>rfl)
 ·trivial
 refine bT (by simp only[hz,Int.add_zero,aoV];rfl) ?_
 refine ei _ (ai ((aix [5,6,7,8,9] (by decide))) (ei (()) (ei [] (ai (a4 (ai (fun _=>Or.inl rfl) (ai nof (Or.inl rfl)))) (ai ?_ (ai trivial (ai ?_ ?_)))))))
 ·refine (ai (ai rfl (fun _ _=>rfl)) (ai rfl ?_))
  (intro k hk;have hk:k<5:=hk;match k,hk with | 0,_=>rfl | 1,_=>rfl | 2,_=>rfl | 3,_=>rfl | 4,_=>rfl)
 ·trivial
 refine ei _ (ai ((aix [-1099511627776,-1099511627776,-1099511627776,10,-1099511627776] (by decide))) (ei (()) (ei [] (ai (a4 (ai (fun _=>Or.inl rfl) (ai nof (Or.inl rfl)))) (ai ?_ (ai trivial (ai ?_ ?_)))))))
 ·refine (ai (ai rfl (fun _ _=>rfl)) (ai rfl ?_))
  (intro k hk;have hk:k<5:=hk;match k,hk with | 0,_=>rfl | 1,_=>rfl | 2,_=>rfl | 3,_=>rfl | 4,_=>rfl)
 ·trivial
 refine ei _ (ai ((aix [16,18] (by decide))) (ei (()) (ei [] (ai (a4 (ai (fun _=>Or.inl rfl) (ai nof (Or.inl rfl)))) (ai ?_ (ai trivial (ai ?_ ?_)))))))
 ·refine (ai (ai rfl (fun _ _=>rfl)) (ai rfl ?_))
  (intro k hk;have hk:k<2:=hk;match k,hk with | 0,_=>rfl | 1,_=>rfl)
 ·trivial
 refine ei _ (ai ((aix [17,19] (by decide))) (ei (()) (ei [] (ai (a4 (ai (fun _=>Or.inl rfl) (ai nof (Or.inl rfl)))) (ai ?_ (ai trivial (ai ?_ ?_)))))))
 ·refine (ai (ai rfl (fun _ _=>rfl)) (ai rfl ?_))
  (intro k hk;have hk:k<2:=hk;match k,hk with | 0,_=>rfl | 1,_=>rfl)
 ·trivial
 refine ai (ai (by decide) (by show (6:Int)<(sK.sgs.length:Int);rw[apP];decide)) (ai rfl ?_)
 refine bT (by show ((strOf (sK.sgs.getD 6 ak).nm).data.toList==(⟨#[122,48]⟩:ByteArray).data.toList)=true;rw[aun];decide +kernel) ?_
 refine ei _ (ai ((av1 [false,true,false,false,false] (by decide))) (ei (()) (ei [] (ai (a4 (ai (fun _=>Or.inl rfl) (ai nof (Or.inl rfl)))) (ai ?_ (ai trivial (ai ?_ ?_)))))))
 ·refine (ai (ai rfl (fun _ _=>rfl)) (ai rfl ?_))
  (intro k hk;have hk:k<5:=hk;match k,hk with | 0,_=>rfl | 1,_=>rfl | 2,_=>rfl | 3,_=>rfl | 4,_=>rfl)
 ·trivial
 refine eN _ ?_
 exact rfl
theorem aqd:av Tryz.prog 11 (bq (fun c:aA=>[jh c]) (fun _=>True) (fun c=>bP (kP c))):=by
 refine vF Tryz.func11 ?_
 rintro (c:aA) hpre
 refine cK (ara) (c) (by exact (ai rfl (ai (ai rfl (fun _ _=>rfl)) (ai (ai rfl (fun _ _=>rfl)) (ai rfl (fun _ _=>rfl)))))) (trivial) ?_
 refine eN _ ?_
 exact rfl
theorem aoi {x:Ex} (h:bK x=true):eO x=true:=by
 cases x with
 | node o i l=>
  unfold bK at h
  have hl:l.isEmpty=true:=by
   simp only[aaX] at h
   exact h.2
  cases l with
  | nil=>exact jy.2 ⟨by rw[Ex.size,sizes];omega,by rw[Ex.deep,gL];omega⟩
  | cons _ _=>cases hl
theorem apv {c:bC} {i:Nat} (h:aT c i=0):arA (c.sgs.getD i ak):=by
 have h1:=eG.1 (aoe h).1
 refine ⟨jy.2 h1.2.1,?_⟩
 unfold aT at h
 split at h
 ·rename_i h1;exact absurd h h1
 split at h
 ·cases h
 split at h
 ·rename_i h2;exact absurd h h2
 split at h
 ·rename_i h3;exact absurd h h3.2
 rename_i h3
 split at h
 ·cases h
 split at h
 ·cases h
 split at h
 ·cases h
 rename_i h4
 by_cases hk:(c.sgs.getD i ak).kd=1
 ·have h5:bf (c.sgs.getD i ak).off (dx c)=0:=aku.1 fun e=>h3 ⟨hk,e⟩
  exact jy.2 (eG.1 h5).2.1
 ·refine aoi ?_
  cases hz:bK (c.sgs.getD i ak).off with
  | true=>rfl
  | false=>exact absurd (.inl ⟨hk,.inl hz⟩) h4
theorem asr {c:bC} (h:nS c=0):(c.pl.length:Int)=c.act∧(c.mi.length:Int)=c.act:=by
 unfold nS at h
 split at h
 ·cases h
 ·rename_i h1;exact aku.1 h1
theorem apS {c:bC} (h:bH c=0):amT c:=by
 obtain ⟨⟨ha1,ha6⟩,h16,h64⟩:=acW h
 obtain ⟨_,hs,hp⟩:=ajT h
 obtain ⟨hp1,hp2⟩:=asr hp
 refine ⟨⟨by omega,by omega,by omega,by omega⟩,fun x hx=>?_⟩
 obtain ⟨k,hk,rfl⟩:=aoG hx
 have:=apv (hs k hk)
 rwa [aai,aau hk] at this
theorem ap0:amT zC:=⟨⟨ah8 _,ah8 _,ah8 _,ah8 _⟩,fun x hx=>nomatch (show x∈([]:List oP) from hx)⟩
theorem aok (c:aA):amT (adj c):=by
 unfold adj
 split
 ·rename_i h;exact apS (lN.1 h).2
 ·exact ap0
theorem ajG (e:Int) (l:List Int) (h:e=0→l.length≤1000000):(aaM e l).length≤1000000:=by
 unfold aaM
 split
 ·rename_i h0;exact h h0
 ·exact ah8 _
theorem apz (l:List Int):PV.val (.bool (decide (l=l)))=bP true:=by rw[decide_eq_true rfl];rfl
theorem an3 {c:aA} (h:akJ c):(aaM (bM c) (dL c c.sts.length)).length≤1000000:=ajG _ _ fun _=>by rw[nN];exact h.1
theorem apd {c:aA} (h:akJ c):(aaM (bM c) (cZ c c.sts.length)).length≤1000000:=ajG _ _ fun _=>by rw[o7];exact h.1
theorem ams:av Tryz.prog 3 (bq (fun c:aA=>[jh c]) (fun _=>True) (fun _=>bP true)):=by
 refine vF Tryz.func3 ?_
 rintro (c:aA) hpre
 refine cK (aqd) (c) (by exact (ai rfl (ai (ai rfl (fun _ _=>rfl)) (ai (ai rfl (fun _ _=>rfl)) (ai rfl (fun _ _=>rfl)))))) (trivial) ?_
 refine aC (b:=!kP c) rfl (fun h1=>?_) (fun h1=>?_)
 ·refine cK (afm) (()) (by exact trivial) (trivial) ?_
  refine eN _ ?_
  exact rfl
 have h1:kP c=true:=by simpa using h1
 have ho:=(alm h1).1
 have hse:=(alm h1).2.1
 refine cK (ag3) (c) (by exact (ai rfl (ai (ai rfl (fun _ _=>rfl)) (ai (ai rfl (fun _ _=>rfl)) (ai rfl (fun _ _=>rfl)))))) (hse) ?_
 refine cK (ad8) (c) (by exact (ai rfl (ai (ai rfl (fun _ _=>rfl)) (ai (ai rfl (fun _ _=>rfl)) (ai rfl (fun _ _=>rfl)))))) (ho) ?_
 refine cK (akZ) (c) (by exact (ai rfl (ai (ai rfl (fun _ _=>rfl)) (ai (ai rfl (fun _ _=>rfl)) (ai rfl (fun _ _=>rfl)))))) (ho) ?_
 refine cK (ag3) (c) (by exact (ai rfl (ai (ai rfl (fun _ _=>rfl)) (ai (ai rfl (fun _ _=>rfl)) (ai rfl (fun _ _=>rfl)))))) (hse) ?_
 refine cK (ahW) (c) (by exact (ai rfl (ai (ai rfl (fun _ _=>rfl)) (ai (ai rfl (fun _ _=>rfl)) (ai rfl (fun _ _=>rfl)))))) (ho) ?_
 refine cK (aol) (c) (by exact (ai rfl (ai (ai rfl (fun _ _=>rfl)) (ai (ai rfl (fun _ _=>rfl)) (ai rfl (fun _ _=>rfl)))))) (ho) ?_
 refine cK (ag3) (c) (by exact (ai rfl (ai (ai rfl (fun _ _=>rfl)) (ai (ai rfl (fun _ _=>rfl)) (ai rfl (fun _ _=>rfl)))))) (hse) ?_
 refine cK (afZ) (c) (by exact (ai rfl (ai (ai rfl (fun _ _=>rfl)) (ai (ai rfl (fun _ _=>rfl)) (ai rfl (fun _ _=>rfl)))))) (ho) ?_
 refine cK (amH) (c) (by exact (ai rfl (ai (ai rfl (fun _ _=>rfl)) (ai (ai rfl (fun _ _=>rfl)) (ai rfl (fun _ _=>rfl)))))) (ho) ?_
 refine cK (afm) (()) (by exact trivial) (trivial) ?_
 refine cK (arE) (adj c) (by exact (ai (ai rfl (ai (ai rfl (fun _ _=>rfl)) (ai (ai rfl (fun _ _=>rfl)) (ai (ai rfl (fun _ _=>rfl)) (ai rfl (fun _ _=>rfl)))))) (ai rfl (ai (ai rfl (fun _ _=>rfl)) (ai (ai rfl (fun _ _=>rfl)) (ai (ai rfl (fun _ _=>rfl)) (ai rfl (fun _ _=>rfl)))))))) (aok c) ?_
 refine bT (by exact beq_self_eq_true (bM c)) ?_
 refine cK ((uT aj8 (aaM (bM c) (dL c c.sts.length),aaM (bM c) (dL c c.sts.length)) (an3 hse) (apz _))) (()) (by exact (ai (ai rfl (fun _ _=>rfl)) (ai rfl (fun _ _=>rfl)))) (trivial) ?_
 refine bT (by exact beq_self_eq_true (bM c)) ?_
 refine cK ((uT aj8 (aaM (bM c) (cZ c c.sts.length),aaM (bM c) (cZ c c.sts.length)) (apd hse) (apz _))) (()) (by exact (ai (ai rfl (fun _ _=>rfl)) (ai rfl (fun _ _=>rfl)))) (trivial) ?_
 refine eN (bP true) ?_
 rw[(beq_self_eq_true (bM c)).symm]
 exact rfl
end Go.Sx.Pe
namespace Go.Sx.Pe
open Go Go.Proofs Go.Sx.Pn Go.ChangeShapes Go.WideShapes Go.ChangeAt Go.RowKit Go.Deep Go.Lib
theorem anS {H:Type} {enc:TypeId×Value→H} {P:Program} {f:Func} {s:ChangeSpec} {S:List TypeId} (hS:Closed P S) {tb:TypeId} (hb:P.underlying tb=some .bool) (hres:f.resultTypes=#[tb])
  {W W':World} {args:Array Value} {ds:List (DataW H)} {before:List MemPlace} (hW:DataW.Whole enc P f.params.toList s.vars false W args.toList ds [] before) (hv:s.vars=[])
  (hA:DataW.TrodAll enc P W 0 (fun _=>true) true f.params.toList args.toList ds before) (hts:∀t∈f.params.toList,t∈S) (hfn:s.fn H (ds++[])={ results:=[.lit (.bool true)],args:=ds,vars:=[] }) (hg:Below W.heap.size W W') :
  s.post enc P f false true false false W args (.bool true) W':=by
 have hlt:=hW.lt
 have hold:∀p∈before,(fun b=>decide (b<W.heap.size)) p.block=true:=fun p hp=>by simpa using hlt p hp
 have hargs:∀sp:Nat→Bool,(∀p∈before,sp p.block=true)→DataW.TrodAll enc P W' 0 sp true f.params.toList args.toList ds before:=fun sp hsp=>ado hS hg.block hts hA hsp
 have hrt:(Value.bool true).resultList f.resultTypes.size=[.bool true]:=by rw[hres];rfl
 have hr:∀(b:Nat) (sp:Nat→Bool) (hd:Bool),DataW.TrodAll enc P W' b sp hd f.resultTypes.toList ((Value.bool true).resultList f.resultTypes.size) [.lit (.bool true)] []:=fun b sp hd=>by
  rw[hrt,hres];exact trodAll_cons_mk (shut_bool hb true) trodAll_mk0
 refine ⟨ds,[],before,[],before,[],hW,by rw[hfn];exact hr _ _ _,by rw[hfn];exact hargs _ hold,by rw[hfn,hv];rfl,World.keptBut_mono (fun p hp=>⟨hp,.inr (.inl hp)⟩) (hg.frame (·∈before)),fun h=>by cases h⟩
theorem awQ {a b:Bool} (h:a=true) (k:b=true):(a&&b)=true:=by rw[h,k];rfl
theorem atw:ownKnob Tryz.prog.godebug=none:=by kernel_rfl
def akx (vs:List Value):Obj→Obj
 | .cells _ t frozen=>.cells vs.toArray t frozen
 | o=>o
def u8s (l:List Nat):List Value:=l.map fun n:Nat=>Value.int .u8 (n:Int)
noncomputable def acJ (os:Os):World:=
 { World.holding Tryz.prog os ⟨#[],#[],[]⟩ with heap:=((((((World.holding Tryz.prog os ⟨#[],#[],[]⟩).heap.modify 2 (akx (u8s Lib.deBruijn32tab))).modify 3 (akx (u8s Lib.deBruijn64tab))).modify 0 (akx (Lib.pow10Tab.map fun z=>Value.int .u64 z))).modify 5 (akx (u8s ([128,191,160,191,128,159,144,191,128,143]++List.replicate 22 0)))).modify 4 (akx (u8s Go.Pinned.utf8FirstZ))) }
theorem asQ {E:Env} {v:Value} {d d':PV} (h:aK E v (.p false d)) (e:fQ d d'):aK E v (.p false d'):=by
 cases h with | p _ _ _ hp=>exact .p _ _ _ (wN e hp)
theorem pG {P:Program} {t:TypeId} {fs:Array Field} {n:Nat} {l:List PV} {ts:List TypeId} (hu:P.underlying t=some (.struct fs)) (hts:fs.toList.map (·.type)=ts) (h:Shape P n t l) :
  ∃(n':Nat) (ls:List (List PV)),n=n'+1∧l=ls.flatten∧ajq P n' ts ls:=by
 cases n with
 | zero=>exact h.elim
 | succ n=>
  unfold Shape at h;rw[hu] at h
  obtain ⟨ls,rfl,h1,h2⟩:=h
  refine ⟨n,ls,rfl,rfl,ahP ts ls (by rw[h1,←hts];simp) fun i t x ht hx=>?_⟩
  subst hts
  simp only[akE,aeh,axJ] at ht
  obtain ⟨f,hf,rfl⟩:=ht
  exact h2 i f x hf hx
theorem acN {P:Program} {t e:TypeId} {n:Nat} {l:List PV} (hu:P.underlying t=some (.slice e)) (h:Shape P n t l):∃(n' m:Nat) (f:Nat→List PV),n=n'+1∧l=[.seq m f]∧∀j,j<m→Shape P n' e (f j):=by
 cases n with
 | zero=>exact h.elim
 | succ n=>unfold Shape at h;rw[hu] at h;obtain ⟨m,f,h1,h2,h3⟩:=h;exact ⟨n,m,f,rfl,h2,h3⟩
theorem ahk {α:Type} (d:α) {g:α→List PV} {m:Nat} {f:Nat→List PV} (h:∀j,j<m→∃x,cu (f j) (g x)):∃L:List α,L.length=m∧∀j,j<m→cu (f j) (g (L.getD j d)):=by
 have h1:∀j,∃x:α,j<m→cu (f j) (g x):=fun j=>by
  by_cases hj:j<m
  ·obtain ⟨x,hx⟩:=h j hj;exact ⟨x,fun _=>hx⟩
  ·exact ⟨d,fun h=>absurd h hj⟩
 obtain ⟨c,hc⟩:=Classical.axiomOfChoice h1
 refine ⟨(List.range m).map c,by simp,fun j hj=>?_⟩
 have:((List.range m).map c).getD j d=c j:=by simp[aai,hj]
 rw[this];exact hc j hj
theorem uQ {α:Type} (d:α) {g:α→List PV} {P:Program} {t e:TypeId} {n:Nat} {l:List PV} (hu:P.underlying t=some (.slice e)) (he:∀k x,k<n→Shape P k e x→∃y,cu x (g y)) (h:Shape P n t l):∃L:List α,cu l [.seq L.length (fun j=>g (L.getD j d))]:=by
 obtain ⟨n',m,f,rfl,rfl,hf⟩:=acN hu h
 obtain ⟨L,rfl,hL⟩:=ahk d fun j hj=>he n' (f j) (Nat.lt_succ_self _) (hf j hj)
 exact ⟨L,aqN (iG hL)⟩
theorem vO:∀{a b c d:List PV},cu a b→cu c d→cu (a++c) (b++d)
 | [],[],_,_,_,h=>h
 | x :: a,y :: b,c,d,h,k=>aG (h.2 0 x y rfl rfl) (vO ⟨by simpa using h.1,fun j s s' hs hs'=>h.2 (j+1) s s' hs hs'⟩ k)
 | [],_ :: _,_,_,h,_=>by have:=h.1;simp at this
 | _ :: _,[],_,_,h,_=>by have:=h.1;simp at this
theorem ah4 {a b c a' b' c':List PV} (h1:cu a a') (h2:cu b b') (h3:cu c c'):cu [a,b,c].flatten (a'++(b'++c')):=by
 have:[a,b,c].flatten=a++(b++c):=by simp
 rw[this];exact vO h1 (vO h2 h3)
theorem ahY {a b a' b':List PV} (h1:cu a a') (h2:cu b b'):cu [a,b].flatten (a'++b'):=by
 have:[a,b].flatten=a++b:=by simp
 rw[this];exact vO h1 h2
theorem apq {a b c d a' b' c' d':List PV} (h1:cu a a') (h2:cu b b') (h3:cu c c') (h4:cu d d'):cu [a,b,c,d].flatten (a'++(b'++(c'++d'))):=by
 have:[a,b,c,d].flatten=a++(b++(c++d)):=by simp
 rw[this];exact vO h1 (vO h2 (vO h3 h4))
theorem aaU {n:Nat} {l:List PV} (h:Shape Tryz.prog n 3 l):∃m:Int,cu l [iP m]:=by
 obtain ⟨m,_,rfl⟩:=aor Tryz.underlying3 h
 exact ⟨m,cu.rfl' _⟩
theorem atV {n:Nat} {l:List PV} (h:Shape Tryz.prog n 4 l):∃b:Bool,cu l [bP b]:=by
 obtain ⟨m,rfl⟩:=am0 Tryz.underlying4 h
 exact ⟨m,cu.rfl' _⟩
theorem au0 {n:Nat} {l:List PV} (h:Shape Tryz.prog n 9 l):∃s:List UInt8,cu l [sP s]:=by
 obtain ⟨s,_,rfl⟩:=ajd Tryz.underlying9 h
 refine ⟨s.data.toList,cu.of ?_⟩
 have:strOf s.data.toList=s:=by cases s;simp[strOf]
 show _=[PV.val (.string (strOf s.data.toList))]
 rw[this]
theorem alG {n:Nat} {l:List PV} (h:Shape Tryz.prog n 30 l):∃L:List Int,cu l [fE L]:=uQ 0 (g:=fun x=>[iP x]) Tryz.underlying30 (fun _ _ _ h=>aaU h) h
theorem atT {n:Nat} {l:List PV} (h:Shape Tryz.prog n 22 l):∃L:List (List UInt8),cu l [xg L]:=uQ [] (g:=fun x=>[sP x]) Tryz.underlying22 (fun _ _ _ h=>au0 h) h
theorem av8 {n:Nat} {l:List PV} (h:Shape Tryz.prog n 77 l):∃x:Sk,cu l (skK x):=by
 obtain ⟨n',ls,rfl,rfl,h2⟩:=pG (ts:=[3,4]) Tryz.underlying77 (by decide) h
 match ls,h2 with
 | [a,b],⟨ha,hb,_⟩=>
  obtain ⟨x,hx⟩:=aaU ha
  obtain ⟨y,hy⟩:=atV hb
  exact ⟨(x,y),ahY hx hy⟩
theorem auj {n:Nat} {l:List PV} (h:Shape Tryz.prog n 70 l):∃L:List Sk,cu l [adh L]:=uQ bV (g:=skK) Tryz.underlying70 (fun _ _ _ h=>av8 h) h
theorem aue {n:Nat} {l:List PV} (h:Shape Tryz.prog n 97 l):∃x:Stp,cu l (stK x):=by
 obtain ⟨n',ls,rfl,rfl,h2⟩:=pG (ts:=[70,3]) Tryz.underlying97 (by decide) h
 match ls,h2 with
 | [a,b],⟨ha,hb,_⟩=>
  obtain ⟨x,hx⟩:=auj ha
  obtain ⟨y,hy⟩:=aaU hb
  exact ⟨⟨x,y⟩,ahY hx hy⟩
theorem asF {n:Nat} {l:List PV} (h:Shape Tryz.prog n 23 l):∃L:List Stp,cu l [aaK L]:=uQ st0 (g:=stK) Tryz.underlying23 (fun _ _ _ h=>aue h) h
theorem ail {d:PV} {n:Nat} {f g:Nat→List PV} (h:fQ d (.seq n f)) (e:∀k,k<n→f k=g k):fQ d (.seq n g):=by
 cases h with
 | refl=>exact iG fun k hk=>cu.of (e k hk)
 | nil=>exact .nil _
 | seq _ f0 _ hl he=>exact .seq n f0 g (fun j hj=>by rw[←e j hj];exact hl j hj) fun j k s s' hj hs hs'=>he j k s s' hj hs (by rw[e j hj];exact hs')
theorem aqa {L:List Ex} {j:Nat} {x:List PV} (h:cu x (ko (L.getD j bD))):cu x (jo L j):=by
 match x,h with
 | [p,q,r],⟨hl,h⟩=>
  refine aG (h 0 _ _ rfl rfl) (aG (h 1 _ _ rfl rfl) (aqN ?_))
  exact ail (h 2 _ _ rfl rfl) fun k hk=>auk _ k hk
 | [],⟨hl,_⟩=>simp[ko] at hl
 | [_],⟨hl,_⟩=>simp[ko] at hl
 | [_,_],⟨hl,_⟩=>simp[ko] at hl
 | _ :: _ :: _ :: _ :: _,⟨hl,_⟩=>simp[ko] at hl
theorem awi:∀(n:Nat) (l:List PV),Shape Tryz.prog n 90 l→∃x:Ex,cu l (ko x):=by
 intro n
 induction n using Nat.strongRecOn with
 | _ n ih=>
  intro l h
  obtain ⟨n',ls,rfl,rfl,h2⟩:=pG (ts:=[3,3,88]) Tryz.underlying90 (by decide) h
  match ls,h2 with
  | [a,b,c],⟨ha,hb,hc,_⟩=>
   obtain ⟨x,hx⟩:=aaU ha
   obtain ⟨y,hy⟩:=aaU hb
   obtain ⟨n2,m,f,rfl,rfl,hf⟩:=acN Tryz.underlying88 hc
   obtain ⟨L,rfl,hL⟩:=ahk bD fun j hj=>ih n2 (by omega) (f j) (hf j hj)
   refine ⟨.node x y L,ah4 hx hy (aqN (iG fun j hj=>?_))⟩
   exact aqa (hL j hj)
theorem au8 {n:Nat} {l:List PV} (h:Shape Tryz.prog n 100 l):∃x:rD,cu l (trK x):=by
 obtain ⟨n',ls,rfl,rfl,h2⟩:=pG (ts:=[30,30,90]) Tryz.underlying100 (by decide) h
 match ls,h2 with
 | [a,b,c],⟨ha,hb,hc,_⟩=>
  obtain ⟨x,hx⟩:=alG ha
  obtain ⟨y,hy⟩:=alG hb
  obtain ⟨z,hz⟩:=awi _ _ hc
  exact ⟨⟨x,y,z⟩,ah4 hx hy hz⟩
theorem atU {n:Nat} {l:List PV} (h:Shape Tryz.prog n 24 l):∃L:List rD,cu l [ada L]:=uQ aY (g:=trK) Tryz.underlying24 (fun _ _ _ h=>au8 h) h
def agf:List TypeId:=[57,3,4,9,30,55,22,77,70,111,49,51,97,23,90,88,100,24,26]
theorem acs:Closed Tryz.prog agf:=by
 intro t ht
 simp only[agf,ah3,List.mem_nil_iff,or_false] at ht
 rcases ht with rfl | rfl | rfl | rfl | rfl | rfl | rfl | rfl | rfl | rfl | rfl | rfl | rfl | rfl | rfl | rfl | rfl | rfl | rfl<;>kernel_rfl
section
variable {w : World} {r : Reach} {b : Nat} {v : Value} {n : Nat} {l : List PV}
theorem anX (hv:Value.okWide Tryz.prog w r b 26 v) (hs:Shape Tryz.prog n 26 l) (hr:Rel (iW w) v.cells.toList l):∃c:aA,aK (E0 w) v (jh c):=by
 obtain ⟨cs,hc⟩:=anZ Tryz.underlying26 hv
 have hS:=avB hc hr
 obtain ⟨n',ls,rfl,rfl,h2⟩:=pG (ts:=[3,22,23,24]) Tryz.underlying26 (by decide) hs
 match ls,h2 with
 | [a,b,c,d],⟨ha,hb,hc,hd,_⟩=>
  obtain ⟨x,hx⟩:=aaU ha
  obtain ⟨y,hy⟩:=atT hb
  obtain ⟨z,hz⟩:=asF hc
  obtain ⟨u,hu⟩:=atU hd
  exact ⟨⟨x,y,z,u⟩,asQ hS (mU (apq hx hy hz hu))⟩
end
end Go.Sx.Pe
namespace Go.Proofs.YtagbjlbohahcaaaGreatDoor.compileBuilds
open Go.ChangeShapes Go.WideShapes Go.ChangeAt Go.RowKit Go.Joins Go.Deep Go.Sx Go.Sx.Pn Go.Sx.Pe
set_option maxRecDepth 100000 in
theorem contract (H:Type) (enc:TypeId×Value→H) (W:World) (base:Nat) (args:Array Value) (ds gs:List (DataW H)) (before:List MemPlace)
  (hval:∀(j:Nat) t v,Tryz.f3.params[j]?=some t→args[j]?=some v→Value.okWide Tryz.prog W .any base t v)
  (hW:DataW.Whole enc Tryz.prog Tryz.f3.params.toList Rows.compileBuildsSpec.vars false W args.toList ds gs before) (hL:laidMetH Tryz.prog Rows.compileBuildsRow.laid W) :
  Calls Tryz.prog 3 args W fun e W'=>∃v,e=.returned v∧Rows.compileBuildsSpec.post enc Tryz.prog Tryz.f3 false true false false W args v W':=by
 have hW':=hW
 obtain ⟨p,q,hA0,hV,rfl,hfz,hnd⟩:=hW
 obtain ⟨rfl,rfl⟩:=trodVars_none hV
 have hA:DataW.TrodAll enc Tryz.prog W 0 (fun _=>true) true Tryz.f3.params.toList args.toList ds p:=hA0
 have hA1:=hA
 rw[Tryz.params3] at hA hval
 clear hA0
 obtain ⟨v0,vs0,d0,ds0,p0,q0,hargs0,rfl,rfl,⟨fu0,h0⟩,r0⟩:=trodAll_cons hA
 obtain ⟨rfl,rfl,rfl⟩:=trodAll_nil r0
 obtain rfl:args=#[v0]:=by cases args;simp_all
 obtain ⟨l0,s0,e0⟩:=akv acs fu0 26 _ _ (by decide) h0
 obtain ⟨a0,S0⟩:=anX (hval 0 _ v0 rfl rfl) s0 e0
 simp only[ape] at hW' hA1
 refine (aoh ams a0 trivial W _ (amF (vs:=[v0]) (ai S0 trivial))).mono fun e W' ⟨he,hg⟩=>?_
 subst he
 exact ⟨_,rfl,anS acs Tryz.underlying4 (by kernel_rfl) hW' rfl hA1 (by rw[Tryz.params3];decide) rfl hg⟩
theorem laid_met (os:Os):laidMet Tryz.prog Rows.compileBuildsRow.laid ((acJ os).forCall (fun _ _=>0) ⟨#[],#[.agg #[.int .i64 0,.slice none 0 0,.slice none 0 0,.slice none 0 0]],[]⟩).memory:=
 laidMet_of_run' 8 (by kernel_rfl) (by kernel_rfl)
theorem reads (os:Os) {H:Type} (enc:TypeId×Value→H):∃places,DataW.whole enc Tryz.prog ((acJ os).forCall (fun _ _=>0) ⟨#[],#[.agg #[.int .i64 0,.slice none 0 0,.slice none 0 0,.slice none 0 0]],[]⟩).memory Tryz.f3.params.toList Rows.compileBuildsSpec.vars false (Array.toList (α:=Value) #[.agg #[.int .i64 0,.slice none 0 0,.slice none 0 0,.slice none 0 0]]) 8=some ([.agg [.lit (.int .i64 0),.nil,.nil,.nil]],[],places):=
 ⟨[],by kernel_rfl⟩
set_option maxRecDepth 100000 in
theorem lifted (os:Os) (started:os.Started) (H:Type) (enc:TypeId×Value→H) (F:Stop.Interp) :
  ReturnsInHanded {} Tryz.checked os 3 .any ((OpenSpec.ofChange Rows.compileBuildsSpec).preRow enc Tryz.prog Tryz.f3 Rows.compileBuildsRow.domain false Rows.compileBuildsRow.laid) (((OpenSpec.ofChange Rows.compileBuildsSpec).at F).post enc Tryz.prog Tryz.f3 false true false false):=by
 obtain ⟨places,hx⟩:=reads os enc
 refine returnsInHanded_of_row (C:=Tryz.checked) (s:=OpenSpec.ofChange Rows.compileBuildsSpec) atw started (by kernel_rfl) Tryz.func3
  (witness_row_at (enc:=enc) (C:=Tryz.checked) false (acJ os) #[.agg #[.int .i64 0,.slice none 0 0,.slice none 0 0,.slice none 0 0]] rfl (by kernel_rfl) (by kernel_rfl) (by kernel_rfl)
   (OpenSpec.preRow_of_cond 8 hx (by kernel_rfl) (fun k hk=>by cases hk) (by kernel_rfl) (laid_met os))) ?_
 intro W base args ds gs before hval hW _ _ _ hL _ _
 exact contract H enc W base args ds gs before hval hW hL
set_option maxHeartbeats 20000000 in
theorem facts:joinedFacts Tryz.pinned.checked.prog 3 Tryz.f3 (OpenSpec.ofChange Rows.compileBuildsSpec).bare Rows.compileBuildsRow=true:=by
 iterate 23 refine awQ ?_ ?_
 all_goals as_aux_lemma=>kernel_rfl
theorem named:Tryz.pinned.checked.prog.funcNamed Rows.compileBuildsRow.func=some 3:=by kernel_rfl
theorem inst:Tryz.f3.isInstance Tryz.pinned.checked.prog Rows.compileBuildsRow.origin Rows.compileBuildsRow.targs:=of_decide_eq_true (by kernel_rfl)
theorem wrap:Tryz.f3.isWrapper Tryz.pinned.checked.prog Rows.compileBuildsRow.wrapper Rows.compileBuildsRow.mainSum:=by unfold Func.isWrapper;first | (rw[if_pos (by decide +kernel)];kernel_rfl) | (rw[if_neg (by decide +kernel)];exact ⟨rfl,rfl⟩)
theorem said:Rows.CompileBuildsSaid:=
 OpenClaim.holds_of_cond 3 Tryz.f3 rfl rfl rfl rfl rfl rfl rfl ⟨rfl,rfl,rfl,rfl,rfl⟩ rfl rfl rfl rfl rfl named Tryz.func3 facts inst wrap
  (fun os started H enc _ F=>by rw[OpenClaim.pre_eq_preRow];exact lifted os started H enc F)
theorem plain (f:FuncId) (fn:Func) (hf:Tryz.pinned.checked.prog.funcNamed "pneumatic/pneumaticlaw36.CompileBuilds"=some f) (hfn:Tryz.pinned.checked.prog.funcs[f]?=some fn) :
  false=Tryz.pinned.checked.prog.looks []∧∀(j:Nat) t,fn.params[j]?=some t→Tryz.pinned.checked.prog.wantsStandIn t=false:=by
 obtain rfl:f=3:=Option.some.inj ((show Tryz.prog.funcNamed "pneumatic/pneumaticlaw36.CompileBuilds"=some 3 by kernel_rfl).symm.trans hf) |>.symm
 obtain rfl:fn=Tryz.f3:=(Option.some.inj (Tryz.func3.symm.trans hfn)).symm
 refine ⟨by kernel_rfl,fun j t ht=>?_⟩
 rw[Tryz.params3] at ht
 have hm:∀t∈#[26],Tryz.prog.wantsStandIn t=false:=by decide +kernel
 exact hm t (Array.mem_of_getElem? ht)
theorem card:Rows.CompileBuildsCardSaid:=
 Claim7.holds_tied_plain_at .later [] _ _ _ _ said (fun _ h=>by cases h) (by kernel_rfl) (fun _ h=>by cases h) compileBuilds_row_tie rfl ⟨rfl,rfl⟩ (by kernel_rfl) rfl plain (by kernel_rfl)
end Go.Proofs.YtagbjlbohahcaaaGreatDoor.compileBuilds
