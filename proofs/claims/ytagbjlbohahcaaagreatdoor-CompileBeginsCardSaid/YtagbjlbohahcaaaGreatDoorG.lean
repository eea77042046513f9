/- The card of CompileBegins: for every input the law answers true, and its arguments read as they did. -/
import Derived.Test.YtagbjlbohahcaaaGreatDoorG6
set_option maxHeartbeats 1000000
set_option maxRecDepth 4000
set_option linter.unusedSimpArgs false
set_option linter.unusedVariables false
set_option linter.unusedSectionVars false
namespace Go.Sx.Pe
open Go Go.Proofs Go.Sx.Pn
set_option maxHeartbeats 4000000 in
theorem alN:ay Tryz.prog 30 (bS (fun c:bn=>[uE c]) anw (fun c=>.tup [tq (jQ c),iP 0])):=by
 refine vI [4000020,4000023,4000027,4000031] Tryz.func30 ?_
 rintro (c:bn) hpre
 obtain ⟨hb,hc,h0,hon⟩:=hpre
 have hc:bB c=0:=hc
 have h0:0<c.sgs.length:=h0
 have hsm:=wS hc
 refine cK (abn) (c) (by exact (ai rfl (ai (ai rfl (fun _ _=>rfl)) (ai (ai rfl (fun _ _=>rfl)) (ai (ai rfl (fun _ _=>rfl)) (ai rfl (fun _ _=>rfl))))))) (hb) ?_
 refine bN (bB c=0) (fun h1=>?_) fun h1=>?_
 ·exact absurd hc h1
 refine ei (.one 0 (.one 1 (.one 3 (.one 4 (.one 6 (.one 7 (.one 8 (.one 10 (.one 12 (.set (fsS c) (.one 16 .done))))))))))) (ai (by kernel_rfl) (ai ?_ ?_))
 ·repeat' (first | exact trivial | exact arG.mk rfl rfl rfl rfl | refine ai ?_ ?_ | intro q)
  all_goals omega
 refine ai trivial (ai (ai trivial (ai ?_ trivial)) (ai (ai trivial (ai ?_ trivial)) trivial))
 ·refine fR (c.sgs.length) (fun k=>[(36,.s (iA k))]) (fun k=>[⟨3,57,[.s (zI c.act.toNat),.s (zB c.act.toNat),.s (zB c.ins.length),bsW (mP c k),.s (zI c.sgs.length)]⟩]) (fun k=>True) ?_ ?_ ?_ ?_
  ·exact (ai (ai (fun _=>rfl) (iE (by omega))) rfl)
  ·refine (ai (ai (ai (ai nof (ai rfl (fun _ _=>rfl))) rfl) (ai (ai (ai nof (ai rfl (fun _ _=>rfl))) rfl) (ai (ai (ai nof (ai rfl (fun _ _=>rfl))) rfl) (ai (ai rfl (ai rfl (ai ?_ ?_))) (ai (ai nof (ai rfl (fun _ _=>rfl))) rfl))))) trivial)
   ·exact (tC c 0).symm
   ·intro q hq
    have hq:q<c.sgs.length:=hq
    show [bP false]=[bP ((mP c 0).getD q false)]
    rw[zm hq,if_neg (aeo q)]
  ·trivial
  intro (k:Nat) ⟨hk,_⟩
  have hl:=tC c k
  refine bL (k<c.sgs.length) (fun g=>?_) fun g=>?_
  ·refine iX (k) (c.sgs.length) ?_
   refine ai (ai (aa1 _) (by show ((k:Nat):Int)<((mP c k).length:Int);omega)) ?_
   refine ai (ai (by show ((k:Nat):Int).toNat<(mP c k).length;omega) (abm _)) ?_
   have e1:=ajT g
   refine nX (k) (ai (ai (fun _=>rfl) (aH (by omega))) rfl) (ai (ai (ai (ai nof (ai rfl (fun _ _=>rfl))) rfl) (ai (ai (ai nof (ai rfl (fun _ _=>rfl))) rfl) (ai (ai (ai nof (ai rfl (fun _ _=>rfl))) rfl) (ai (ai rfl (ai rfl (ai ?_ ?_))) (ai (ai nof (ai rfl (fun _ _=>rfl))) rfl))))) trivial) trivial
   ·rw[←e1,an8]
   ·intro q hq
    show gZ (fun w=>[bP ((mP c k).getD w false)]) k 0 [bP (c.sgs.getD k ak).ini] q=[bP ((mP c (k+1)).getD q false)]
    rw[←e1]
    exact jJ (by omega) _ q
  obtain rfl:k=c.sgs.length:=by omega
  refine ei _ (ai (ahh) (ei ((c,yT c)) (ei [] (ai (ai rfl (ai rfl (ai rfl (ai rfl (ai (fun _=>Or.inl rfl) (ai (fun _=>ai rfl rfl) (Or.inl rfl))))))) (ai ?_ (ai (by exact trivial) (ai (⟨akC hc,ad7 (c:=c) (by omega),h0,by show c.sgs.length≤1000;omega,by show c.ins.length≤1000;omega,hon⟩) ?_)))))))
  ·refine (ai (ai rfl (ai (ai rfl (fun _ _=>rfl)) (ai (ai rfl (fun _ _=>rfl)) (ai (ai rfl (fun _ _=>rfl)) (ai rfl (fun _ _=>rfl)))))) (ai (ai ?_ ?_) (ai (ai ?_ ?_) (ai (ai ?_ ?_) (ai (ai rfl (fun _ _=>rfl)) (ai ?_ ?_))))))
   ·exact alO.symm
   ·exact fun q hq=>(adK hq).symm
   ·exact alO.symm
   ·exact fun q hq=>(abZ hq).symm
   ·exact alO.symm
   ·exact fun q hq=>(abZ hq).symm
   ·exact alO.symm
   ·exact fun q hq=>(adK hq).symm
  refine eF (.tup [tq (jQ c),iP 0]) ?_
  rw[jQ]
  exact (ai (ai (ai rfl (fun _ _=>rfl)) (ai (ai rfl (fun _ _=>rfl)) (ai (ai rfl (fun _ _=>rfl)) (ai (ai rfl (fun _ _=>rfl)) (ai rfl (fun _ _=>rfl)))))) rfl)
 ·refine fR (c.sgs.length) (fun k=>[(36,.s (iA k))]) (fun k=>[⟨2,57,[.s (zI c.act.toNat),.s (zB c.act.toNat),.s (zB c.ins.length),bsW (mP c k),.s (zI c.sgs.length)]⟩]) (fun k=>True) ?_ ?_ ?_ ?_
  ·exact (ai (ai (fun _=>rfl) (iE (by omega))) rfl)
  ·refine (ai (ai (ai (ai nof (ai rfl (fun _ _=>rfl))) rfl) (ai (ai (ai nof (ai rfl (fun _ _=>rfl))) rfl) (ai (ai (ai nof (ai rfl (fun _ _=>rfl))) rfl) (ai (ai rfl (ai rfl (ai ?_ ?_))) (ai (ai nof (ai rfl (fun _ _=>rfl))) rfl))))) trivial)
   ·exact (tC c 0).symm
   ·intro q hq
    have hq:q<c.sgs.length:=hq
    show [bP false]=[bP ((mP c 0).getD q false)]
    rw[zm hq,if_neg (aeo q)]
  ·trivial
  intro (k:Nat) ⟨hk,_⟩
  have hl:=tC c k
  refine bL (k<c.sgs.length) (fun g=>?_) fun g=>?_
  ·refine iX (k) (c.sgs.length) ?_
   refine ai (ai (aa1 _) (by show ((k:Nat):Int)<((mP c k).length:Int);omega)) ?_
   refine ai (ai (by show ((k:Nat):Int).toNat<(mP c k).length;omega) (abm _)) ?_
   have e1:=ajT g
   refine nX (k) (ai (ai (fun _=>rfl) (aH (by omega))) rfl) (ai (ai (ai (ai nof (ai rfl (fun _ _=>rfl))) rfl) (ai (ai (ai nof (ai rfl (fun _ _=>rfl))) rfl) (ai (ai (ai nof (ai rfl (fun _ _=>rfl))) rfl) (ai (ai rfl (ai rfl (ai ?_ ?_))) (ai (ai nof (ai rfl (fun _ _=>rfl))) rfl))))) trivial) trivial
   ·rw[←e1,an8]
   ·intro q hq
    show gZ (fun w=>[bP ((mP c k).getD w false)]) k 0 [bP (c.sgs.getD k ak).ini] q=[bP ((mP c (k+1)).getD q false)]
    rw[←e1]
    exact jJ (by omega) _ q
  obtain rfl:k=c.sgs.length:=by omega
  refine ei _ (ai (ahh) (ei ((c,yT c)) (ei [] (ai (ai rfl (ai rfl (ai rfl (ai rfl (ai (fun _=>Or.inl rfl) (ai (fun _=>ai rfl rfl) (Or.inl rfl))))))) (ai ?_ (ai (by exact trivial) (ai (⟨akC hc,ad7 (c:=c) (by omega),h0,by show c.sgs.length≤1000;omega,by show c.ins.length≤1000;omega,hon⟩) ?_)))))))
  ·refine (ai (ai rfl (ai (ai rfl (fun _ _=>rfl)) (ai (ai rfl (fun _ _=>rfl)) (ai (ai rfl (fun _ _=>rfl)) (ai rfl (fun _ _=>rfl)))))) (ai (ai ?_ ?_) (ai (ai ?_ ?_) (ai (ai ?_ ?_) (ai (ai rfl (fun _ _=>rfl)) (ai ?_ ?_))))))
   ·exact alO.symm
   ·exact fun q hq=>(adK hq).symm
   ·exact alO.symm
   ·exact fun q hq=>(abZ hq).symm
   ·exact alO.symm
   ·exact fun q hq=>(abZ hq).symm
   ·exact alO.symm
   ·exact fun q hq=>(adK hq).symm
  refine eF (.tup [tq (jQ c),iP 0]) ?_
  rw[jQ]
  exact (ai (ai (ai rfl (fun _ _=>rfl)) (ai (ai rfl (fun _ _=>rfl)) (ai (ai rfl (fun _ _=>rfl)) (ai (ai rfl (fun _ _=>rfl)) (ai rfl (fun _ _=>rfl)))))) rfl)
def vU (t:rP):Bool:=decide (t.fr.length≤40)&&(decide (t.to.length≤40)&&ou t.wh)
def kW (c:aA):Bool:=(decide (c.ins.length≤40)&&(decide (c.sts.length≤60)&&decide (c.trs.length≤60)))&&((c.ins.all fun t=>decide (t.length≤100))&&((c.sts.all fun x=>decide (x.st.length≤40))&&((c.trs.all vU)&&((decide (c.sts.length≤7)&&decide (c.trs.length≤9))||decide (¬bW c=0)))))
theorem ab4 {c:aA} (h:¬(c.ins.length≤40∧c.sts.length≤60∧c.trs.length≤60)):kW c=false:=by
 unfold kW
 rw[←axP,←axP,decide_eq_false h,arQ]
theorem apZ {c:aA} (h:∃x∈c.ins,¬x.length≤100):kW c=false:=by
 obtain ⟨x,hx,h⟩:=h
 unfold kW
 rw[show (c.ins.all fun t=>decide (t.length≤100))=false from atX.2 ⟨x,hx,by simpa using h⟩,arQ,arX]
theorem ai5 {c:aA} (h:∃x∈c.sts,¬x.st.length≤40):kW c=false:=by
 obtain ⟨x,hx,h⟩:=h
 unfold kW
 rw[show (c.sts.all fun x=>decide (x.st.length≤40))=false from atX.2 ⟨x,hx,by simpa using h⟩,arQ,arX,arX]
theorem ab7 {c:aA} (h:∃x∈c.trs,vU x=false):kW c=false:=by
 obtain ⟨x,hx,h⟩:=h
 unfold kW
 rw[show c.trs.all vU=false from atX.2 ⟨x,hx,by rw[h];decide⟩,arQ,arX,arX,arX]
theorem arl {c:aA} (h1:c.ins.length≤40∧c.sts.length≤60∧c.trs.length≤60) (h2:∀x∈c.ins,x.length≤100) (h3:∀x∈c.sts,x.st.length≤40) (h4:∀x∈c.trs,vU x=true):kW c=((decide (c.sts.length≤7)&&decide (c.trs.length≤9))||decide (¬bW c=0)):=by
 unfold kW
 rw[←axP,←axP,decide_eq_true h1,acP,show (c.ins.all fun t=>decide (t.length≤100))=true from aot.2 fun x hx=>decide_eq_true (h2 x hx),acP,show (c.sts.all fun x=>decide (x.st.length≤40))=true from aot.2 fun x hx=>decide_eq_true (h3 x hx),acP,aot.2 h4,acP]
theorem aqc {t:rP} (h:vU t=true):t.fr.length≤40∧t.to.length≤40∧ou t.wh=true:=by
 unfold vU at h
 rw[abj,abj] at h
 exact ⟨of_decide_eq_true h.1,of_decide_eq_true h.2.1,h.2.2⟩
theorem ajU {c:aA} (h1:c.ins.length≤40∧c.sts.length≤60∧c.trs.length≤60) (h3:∀x∈c.sts,x.st.length≤40) (h4:∀x∈c.trs,vU x=true):jC c:=by
 refine ⟨fun s hs=>?_,fun t ht=>?_⟩
 ·have:=h3 s hs;omega
 ·obtain ⟨h5,h6,h7⟩:=aqc (h4 t ht)
  have:=ao6 h7
  exact ⟨by omega,by omega,by omega⟩
theorem atT (x:Int):decide (¬x=0)=(x != 0):=by
 by_cases h:x=0
 ·subst h;rfl
 ·rw[decide_eq_true h];exact (bne_iff_ne.2 h).symm
theorem aq6:ay Tryz.prog 47 (bH (fun c:aA=>[jS c]) (fun _=>True) (fun c=>bP (kW c))):=by
 refine vF Tryz.func47 ?_
 rintro (c:aA) hpre
 refine bL (40<c.ins.length) (fun h1=>?_) fun h1=>?_
 ·refine eN (bP (kW c)) ?_
  rw[ab4 (fun h=>absurd h.1 (by omega))]
  exact rfl
 refine bL (60<c.sts.length) (fun h2=>?_) fun h2=>?_
 ·refine eN (bP (kW c)) ?_
  rw[ab4 (fun h=>absurd h.2.1 (by omega))]
  exact rfl
 refine bL (60<c.trs.length) (fun h3=>?_) fun h3=>?_
 ·refine eN (bP (kW c)) ?_
  rw[ab4 (fun h=>absurd h.2.2 (by omega))]
  exact rfl
 have hs1:c.ins.length≤40∧c.sts.length≤60∧c.trs.length≤60:=⟨by omega,by omega,by omega⟩
 refine fR (c.ins.length) (fun k=>[(3,.s (iA k))]) (fun k=>[]) (fun k=>∀y∈c.ins.take k,y.length≤100) (by exact (ai (ai (fun _=>rfl) (iE (by omega))) rfl)) (by exact trivial) ?_ ?_
 ·exact fun y hy=>absurd hy (by simp)
 intro (k:Nat) ⟨hk,hall⟩
 refine bL (k<c.ins.length) (fun h4=>?_) fun h4=>?_
 ·refine iX (k) (c.ins.length) ?_
  have hz:=bZ (c.ins.getD k [])
  refine ah (p:=100<(c.ins.getD k []).length) (by exact aB (by show (100:Int)<((strOf (c.ins.getD k [])).size:Int)↔_;rw[hz];omega)) (fun h5=>?_) (fun h5=>?_)
  ·refine eN (bP (kW c)) ?_
   rw[apZ ⟨_,aa0 (bC [] h4),by omega⟩]
   exact rfl
  refine nX (k) (ai (ai (fun _=>rfl) (aH (by omega))) rfl) trivial ?_
  intro y hy
  rw[aQ [] h4] at hy
  rcases acE.1 hy with hy | hy
  ·exact hall y hy
  ·simp only[acN] at hy;subst hy;omega
 obtain rfl:k=c.ins.length:=by omega
 rw[acI] at hall
 have hins:=hall
 clear hall
 refine fR (c.sts.length) (fun k=>[(4,.s (iA k))]) (fun k=>[]) (fun k=>∀y∈c.sts.take k,y.st.length≤40) (by exact (ai (ai (fun _=>rfl) (iE (by omega))) rfl)) (by exact trivial) ?_ ?_
 ·exact fun y hy=>absurd hy (by simp)
 intro (k:Nat) ⟨hk,hall⟩
 refine bL (k<c.sts.length) (fun h4=>?_) fun h4=>?_
 ·refine iX (k) (c.sts.length) ?_
  refine ah (p:=40<(c.sts.getD k st0).st.length) (by simp only[zz,reduceCtorEq];omega) (fun h5=>?_) (fun h5=>?_)
  ·refine eN (bP (kW c)) ?_
   rw[ai5 ⟨_,aa0 (bC st0 h4),by omega⟩]
   exact rfl
  refine nX (k) (ai (ai (fun _=>rfl) (aH (by omega))) rfl) trivial ?_
  intro y hy
  rw[aQ st0 h4] at hy
  rcases acE.1 hy with hy | hy
  ·exact hall y hy
  ·simp only[acN] at hy;subst hy;omega
 obtain rfl:k=c.sts.length:=by omega
 rw[acI] at hall
 have hsts:=hall
 clear hall
 refine fR (c.trs.length) (fun k=>[(5,.s (iA k))]) (fun k=>[]) (fun k=>∀y∈c.trs.take k,vU y=true) (by exact (ai (ai (fun _=>rfl) (iE (by omega))) rfl)) (by exact trivial) ?_ ?_
 ·exact fun y hy=>absurd hy (by simp)
 intro (k:Nat) ⟨hk,hall⟩
 refine bL (k<c.trs.length) (fun h4=>?_) fun h4=>?_
 ·refine iX (k) (c.trs.length) ?_
  refine ah (p:=40<(c.trs.getD k aZ).fr.length) (by simp only[zz,reduceCtorEq];omega) (fun h5=>?_) (fun h5=>?_)
  ·refine eN (bP (kW c)) ?_
   rw[ab7 ⟨_,aa0 (bC aZ h4),by unfold vU;rw[decide_eq_false (by omega),arQ]⟩]
   exact rfl
  refine ah (p:=40<(c.trs.getD k aZ).to.length) (by simp only[zz,reduceCtorEq];omega) (fun h6=>?_) (fun h6=>?_)
  ·refine eN (bP (kW c)) ?_
   rw[ab7 ⟨_,aa0 (bC aZ h4),by unfold vU;rw[decide_eq_false (p:=(c.trs.getD k aZ).to.length≤40) (by omega),arQ,arX]⟩]
   exact rfl
  refine cK (avt) ((c.trs.getD k aZ).wh) (by exact (ai (iE (by simp only[zz,reduceCtorEq])) (ai (iE (by simp only[zz,reduceCtorEq])) (ai rfl (fun _ _=>rfl))))) (trivial) ?_
  refine aC (b:=!ou (c.trs.getD k aZ).wh) rfl (fun h7=>?_) (fun h7=>?_)
  ·have h7:ou (c.trs.getD k aZ).wh=false:=by simpa using h7
   refine eN (bP (kW c)) ?_
   rw[ab7 ⟨_,aa0 (bC aZ h4),by unfold vU;rw[h7,arX,arX]⟩]
   exact rfl
  have h7:ou (c.trs.getD k aZ).wh=true:=by simpa using h7
  refine nX (k) (ai (ai (fun _=>rfl) (aH (by omega))) rfl) trivial ?_
  intro y hy
  rw[aQ aZ h4] at hy
  rcases acE.1 hy with hy | hy
  ·exact hall y hy
  ·simp only[acN] at hy;subst hy;unfold vU;rw[decide_eq_true (by omega),decide_eq_true (by omega),h7];rfl
 obtain rfl:k=c.trs.length:=by omega
 rw[acI] at hall
 have hy:=arl hs1 hins hsts hall
 have ho:=ajU hs1 hsts hall
 refine bG (c.sts.length≤7) (fun h4=>?_) fun h4=>?_
 ·refine bG (c.trs.length≤9) (fun h5=>?_) fun h5=>?_
  ·refine eN (bP (kW c)) ?_
   rw[hy,decide_eq_true h4,decide_eq_true h5,acP,afq]
   exact rfl
  ·refine cK (ag8) (c) (by exact (ai rfl (ai (ai rfl (fun _ _=>rfl)) (ai (ai rfl (fun _ _=>rfl)) (ai rfl (fun _ _=>rfl)))))) (ho) ?_
   refine eN (bP (kW c)) ?_
   rw[hy,decide_eq_false h5,arX,arA,atT (bW c)]
   exact rfl
 ·refine cK (ag8) (c) (by exact (ai rfl (ai (ai rfl (fun _ _=>rfl)) (ai (ai rfl (fun _ _=>rfl)) (ai rfl (fun _ _=>rfl)))))) (ho) ?_
  refine eN (bP (kW c)) ?_
  rw[hy,decide_eq_false h4,arQ,arA,atT (bW c)]
  exact rfl
theorem alE {c:aA} (h:kW c=true):jC c∧aqf c∧c.ins.length≤1000000:=by
 by_cases h1:c.ins.length≤40∧c.sts.length≤60∧c.trs.length≤60
 ·by_cases h3:∀x∈c.sts,x.st.length≤40
  ·by_cases h4:∀x∈c.trs,vU x=true
   ·exact ⟨ajU h1 h3 h4,⟨by omega,by omega⟩,by omega⟩
   ·simp only[Classical.not_forall] at h4
    obtain ⟨x,hx,h4⟩:=h4
    rw[ab7 ⟨x,hx,by simpa using h4⟩] at h;cases h
  ·simp only[Classical.not_forall] at h3
   obtain ⟨x,hx,h3⟩:=h3
   rw[ai5 ⟨x,hx,h3⟩] at h;cases h
 ·rw[ab4 h1] at h;cases h
def three:kZ:=⟨2,[⟨[(0,true)],0⟩,⟨[(1,true)],150⟩,⟨[(0,false),(1,false)],0⟩]⟩
def aud (n:Int) (b:Bool):PV:=.seq 1 (aU 2 [iP n,bP b])
def zk:PV:=.agg [iP 2,.seq 3 (aU 2 [aud 0 true,iP 0,aud 1 true,iP 150,.seq 2 (aU 2 [iP 0,bP false,iP 1,bP false]),iP 0])]
theorem anG:ay Tryz.prog 48 (bS (fun _:Unit=>[]) (fun _=>True) (fun _=>zk)):=by
 refine vI [4000002,4000005,4000009,4000011] Tryz.func48 ?_
 rintro (u:Unit) hpre
 refine eF (zk) ?_
 rw[show zk=zk from rfl]
 exact (ai rfl (ai rfl (fun _ _=>rfl)))
theorem aqN:fP zk (.agg (sqK three)):=by
 refine mZ (aG (.refl _) (aG (iC fun k hk=>?_) qZ))
 match k,hk with
 | 0,_=>exact aqT (iC fun k hk=>by match k,hk with | 0,_=>exact cu.rfl' _) (.refl _)
 | 1,_=>exact aqT (iC fun k hk=>by match k,hk with | 0,_=>exact cu.rfl' _) (.refl _)
 | 2,_=>exact aqT (iC fun k hk=>by match k,hk with | 0,_=>exact cu.rfl' _ | 1,_=>exact cu.rfl' _) (.refl _)
theorem akK:ay Tryz.prog 48 (bS (fun _:Unit=>[]) (fun _=>True) (fun _=>.agg (sqK three))):=iR anG fun _ _=>aqN
theorem ahN:∀l:List Sk,sizes (l.map fun y=>fH (mE y))=l.length
 | []=>by simp[sizes]
 | y :: l=>by
  rw[awv,sizes,ahN l,apl]
  show (Ex.node 1 (mE y) []).size+l.length=_
  rw[Ex.size,sizes];omega
theorem ahH:∀l:List Sk,gN (l.map fun y=>fH (mE y))≤1
 | []=>by simp[gN]
 | y :: l=>by
  rw[awv,gN]
  have:=ahH l
  have h:(fH (mE y)).deep=1:=by show (Ex.node 1 (mE y) []).deep=1;rw[Ex.deep,gN]
  omega
theorem abp (n:Int):gQ (fH n)=true:=jy.2 ⟨by show (Ex.node 1 n []).size≤256;rw[Ex.size,sizes];omega,by show (Ex.node 1 n []).deep≤16;rw[Ex.deep,gN];omega⟩
theorem afA {l:List Sk} (h:l.length≤6):gQ (.node 3 0 (l.map fun y=>fH (mE y)))=true:=by
 have h1:=ahN l
 have h2:=ahH l
 exact jy.2 ⟨by rw[Ex.size];omega,by rw[Ex.deep];omega⟩
theorem agh {l:List Sk} (h:l.length≤6):gQ (agU l)=true:=by
 match l,h with
 | [y],_=>exact abp _
 | [],h=>exact afA h
 | a :: b :: l,h=>exact afA h
def okQ (q:SX):Prop:=q.1.st.length≤6∧gQ q.2=true
theorem avn {s:kZ} (h:∀x∈s.sts,x.st.length≤6):∀q∈yY s,okQ q:=by
 have key:∀(l:List Stp) (p:List SX),(∀x∈l,x.st.length≤6)→(∀q∈p,okQ q)→∀q∈l.foldl (aeT s.act) p,okQ q:=by
  intro l
  induction l with
  | nil=>intro p _ h;exact h
  | cons x l ih=>
   intro p hx h
   rw[avF]
   refine ih _ (fun y hy=>hx y (by simp[hy])) fun q hq=>?_
   have hx0:=hx x (by simp)
   unfold aeT at hq
   split at hq
   ·rcases acE.1 hq with hq | hq
    ·rcases acE.1 hq with hq | hq
     ·exact h q hq
     ·simp only[acN] at hq;subst hq;exact ⟨hx0,agh hx0⟩
    ·simp only[acN] at hq;subst hq;exact ⟨akx _,abp _⟩
   ·rcases acE.1 hq with hq | hq
    ·exact h q hq
    ·simp only[acN] at hq;subst hq;exact ⟨hx0,agh hx0⟩
 exact key s.sts _ h fun q hq=>by simp only[acN] at hq;subst hq;exact ⟨akx _,abp _⟩
theorem atJ {s:kZ} (h:sD s=0):mO s=0∧(yY s).length≤24:=by
 unfold sD at h
 split at h
 ·rename_i h1;exact absurd h h1
 ·rename_i h1
  split at h
  ·cases h
  ·rename_i h2
   rw[ajY,ahn] at h2
   exact ⟨akB.1 h1,by omega⟩
theorem apb (s:kZ):aoE (ofC s):=by
 unfold ofC
 split
 ·rename_i h
  obtain ⟨h1,h2⟩:=atJ h
  obtain ⟨_,_,hck⟩:=seq_ok h1
  have hq:=avn (s:=s) fun x hx=>(zf (hck x hx)).1.2
  refine ⟨⟨?_,?_⟩,?_,fun x hx=>?_,fun t ht=>?_⟩
  ·show ((yY s).map (·.1)).length≤_;rw[ahn];omega
  ·show ((List.range (yY s).length).map (aeS (yY s))).length≤_;rw[ahn,at0];omega
  ·show 1≤1000000;omega
  ·have hx:x∈(yY s).map (·.1):=hx
   obtain ⟨q,hq1,rfl⟩:=aup.1 hx
   have:=(hq q hq1).1;omega
  ·have ht:t∈(List.range (yY s).length).map (aeS (yY s)):=ht
   obtain ⟨k,hk,rfl⟩:=aup.1 ht
   have hk:=auh.1 hk
   exact ⟨by show 1≤1000000;omega,by show 1≤1000000;omega,(hq _ (aa0 (bC sx0 hk))).2⟩
 ·exact ⟨⟨akx _,akx _⟩,akx _,(fun x hx=>nomatch (show x∈([]:List Stp) from hx)),(fun t ht=>nomatch (show t∈([]:List rP) from ht))⟩
theorem ajZ {c:aA} (h:aoE c):jC c:=⟨h.2.2.1,fun t ht=>⟨(h.2.2.2 t ht).1,(h.2.2.2 t ht).2.1,by have:=(jy.1 (h.2.2.2 t ht).2.2).1;omega⟩⟩
def ocN (s:kZ):Int:=if sD s=0 then dn (ofC s) else sD s
def ocC (s:kZ):bn:=if sD s=0 then agz (ofC s) else zC
def ocP (s:kZ):PV:=.tup [ctP (ocC s),iP (ocN s)]
def abF (s:kZ):PV:=if sD s=0 then .tup [ctP (agz (ofC s)),iP (dn (ofC s))] else .tup [zCP,iP (sD s)]
theorem awc (s:kZ):fP (abF s) (ocP s):=by
 unfold abF ocP ocC ocN
 split
 ·exact .refl _
 ·exact vE (aG arz (nO (.refl _)))
theorem ar0:ay Tryz.prog 23 (bS (fun s:kZ=>[sqA s]) (fun _=>True) ocP):=by
 have h:ay Tryz.prog 23 (bS (fun s:kZ=>[sqA s]) (fun _=>True) abF):=by
  refine vF Tryz.func23 ?_
  rintro (s:kZ) hpre
  refine cK (acH) (s) (by exact (ai rfl (ai rfl (fun _ _=>rfl)))) (trivial) ?_
  refine bN (sD s=0) (fun h1=>?_) fun h1=>?_
  ·refine eF (abF s) ?_
   rw[abF,if_neg h1]
   exact (ai (ai rfl (ai rfl (ai rfl (ai rfl rfl)))) rfl)
  refine cK (aew) (ofC s) (by exact (ai rfl (ai (ai rfl (fun _ _=>rfl)) (ai (ai rfl (fun _ _=>rfl)) (ai rfl (fun _ _=>rfl)))))) (ajZ (apb s)) ?_
  refine eF (abF s) ?_
  rw[abF,if_pos h1]
  exact (ai (ai rfl (ai (ai rfl (fun _ _=>rfl)) (ai (ai rfl (fun _ _=>rfl)) (ai (ai rfl (fun _ _=>rfl)) (ai rfl (fun _ _=>rfl)))))) rfl)
 exact iR h fun s _=>awc s
def vrY (n:Int):Ex:=.node 1 n []
def jR:aA:=⟨2,[[115,116,97,114,116]],[⟨[],0⟩,⟨[(0,true)],0⟩,⟨[(1,true)],0⟩,⟨[],150⟩,⟨[(0,false),(1,false)],0⟩],
 [⟨[0],[1],vrY 4⟩,⟨[1],[2],vrY 1⟩,⟨[2],[3],vrY 3⟩,⟨[3],[4],vrY 8⟩,⟨[4],[0],.node 3 0 [vrY 0,vrY 2]⟩]⟩
theorem ag2:ofC three=jR:=by kernel_rfl
theorem ai3:sD three=0:=by decide +kernel
theorem aaZ:dn jR=0:=by decide +kernel
def sU:bn:=cB jR
theorem asw:agz jR=sU:=if_pos aaZ
theorem ao2:sU.sgs.length=15:=by decide +kernel
theorem auN:(sU.sgs.getD 6 ak).nm=[122,48]:=by decide +kernel
theorem awW:eZ jR jR.sts.length=[5,6,7,8,9]:=by decide +kernel
theorem aw4:dD jR jR.sts.length=[-1099511627776,-1099511627776,-1099511627776,10,-1099511627776]:=by decide +kernel
def aeE:d9:={ jQ sU with inp:=[true] }
theorem auR:rR jR aeE=0:=by decide +kernel
theorem avh:za jR aeE=[false,true,false,false,false]:=by decide +kernel
theorem aw2:ocC three=sU:=by unfold ocC;rw[if_pos ai3,ag2,asw]
theorem awF:ocN three=0:=by unfold ocN;rw[if_pos ai3,ag2,aaZ]
theorem aiE:jC jR:=by
 refine ⟨fun s hs=>?_,fun t ht=>?_⟩
 ·have:∀s∈jR.sts,s.st.length≤2:=by decide
  have:=this s hs;omega
 ·have:∀t∈jR.trs,t.fr.length≤2∧t.to.length≤2∧t.wh.size≤10:=by decide +kernel
  have:=this t ht
  exact ⟨by omega,by omega,by omega⟩
theorem aw1:jY jR:=⟨(oQ.1 aaZ).1,aiE⟩
theorem bd3:ahd sU:=uP aw1
theorem fs3:anw sU:=by
 refine ⟨bd3,(oQ.1 aaZ).2,by rw[ao2];decide,fun x hx=>?_⟩
 have:∀x∈sU.sgs,x.on.size≤100:=by decide +kernel
 have:=this x hx
 omega
theorem cs3:adL (jR,aeE):=by
 refine ⟨aiE,?_,?_⟩
 ·exact ⟨by decide +kernel,by decide +kernel⟩
 ·exact ⟨by decide +kernel,by decide +kernel,by decide +kernel⟩
section
variable {z : Int} (hz : z = 0)
include hz
theorem asX:ay Tryz.prog 23 (bS (fun _:Unit=>[sqA three]) (fun _=>True) (fun _=>.tup [ctP sU,iP z])):=
 kM ar0 three trivial (by show PV.tup [ctP (ocC three),iP (ocN three)]=_;rw[hz,aw2,awF])
theorem asO:ay Tryz.prog 49 (bS (fun _:Unit=>[sqA three]) (fun _=>True) (fun _=>.tup [chP jR,iP z])):=
 kM acH three trivial (by show PV.tup [chP (ofC three),iP (sD three)]=_;rw[hz,ag2,ai3])
theorem atg:ay Tryz.prog 16 (bS (fun _:Unit=>[jS jR]) (fun _=>True) (fun _=>.tup [fD [5,6,7,8,9],iP z])):=
 kM anH jR aiE (by show agS (dn jR) (eZ jR jR.sts.length)=_;rw[aaZ,awW,hz];rfl)
theorem ate:ay Tryz.prog 18 (bS (fun _:Unit=>[jS jR]) (fun _=>True) (fun _=>.tup [fD [-1099511627776,-1099511627776,-1099511627776,10,-1099511627776],iP z])):=
 kM am6 jR aiE (by show agS (dn jR) (dD jR jR.sts.length)=_;rw[aaZ,aw4,hz];rfl)
theorem ath:ay Tryz.prog 30 (bS (fun _:Unit=>[uE sU]) (fun _=>True) (fun _=>.tup [tq (jQ sU),iP z])):=
 kM alN sU fs3 (by show PV.tup [tq (jQ sU),iP 0]=_;rw[hz])
theorem asI:ay Tryz.prog 26 (bS (fun _:Unit=>[jS jR,vQ aeE]) (fun _=>True) (fun _=>.tup [kD [false,true,false,false,false],iP z])):=
 kM ara (jR,aeE) cs3 (by show aeZ (rR jR aeE) (za jR aeE)=_;rw[auR,avh,hz];rfl)
end
theorem aip (l:List Int) (h:l.length≤1000000):ay Tryz.prog 50 (bH (fun _:Unit=>[isA l,isA l]) (fun _=>True) (fun _=>bP true)):=
 wF asE (l,l) h (by show bP (decide (l=l))=_;rw[decide_eq_true rfl])
theorem avJ (l:List Bool) (h:l.length≤1000000):ay Tryz.prog 33 (bH (fun _:Unit=>[rX l,rX l]) (fun _=>True) (fun _=>bP true)):=
 wF adM (l,l) h (by show bP (decide (l=l))=_;rw[decide_eq_true rfl])
theorem abT:ay Tryz.prog 12 (bH (fun _:Unit=>[]) (fun _=>True) (fun _=>bP true)):=by
 refine vI [4000059,4000071,4000076,4000082,4000088,4000101] Tryz.func12 ?_
 rintro ⟨⟩ hpre
 obtain ⟨z,hz⟩:∃z:Int,z=0:=⟨0,rfl⟩
 refine cK (akK) (()) (by exact trivial) (trivial) ?_
 refine cK ((asX hz)) (()) (by exact (ai rfl (ai rfl (fun _ _=>rfl)))) (trivial) ?_
 refine cK (akK) (()) (by exact trivial) (trivial) ?_
 refine cK ((asO hz)) (()) (by exact (ai rfl (ai rfl (fun _ _=>rfl)))) (trivial) ?_
 refine cK ((atg hz)) (()) (by exact (ai rfl (ai (ai rfl (fun _ _=>rfl)) (ai (ai rfl (fun _ _=>rfl)) (ai rfl (fun _ _=>rfl)))))) (trivial) ?_
 refine cK ((ate hz)) (()) (by exact (ai rfl (ai (ai rfl (fun _ _=>rfl)) (ai (ai rfl (fun _ _=>rfl)) (ai rfl (fun _ _=>rfl)))))) (trivial) ?_
 refine cK ((ath hz)) (()) (by exact (ai rfl (ai (ai rfl (fun _ _=>rfl)) (ai (ai rfl (fun _ _=>rfl)) (ai (ai rfl (fun _ _=>rfl)) (ai rfl (fun _ _=>rfl))))))) (trivial) ?_
 refine bF (by simp only[hz,Int.add_zero,ai8];rfl) ?_
 refine ei _ (ai ((asI hz)) (ei (()) (ei [] (ai (a4 (ai (fun _=>Or.inl rfl) (ai nof (Or.inl rfl)))) (ai ?_ (ai trivial (ai ?_ ?_)))))))
 ·refine (ai (ai rfl (ai (ai rfl (fun _ _=>rfl)) (ai (ai rfl (fun _ _=>rfl)) (ai rfl (fun _ _=>rfl))))) (ai (ai rfl (fun _ _=>rfl)) (ai (ai rfl (fun _ _=>rfl)) (ai (ai rfl ?_) (ai (ai rfl (fun _ _=>rfl)) (ai rfl (fun _ _=>rfl)))))))
  (intro k hk;have hk:k<1:=hk;match k,hk with | 0,_=>rfl)
 ·trivial
 refine bT (by simp only[hz,Int.add_zero,ai8];rfl) ?_
 refine ei _ (ai ((aip [5,6,7,8,9] (by decide))) (ei (()) (ei [] (ai (a4 (ai (fun _=>Or.inl rfl) (ai nof (Or.inl rfl)))) (ai ?_ (ai trivial (ai ?_ ?_)))))))
 ·refine (ai (ai rfl (fun _ _=>rfl)) (ai rfl ?_))
  (intro k hk;have hk:k<5:=hk;match k,hk with | 0,_=>rfl | 1,_=>rfl | 2,_=>rfl | 3,_=>rfl | 4,_=>rfl)
 ·trivial
 refine ei _ (ai ((aip [-1099511627776,-1099511627776,-1099511627776,10,-1099511627776] (by decide))) (ei (()) (ei [] (ai (a4 (ai (fun _=>Or.inl rfl) (ai nof (Or.inl rfl)))) (ai ?_ (ai trivial (ai ?_ ?_)))))))
 ·refine (ai (ai rfl (fun _ _=>rfl)) (ai rfl ?_))
  (intro k hk;have hk:k<5:=hk;match k,hk with | 0,_=>rfl | 1,_=>rfl | 2,_=>rfl | 3,_=>rfl | 4,_=>rfl)
 ·trivial
 refine ei _ (ai ((aip [16,18] (by decide))) (ei (()) (ei [] (ai (a4 (ai (fun _=>Or.inl rfl) (ai nof (Or.inl rfl)))) (ai ?_ (ai trivial (ai ?_ ?_)))))))
 ·refine (ai (ai rfl (fun _ _=>rfl)) (ai rfl ?_))
  (intro k hk;have hk:k<2:=hk;match k,hk with | 0,_=>rfl | 1,_=>rfl)
 ·trivial
 refine ei _ (ai ((aip [17,19] (by decide))) (ei (()) (ei [] (ai (a4 (ai (fun _=>Or.inl rfl) (ai nof (Or.inl rfl)))) (ai ?_ (ai trivial (ai ?_ ?_)))))))
 ·refine (ai (ai rfl (fun _ _=>rfl)) (ai rfl ?_))
  (intro k hk;have hk:k<2:=hk;match k,hk with | 0,_=>rfl | 1,_=>rfl)
 ·trivial
 refine ai (ai (by decide) (by show (6:Int)<(sU.sgs.length:Int);rw[ao2];decide)) (ai rfl ?_)
 refine bT (by show ((strOf (sU.sgs.getD 6 ak).nm).data.toList==(⟨#[122,48]⟩:ByteArray).data.toList)=true;rw[auN];decide +kernel) ?_
 refine ei _ (ai ((avJ [false,true,false,false,false] (by decide))) (ei (()) (ei [] (ai (a4 (ai (fun _=>Or.inl rfl) (ai nof (Or.inl rfl)))) (ai ?_ (ai trivial (ai ?_ ?_)))))))
 ·refine (ai (ai rfl (fun _ _=>rfl)) (ai rfl ?_))
  (intro k hk;have hk:k<5:=hk;match k,hk with | 0,_=>rfl | 1,_=>rfl | 2,_=>rfl | 3,_=>rfl | 4,_=>rfl)
 ·trivial
 refine eN _ ?_
 exact rfl
theorem aro:ay Tryz.prog 11 (bH (fun c:aA=>[jS c]) (fun _=>True) (fun c=>bP (kW c))):=by
 refine vF Tryz.func11 ?_
 rintro (c:aA) hpre
 refine cK (aq6) (c) (by exact (ai rfl (ai (ai rfl (fun _ _=>rfl)) (ai (ai rfl (fun _ _=>rfl)) (ai rfl (fun _ _=>rfl)))))) (trivial) ?_
 refine eN _ ?_
 exact rfl
theorem ape {x:Ex} (h:bJ x=true):gQ x=true:=by
 cases x with
 | node o i l=>
  unfold bJ at h
  have hl:l.isEmpty=true:=by
   simp only[abj] at h
   exact h.2
  cases l with
  | nil=>exact jy.2 ⟨by rw[Ex.size,sizes];omega,by rw[Ex.deep,gN];omega⟩
  | cons _ _=>cases hl
theorem aoQ {c:bn} {i:Nat} (h:aT c i=0):aug (c.sgs.getD i ak):=by
 have h1:=eO.1 (aoI h).1
 refine ⟨jy.2 h1.2.1,?_⟩
 unfold aT at h
 split at h
 ·rename_i h1;exact absurd h h1
 split at h
 ·cases h
 split at h
 ·rename_i h2;exact absurd h h2
 split at h
 ·rename_i h3;exact absurd h h3.2
 rename_i h3
 split at h
 ·cases h
 split at h
 ·cases h
 split at h
 ·cases h
 rename_i h4
 by_cases hk:(c.sgs.getD i ak).kd=1
 ·have h5:bf (c.sgs.getD i ak).off (dz c)=0:=akB.1 fun e=>h3 ⟨hk,e⟩
  exact jy.2 (eO.1 h5).2.1
 ·refine ape ?_
  cases hz:bJ (c.sgs.getD i ak).off with
  | true=>rfl
  | false=>exact absurd (.inl ⟨hk,.inl hz⟩) h4
theorem asK {c:bn} (h:nV c=0):(c.pl.length:Int)=c.act∧(c.mi.length:Int)=c.act:=by
 unfold nV at h
 split at h
 ·cases h
 ·rename_i h1;exact akB.1 h1
theorem aob {c:bn} (h:bB c=0):awQ c:=by
 obtain ⟨⟨ha1,ha6⟩,h16,h64⟩:=wS h
 obtain ⟨_,hs,hp⟩:=aeL h
 obtain ⟨hp1,hp2⟩:=asK hp
 refine ⟨⟨by omega,by omega,by omega,by omega⟩,fun x hx=>?_⟩
 obtain ⟨k,hk,rfl⟩:=apT hx
 have:=aoQ (hs k hk)
 rwa [aam,aav hk] at this
theorem aje (c:aA):∀k,∃t,cZ c k=eH c c.sts.length++t
 | 0=>⟨[],(ao9 _).symm⟩
 | k+1=>by
  obtain ⟨t,ht⟩:=aje c k
  rw[cZ]
  split
  ·exact ⟨t++[abO c k],by rw[ht,atQ]⟩
  ·exact ⟨t,ht⟩
theorem atB {c:aA} {k:Nat} (h:k<c.sts.length):(cB c).sgs.getD k ak=lN c k:=by
 obtain ⟨t,ht⟩:=aeO c c.act.toNat
 obtain ⟨u,hu⟩:=aje c c.sts.length
 have hm:=tJ c c.sts.length
 show (aW c c.act.toNat).getD k ak=_
 rw[ht,fI,hu,atQ,atQ,ahD (by omega)]
 exact abJ h
theorem aeH {c:bn} {s:d9} {q:Nat} (h:¬(c.sgs.getD q ak).kd=0):∀k,(aJ c s k).1.getD q false=s.vl.getD q false
 | 0=>rfl
 | k+1=>by
  rw[aJ]
  split
  ·rename_i g
   have hk:¬k=q:=fun e=>h (e▸g)
   show ((aJ c s k).1.set k _).getD q false=_
   rw[aam,List.getElem?_set_ne hk,←aam,aeH h k]
  ·exact aeH h k
theorem atC {c:bn} {i:Nat} (h:aT c i=0) (hk:¬(c.sgs.getD i ak).kd=1):(c.sgs.getD i ak).ini=false:=by
 unfold aT at h
 split at h
 ·rename_i h1;exact absurd h h1
 split at h
 ·cases h
 split at h
 ·rename_i h2;exact absurd h h2
 split at h
 ·rename_i h3;exact absurd h h3.2
 split at h
 ·cases h
 split at h
 ·cases h
 split at h
 ·cases h
 rename_i h4
 cases e:(c.sgs.getD i ak).ini with
 | false=>rfl
 | true=>exact absurd (.inl ⟨hk,.inr e⟩) h4
theorem al3 {c:bn} {s:d9} (h:qc c s):qc c (oF c s):=by
 obtain ⟨h1,h2,h3,h4,h5⟩:=h
 exact ⟨h1,h2,h3,by show (aJ c s c.sgs.length).1.length=_;rw[(qG c s _).1];exact h4,h5⟩
theorem alT {f:Int→Bool} (h:f 0=false) (n:Nat):¬(List.replicate n (0:Int)).any f=true:=by
 intro e
 obtain ⟨x,hx,hf⟩:=al0.1 e
 obtain ⟨_,rfl⟩:=List.mem_replicate.1 hx
 rw[h] at hf;cases hf
theorem aou {c:bn} {q:Nat} (hq:q<c.sgs.length) (h:¬(c.sgs.getD q ak).kd=0):(jQ c).vl.getD q false=(c.sgs.getD q ak).ini:=by
 show (aJ c (yT c) c.sgs.length).1.getD q false=_
 rw[aeH h]
 show (mP c c.sgs.length).getD q false=_
 rw[zm hq,if_pos hq]
theorem al9 {c:bn} (h:bB c=0):qg c (jQ c)=0:=by
 have hs:=wS h
 have hsh:qc c (jQ c):=al3 (ad7 (by omega))
 unfold qg mI
 rw[if_neg (fun e=>e h),if_neg (fun e=>e hsh),if_neg (show ¬(jQ c).en.any (mG 4)=true from alT (by decide) _),if_neg (show ¬(jQ c).ti.any (mG 3)=true from alT (by decide) _),if_neg]
 intro e
 obtain ⟨i,hi,hf⟩:=al0.1 e
 have hi:i<(jQ c).ti.length:=auh.1 hi
 have hl:(jQ c).ti.length=c.sgs.length:=hsh.2.2.2.2
 have ht:(jQ c).ti.getD i 0=0:=by
  show (List.replicate c.sgs.length (0:Int)).getD i 0=0
  rw[aam,avf,if_pos (by omega)];rfl
 unfold zn at hf
 rw[ht] at hf
 split at hf
 ·rename_i hk
  have hk:(c.sgs.getD i ak).kd=2:=by simpa using hk
  rw[aou (by omega) (by omega),atC ((aeL h).2.1 i (by omega)) (by omega)] at hf
  cases hf
 ·cases hf
theorem aps {c:bn} (h:bB c=0):ad1 (jQ c)∧abD (jQ c):=by
 have hs:=wS h
 obtain ⟨h1,h2,h3,h4,h5⟩:=al3 (ad7 (c:=c) (by omega))
 exact ⟨⟨by show (oF c (yT c)).en.length≤_;omega,by show (oF c (yT c)).ti.length≤_;omega⟩,by show (oF c (yT c)).en.length≤_;omega,by show (oF c (yT c)).inp.length≤_;omega,by show (oF c (yT c)).vl.length≤_;omega⟩
def uO (n:Nat):List Bool:=(List.replicate n false).set 0 true
theorem aja {n k:Nat} (h:k<n):(uO n).getD k false=((k:Int)==0):=by
 unfold uO
 rw[aam,axi]
 by_cases e:0=k
 ·subst e;rw[if_pos rfl,if_pos (by rw[alO];exact h)];rfl
 ·rw[if_neg e,avf,if_pos h]
  exact (by simpa using fun q=>e q.symm:((k:Int)==0)=false).symm
theorem aqD {c:aA} (hc:jY c) (h:bB (cB c)=0):qw c (jQ (cB c))=uO c.sts.length:=by
 have hr:rSt (c,jQ (cB c)):=⟨hc,al9 h,(aps h).2⟩
 have hl:=adI hr
 have hk:=(qK hr).2.2
 have h5:c.sts.length≤(jQ (cB c)).vl.length:=hk.2.2
 refine axE (by rw[hl];unfold uO;rw[an8,alO]) fun k h1 h2=>?_
 have g1:(qw c (jQ (cB c))).getD k false=((k:Int)==0):=by
  unfold qw
  rw[aam,auL,if_pos (by omega),←aam]
  have hm:=atB (c:=c) (k:=k) (by omega)
  have hv:(cB c).sgs.length=(jQ (cB c)).vl.length:=hk.1.symm
  rw[aou (by omega) (by rw[hm];show ¬(1:Int)=0;decide),hm]
  rfl
 have g2:=aja (n:=c.sts.length) (k:=k) (by omega)
 rw[←g1,aam,aam,aav h1,aav h2] at g2
 exact g2.symm
theorem auu {c:aA} (hc:jY c) (h:bB (cB c)=0):anw (cB c):=by
 obtain ⟨⟨ha1,ha6⟩,hi16,hs24,ht32⟩:=dI hc
 have h1:=(kN hc.1).2.2.1.1
 have hp:=jg c c.act.toNat
 have hg:=je c c.trs.length
 refine ⟨uP hc,h,by show 0<(aW c c.act.toNat).length;omega,fun x hx=>?_⟩
 have:=((aob h).2 x hx).1
 have:=(jy.1 this).1
 omega
theorem aiY (n:Nat):(uO n).length=n:=by unfold uO;rw[an8,alO]
theorem am4:ay Tryz.prog 6 (bH (fun c:aA=>[jS c]) (fun _=>True) (fun _=>bP true)):=by
 refine vF Tryz.func6 ?_
 rintro (c:aA) hpre
 refine cK (aro) (c) (by exact (ai rfl (ai (ai rfl (fun _ _=>rfl)) (ai (ai rfl (fun _ _=>rfl)) (ai rfl (fun _ _=>rfl)))))) (trivial) ?_
 refine aC (b:=!kW c) rfl (fun h1=>?_) (fun h1=>?_)
 ·refine cK (abT) (()) (by exact trivial) (trivial) ?_
  refine eN _ ?_
  exact rfl
 have h1:kW c=true:=by simpa using h1
 have ho:=(alE h1).1
 have hse:=(alE h1).2.1
 refine cK (aqu) (c) (by exact (ai rfl (ai (ai rfl (fun _ _=>rfl)) (ai (ai rfl (fun _ _=>rfl)) (ai rfl (fun _ _=>rfl)))))) (ho) ?_
 refine bN (dn c=0) (fun h2=>?_) fun h2=>?_
 ·refine cK (abT) (()) (by exact trivial) (trivial) ?_
  refine eN _ ?_
  exact rfl
 obtain ⟨hk1,hk2⟩:=oQ.1 h2
 have hc:jY c:=⟨hk1,ho⟩
 obtain ⟨⟨ha1,ha6⟩,hi16,hs24,ht32⟩:=dI hc
 have hs0:0<c.sts.length:=(kN hk1).2.2.1.1
 obtain ⟨z,hz⟩:∃z:Int,z=0:=⟨0,rfl⟩
 have e1:ajL c=.tup [ctP (cB c),iP z]:=by unfold ajL agz;rw[if_pos h2,h2,hz]
 have e2:PV.tup [tq (jQ (cB c)),iP 0]=.tup [tq (jQ (cB c)),iP z]:=by rw[hz]
 have hcs:adL (c,jQ (cB c)):=⟨ho,aps hk2⟩
 have hg:iT c (jQ (cB c))=0:=by unfold iT;rw[if_neg (fun e=>e h2)];exact al9 hk2
 have e3:aeZ (iT c (jQ (cB c))) (qw c (jQ (cB c)))=.tup [kD (uO c.sts.length),iP z]:=by unfold aeZ;rw[hg,if_pos rfl,aqD hc hk2,hz]
 refine cK (al5) (c) (by exact (ai rfl (ai (ai rfl (fun _ _=>rfl)) (ai (ai rfl (fun _ _=>rfl)) (ai rfl (fun _ _=>rfl)))))) (hse) ?_
 refine cK ((kM aew c ho e1)) (()) (by exact (ai rfl (ai (ai rfl (fun _ _=>rfl)) (ai (ai rfl (fun _ _=>rfl)) (ai rfl (fun _ _=>rfl)))))) (trivial) ?_
 refine cK ((kM alN (cB c) (auu hc hk2) e2)) (()) (by exact (ai rfl (ai (ai rfl (fun _ _=>rfl)) (ai (ai rfl (fun _ _=>rfl)) (ai (ai rfl (fun _ _=>rfl)) (ai rfl (fun _ _=>rfl))))))) (trivial) ?_
 refine dR (.seq [0,2,1,3,4,5,6,7,8]) ?_
 refine cK (al5) (c) (by exact (ai rfl (ai (ai rfl (fun _ _=>rfl)) (ai (ai rfl (fun _ _=>rfl)) (ai rfl (fun _ _=>rfl)))))) (hse) ?_
 refine cK ((kM amj (c,jQ (cB c)) hcs e3)) (()) (by exact (ai (ai rfl (ai (ai rfl (fun _ _=>rfl)) (ai (ai rfl (fun _ _=>rfl)) (ai rfl (fun _ _=>rfl))))) (ai (ai rfl (fun _ _=>rfl)) (ai (ai rfl (fun _ _=>rfl)) (ai (ai rfl (fun _ _=>rfl)) (ai (ai rfl (fun _ _=>rfl)) (ai rfl (fun _ _=>rfl)))))))) (trivial) ?_
 refine ai (ai (aa1 _) (ai (axA _) (ai (by show ((c.sts.length:Nat):Int)≤_;omega) (by show 1*(c.sts.length:Int).toNat≤_;omega)))) ?_
 refine ai (ai (by decide) (by show (0:Int)<((c.sts.length:Int).toNat:Int);omega)) ?_
 refine ai (ai (by show 0<(c.sts.length:Int).toNat;omega) (abm _)) ?_
 refine bT (by simp only[hz,Int.add_zero,ai8];rfl) ?_
 refine cK (abn) (cB c) (by exact (ai rfl (ai (ai rfl (fun _ _=>rfl)) (ai (ai rfl (fun _ _=>rfl)) (ai (ai rfl (fun _ _=>rfl)) (ai rfl (fun _ _=>rfl))))))) (uP hc) ?_
 refine bT (by show (bB (cB c)==0)=true;rw[hk2];rfl) ?_
 refine ei _ (ai ((wF adM (uO c.sts.length,uO c.sts.length) (by show (uO c.sts.length).length≤1000000;rw[aiY];omega) (show bP (decide (uO c.sts.length=uO c.sts.length))=bP true by rw[decide_eq_true rfl]))) (ei (()) (ei [] (ai (ai rfl (ai rfl (ai rfl (ai rfl (ai (fun _=>Or.inl rfl) (ai (fun _=>ai rfl rfl) (Or.inl rfl))))))) (ai ?_ (ai trivial (ai ?_ ?_)))))))
 ·refine (ai (ai rfl (fun _ _=>rfl)) (ai ?_ ?_))
  ·show (c.sts.length:Int).toNat=(uO c.sts.length).length
   rw[aiY];omega
  ·intro k hk
   have hk:k<(c.sts.length:Int).toNat:=hk
   show gZ (fun _=>[.val (.bool false)]) 0 0 [bP true] k=[bP ((uO c.sts.length).getD k false)]
   rw[aja (by omega)]
   unfold gZ
   by_cases e:k=0
   ·subst e;rfl
   ·rw[if_neg e,show ((k:Int)==0)=false by simpa using e];rfl
 ·trivial
 refine cK (abT) (()) (by exact trivial) (trivial) ?_
 refine eN _ ?_
 exact rfl
end Go.Sx.Pe
namespace Go.Sx.Pe
open Go Go.Proofs Go.Sx.Pn Go.ChangeShapes Go.WideShapes Go.ChangeAt Go.RowKit Go.Deep Go.Lib
theorem apj {H:Type} {enc:TypeId×Value→H} {P:Program} {f:Func} {s:ChangeSpec} {S:List TypeId} (hS:Closed P S) {tb:TypeId} (hb:P.underlying tb=some .bool) (hres:f.resultTypes=#[tb])
  {W W':World} {args:Array Value} {ds:List (DataW H)} {before:List MemPlace} (hW:DataW.Whole enc P f.params.toList s.vars false W args.toList ds [] before) (hv:s.vars=[])
  (hA:DataW.TrodAll enc P W 0 (fun _=>true) true f.params.toList args.toList ds before) (hts:∀t∈f.params.toList,t∈S) (hfn:s.fn H (ds++[])={ results:=[.lit (.bool true)],args:=ds,vars:=[] }) (hg:Below W.heap.size W W') :
  s.post enc P f false true false false W args (.bool true) W':=by
 have hlt:=hW.lt
 have hold:∀p∈before,(fun b=>decide (b<W.heap.size)) p.block=true:=fun p hp=>by simpa using hlt p hp
 have hargs:∀sp:Nat→Bool,(∀p∈before,sp p.block=true)→DataW.TrodAll enc P W' 0 sp true f.params.toList args.toList ds before:=fun sp hsp=>ac6 hS hg.block hts hA hsp
 have hrt:(Value.bool true).resultList f.resultTypes.size=[.bool true]:=by rw[hres];rfl
 have hr:∀(b:Nat) (sp:Nat→Bool) (hd:Bool),DataW.TrodAll enc P W' b sp hd f.resultTypes.toList ((Value.bool true).resultList f.resultTypes.size) [.lit (.bool true)] []:=fun b sp hd=>by
  rw[hrt,hres];exact trodAll_cons_mk (shut_bool hb true) trodAll_mk0
 refine ⟨ds,[],before,[],before,[],hW,by rw[hfn];exact hr _ _ _,by rw[hfn];exact hargs _ hold,by rw[hfn,hv];rfl,World.keptBut_mono (fun p hp=>⟨hp,.inr (.inl hp)⟩) (hg.frame (·∈before)),fun h=>by cases h⟩
theorem awI {a b:Bool} (h:a=true) (k:b=true):(a&&b)=true:=by rw[h,k];rfl
theorem asB:ownKnob Tryz.prog.godebug=none:=by kernel_rfl
def akk (vs:List Value):Obj→Obj
 | .cells _ t frozen=>.cells vs.toArray t frozen
 | o=>o
def u8s (l:List Nat):List Value:=l.map fun n:Nat=>Value.int .u8 (n:Int)
noncomputable def adb (os:Os):World:=
 { World.holding Tryz.prog os ⟨#[],#[],[]⟩ with heap:=((((((World.holding Tryz.prog os ⟨#[],#[],[]⟩).heap.modify 2 (akk (u8s Lib.deBruijn32tab))).modify 3 (akk (u8s Lib.deBruijn64tab))).modify 0 (akk (Lib.pow10Tab.map fun z=>Value.int .u64 z))).modify 5 (akk (u8s ([128,191,160,191,128,159,144,191,128,143]++List.replicate 22 0)))).modify 4 (akk (u8s Go.Pinned.utf8FirstZ))) }
theorem asb {E:Env} {v:Value} {d d':PV} (h:aL E v (.p false d)) (e:fP d d'):aL E v (.p false d'):=by
 cases h with | p _ _ _ hp=>exact .p _ _ _ (wK e hp)
theorem pF {P:Program} {t:TypeId} {fs:Array Field} {n:Nat} {l:List PV} {ts:List TypeId} (hu:P.underlying t=some (.struct fs)) (hts:fs.toList.map (·.type)=ts) (h:Shape P n t l) :
  ∃(n':Nat) (ls:List (List PV)),n=n'+1∧l=ls.flatten∧ajK P n' ts ls:=by
 cases n with
 | zero=>exact h.elim
 | succ n=>
  unfold Shape at h;rw[hu] at h
  obtain ⟨ls,rfl,h1,h2⟩:=h
  refine ⟨n,ls,rfl,rfl,ahl ts ls (by rw[h1,←hts];simp) fun i t x ht hx=>?_⟩
  subst hts
  simp only[alh,aer,axy] at ht
  obtain ⟨f,hf,rfl⟩:=ht
  exact h2 i f x hf hx
theorem adu {P:Program} {t e:TypeId} {n:Nat} {l:List PV} (hu:P.underlying t=some (.slice e)) (h:Shape P n t l):∃(n' m:Nat) (f:Nat→List PV),n=n'+1∧l=[.seq m f]∧∀j,j<m→Shape P n' e (f j):=by
 cases n with
 | zero=>exact h.elim
 | succ n=>unfold Shape at h;rw[hu] at h;obtain ⟨m,f,h1,h2,h3⟩:=h;exact ⟨n,m,f,rfl,h2,h3⟩
theorem ahI {α:Type} (d:α) {g:α→List PV} {m:Nat} {f:Nat→List PV} (h:∀j,j<m→∃x,cu (f j) (g x)):∃L:List α,L.length=m∧∀j,j<m→cu (f j) (g (L.getD j d)):=by
 have h1:∀j,∃x:α,j<m→cu (f j) (g x):=fun j=>by
  by_cases hj:j<m
  ·obtain ⟨x,hx⟩:=h j hj;exact ⟨x,fun _=>hx⟩
  ·exact ⟨d,fun h=>absurd h hj⟩
 obtain ⟨c,hc⟩:=Classical.axiomOfChoice h1
 refine ⟨(List.range m).map c,by simp,fun j hj=>?_⟩
 have:((List.range m).map c).getD j d=c j:=by simp[aam,hj]
 rw[this];exact hc j hj
theorem uS {α:Type} (d:α) {g:α→List PV} {P:Program} {t e:TypeId} {n:Nat} {l:List PV} (hu:P.underlying t=some (.slice e)) (he:∀k x,k<n→Shape P k e x→∃y,cu x (g y)) (h:Shape P n t l):∃L:List α,cu l [.seq L.length (fun j=>g (L.getD j d))]:=by
 obtain ⟨n',m,f,rfl,rfl,hf⟩:=adu hu h
 obtain ⟨L,rfl,hL⟩:=ahI d fun j hj=>he n' (f j) (Nat.lt_succ_self _) (hf j hj)
 exact ⟨L,apP (iC hL)⟩
theorem vN:∀{a b c d:List PV},cu a b→cu c d→cu (a++c) (b++d)
 | [],[],_,_,_,h=>h
 | x :: a,y :: b,c,d,h,k=>aG (h.2 0 x y rfl rfl) (vN ⟨by simpa using h.1,fun j s s' hs hs'=>h.2 (j+1) s s' hs hs'⟩ k)
 | [],_ :: _,_,_,h,_=>by have:=h.1;simp at this
 | _ :: _,[],_,_,h,_=>by have:=h.1;simp at this
theorem ah7 {a b c a' b' c':List PV} (h1:cu a a') (h2:cu b b') (h3:cu c c'):cu [a,b,c].flatten (a'++(b'++c')):=by
 have:[a,b,c].flatten=a++(b++c):=by simp
 rw[this];exact vN h1 (vN h2 h3)
theorem ahi {a b a' b':List PV} (h1:cu a a') (h2:cu b b'):cu [a,b].flatten (a'++b'):=by
 have:[a,b].flatten=a++b:=by simp
 rw[this];exact vN h1 h2
theorem aoD {a b c d a' b' c' d':List PV} (h1:cu a a') (h2:cu b b') (h3:cu c c') (h4:cu d d'):cu [a,b,c,d].flatten (a'++(b'++(c'++d'))):=by
 have:[a,b,c,d].flatten=a++(b++(c++d)):=by simp
 rw[this];exact vN h1 (vN h2 (vN h3 h4))
theorem aa9 {n:Nat} {l:List PV} (h:Shape Tryz.prog n 3 l):∃m:Int,cu l [iP m]:=by
 obtain ⟨m,_,rfl⟩:=an3 Tryz.underlying3 h
 exact ⟨m,cu.rfl' _⟩
theorem aty {n:Nat} {l:List PV} (h:Shape Tryz.prog n 4 l):∃b:Bool,cu l [bP b]:=by
 obtain ⟨m,rfl⟩:=anA Tryz.underlying4 h
 exact ⟨m,cu.rfl' _⟩
theorem atZ {n:Nat} {l:List PV} (h:Shape Tryz.prog n 9 l):∃s:List UInt8,cu l [sP s]:=by
 obtain ⟨s,_,rfl⟩:=akI Tryz.underlying9 h
 refine ⟨s.data.toList,cu.of ?_⟩
 have:strOf s.data.toList=s:=by cases s;simp[strOf]
 show _=[PV.val (.string (strOf s.data.toList))]
 rw[this]
theorem alG {n:Nat} {l:List PV} (h:Shape Tryz.prog n 30 l):∃L:List Int,cu l [fD L]:=uS 0 (g:=fun x=>[iP x]) Tryz.underlying30 (fun _ _ _ h=>aa9 h) h
theorem asW {n:Nat} {l:List PV} (h:Shape Tryz.prog n 22 l):∃L:List (List UInt8),cu l [xB L]:=uS [] (g:=fun x=>[sP x]) Tryz.underlying22 (fun _ _ _ h=>atZ h) h
theorem av4 {n:Nat} {l:List PV} (h:Shape Tryz.prog n 77 l):∃x:Sk,cu l (skK x):=by
 obtain ⟨n',ls,rfl,rfl,h2⟩:=pF (ts:=[3,4]) Tryz.underlying77 (by decide) h
 match ls,h2 with
 | [a,b],⟨ha,hb,_⟩=>
  obtain ⟨x,hx⟩:=aa9 ha
  obtain ⟨y,hy⟩:=aty hb
  exact ⟨(x,y),ahi hx hy⟩
theorem atM {n:Nat} {l:List PV} (h:Shape Tryz.prog n 70 l):∃L:List Sk,cu l [acU L]:=uS bV (g:=skK) Tryz.underlying70 (fun _ _ _ h=>av4 h) h
theorem atP {n:Nat} {l:List PV} (h:Shape Tryz.prog n 97 l):∃x:Stp,cu l (stK x):=by
 obtain ⟨n',ls,rfl,rfl,h2⟩:=pF (ts:=[70,3]) Tryz.underlying97 (by decide) h
 match ls,h2 with
 | [a,b],⟨ha,hb,_⟩=>
  obtain ⟨x,hx⟩:=atM ha
  obtain ⟨y,hy⟩:=aa9 hb
  exact ⟨⟨x,y⟩,ahi hx hy⟩
theorem as4 {n:Nat} {l:List PV} (h:Shape Tryz.prog n 23 l):∃L:List Stp,cu l [aaL L]:=uS st0 (g:=stK) Tryz.underlying23 (fun _ _ _ h=>atP h) h
theorem aij {d:PV} {n:Nat} {f g:Nat→List PV} (h:fP d (.seq n f)) (e:∀k,k<n→f k=g k):fP d (.seq n g):=by
 cases h with
 | refl=>exact iC fun k hk=>cu.of (e k hk)
 | nil=>exact .nil _
 | seq _ f0 _ hl he=>exact .seq n f0 g (fun j hj=>by rw[←e j hj];exact hl j hj) fun j k s s' hj hs hs'=>he j k s s' hj hs (by rw[e j hj];exact hs')
theorem aqG {L:List Ex} {j:Nat} {x:List PV} (h:cu x (kC (L.getD j bM))):cu x (jo L j):=by
 match x,h with
 | [p,q,r],⟨hl,h⟩=>
  refine aG (h 0 _ _ rfl rfl) (aG (h 1 _ _ rfl rfl) (apP ?_))
  exact aij (h 2 _ _ rfl rfl) fun k hk=>atY _ k hk
 | [],⟨hl,_⟩=>simp[kC] at hl
 | [_],⟨hl,_⟩=>simp[kC] at hl
 | [_,_],⟨hl,_⟩=>simp[kC] at hl
 | _ :: _ :: _ :: _ :: _,⟨hl,_⟩=>simp[kC] at hl
theorem av7:∀(n:Nat) (l:List PV),Shape Tryz.prog n 90 l→∃x:Ex,cu l (kC x):=by
 intro n
 induction n using Nat.strongRecOn with
 | _ n ih=>
  intro l h
  obtain ⟨n',ls,rfl,rfl,h2⟩:=pF (ts:=[3,3,88]) Tryz.underlying90 (by decide) h
  match ls,h2 with
  | [a,b,c],⟨ha,hb,hc,_⟩=>
   obtain ⟨x,hx⟩:=aa9 ha
   obtain ⟨y,hy⟩:=aa9 hb
   obtain ⟨n2,m,f,rfl,rfl,hf⟩:=adu Tryz.underlying88 hc
   obtain ⟨L,rfl,hL⟩:=ahI bM fun j hj=>ih n2 (by omega) (f j) (hf j hj)
   refine ⟨.node x y L,ah7 hx hy (apP (iC fun j hj=>?_))⟩
   exact aqG (hL j hj)
theorem atV {n:Nat} {l:List PV} (h:Shape Tryz.prog n 100 l):∃x:rP,cu l (trK x):=by
 obtain ⟨n',ls,rfl,rfl,h2⟩:=pF (ts:=[30,30,90]) Tryz.underlying100 (by decide) h
 match ls,h2 with
 | [a,b,c],⟨ha,hb,hc,_⟩=>
  obtain ⟨x,hx⟩:=alG ha
  obtain ⟨y,hy⟩:=alG hb
  obtain ⟨z,hz⟩:=av7 _ _ hc
  exact ⟨⟨x,y,z⟩,ah7 hx hy hz⟩
theorem ata {n:Nat} {l:List PV} (h:Shape Tryz.prog n 24 l):∃L:List rP,cu l [ac5 L]:=uS aZ (g:=trK) Tryz.underlying24 (fun _ _ _ h=>atV h) h
def afv:List TypeId:=[57,3,4,9,30,55,22,77,70,111,49,51,97,23,90,88,100,24,26]
theorem acK:Closed Tryz.prog afv:=by
 intro t ht
 simp only[afv,ahy,List.mem_nil_iff,or_false] at ht
 rcases ht with rfl | rfl | rfl | rfl | rfl | rfl | rfl | rfl | rfl | rfl | rfl | rfl | rfl | rfl | rfl | rfl | rfl | rfl | rfl<;>kernel_rfl
section
variable {w : World} {r : Reach} {b : Nat} {v : Value} {n : Nat} {l : List PV}
theorem ao4 (hv:Value.okWide Tryz.prog w r b 26 v) (hs:Shape Tryz.prog n 26 l) (hr:Rel (iV w) v.cells.toList l):∃c:aA,aL (E0 w) v (jS c):=by
 obtain ⟨cs,hc⟩:=apt Tryz.underlying26 hv
 have hS:=avx hc hr
 obtain ⟨n',ls,rfl,rfl,h2⟩:=pF (ts:=[3,22,23,24]) Tryz.underlying26 (by decide) hs
 match ls,h2 with
 | [a,b,c,d],⟨ha,hb,hc,hd,_⟩=>
  obtain ⟨x,hx⟩:=aa9 ha
  obtain ⟨y,hy⟩:=asW hb
  obtain ⟨z,hz⟩:=as4 hc
  obtain ⟨u,hu⟩:=ata hd
  exact ⟨⟨x,y,z,u⟩,asb hS (mZ (aoD hx hy hz hu))⟩
end
end Go.Sx.Pe
namespace Go.Proofs.YtagbjlbohahcaaaGreatDoor.compileBegins
open Go.ChangeShapes Go.WideShapes Go.ChangeAt Go.RowKit Go.Joins Go.Deep Go.Sx Go.Sx.Pn Go.Sx.Pe
set_option maxRecDepth 100000 in
theorem contract (H:Type) (enc:TypeId×Value→H) (W:World) (base:Nat) (args:Array Value) (ds gs:List (DataW H)) (before:List MemPlace)
  (hval:∀(j:Nat) t v,Tryz.f6.params[j]?=some t→args[j]?=some v→Value.okWide Tryz.prog W .any base t v)
  (hW:DataW.Whole enc Tryz.prog Tryz.f6.params.toList Rows.compileBeginsSpec.vars false W args.toList ds gs before) (hL:laidMetH Tryz.prog Rows.compileBeginsRow.laid W) :
  Calls Tryz.prog 6 args W fun e W'=>∃v,e=.returned v∧Rows.compileBeginsSpec.post enc Tryz.prog Tryz.f6 false true false false W args v W':=by
 have hW':=hW
 obtain ⟨p,q,hA0,hV,rfl,hfz,hnd⟩:=hW
 obtain ⟨rfl,rfl⟩:=trodVars_none hV
 have hA:DataW.TrodAll enc Tryz.prog W 0 (fun _=>true) true Tryz.f6.params.toList args.toList ds p:=hA0
 have hA1:=hA
 rw[Tryz.params6] at hA hval
 clear hA0
 obtain ⟨v0,vs0,d0,ds0,p0,q0,hargs0,rfl,rfl,⟨fu0,h0⟩,r0⟩:=trodAll_cons hA
 obtain ⟨rfl,rfl,rfl⟩:=trodAll_nil r0
 obtain rfl:args=#[v0]:=by cases args;simp_all
 obtain ⟨l0,s0,e0⟩:=aiN acK fu0 26 _ _ (by decide) h0
 obtain ⟨a0,S0⟩:=ao4 (hval 0 _ v0 rfl rfl) s0 e0
 simp only[ao9] at hW' hA1
 refine (aok am4 a0 trivial W _ (amE (vs:=[v0]) (ai S0 trivial))).mono fun e W' ⟨he,hg⟩=>?_
 subst he
 exact ⟨_,rfl,apj acK Tryz.underlying4 (by kernel_rfl) hW' rfl hA1 (by rw[Tryz.params6];decide) rfl hg⟩
theorem laid_met (os:Os):laidMet Tryz.prog Rows.compileBeginsRow.laid ((adb os).forCall (fun _ _=>0) ⟨#[],#[.agg #[.int .i64 0,.slice none 0 0,.slice none 0 0,.slice none 0 0]],[]⟩).memory:=
 laidMet_of_run' 8 (by kernel_rfl) (by kernel_rfl)
theorem reads (os:Os) {H:Type} (enc:TypeId×Value→H):∃places,DataW.whole enc Tryz.prog ((adb os).forCall (fun _ _=>0) ⟨#[],#[.agg #[.int .i64 0,.slice none 0 0,.slice none 0 0,.slice none 0 0]],[]⟩).memory Tryz.f6.params.toList Rows.compileBeginsSpec.vars false (Array.toList (α:=Value) #[.agg #[.int .i64 0,.slice none 0 0,.slice none 0 0,.slice none 0 0]]) 8=some ([.agg [.lit (.int .i64 0),.nil,.nil,.nil]],[],places):=
 ⟨[],by kernel_rfl⟩
set_option maxRecDepth 100000 in
theorem lifted (os:Os) (started:os.Started) (H:Type) (enc:TypeId×Value→H) (F:Stop.Interp) :
  ReturnsInHanded {} Tryz.checked os 6 .any ((OpenSpec.ofChange Rows.compileBeginsSpec).preRow enc Tryz.prog Tryz.f6 Rows.compileBeginsRow.domain false Rows.compileBeginsRow.laid) (((OpenSpec.ofChange Rows.compileBeginsSpec).at F).post enc Tryz.prog Tryz.f6 false true false false):=by
 obtain ⟨places,hx⟩:=reads os enc
 refine returnsInHanded_of_row (C:=Tryz.checked) (s:=OpenSpec.ofChange Rows.compileBeginsSpec) asB started (by kernel_rfl) Tryz.func6
  (witness_row_at (enc:=enc) (C:=Tryz.checked) false (adb os) #[.agg #[.int .i64 0,.slice none 0 0,.slice none 0 0,.slice none 0 0]] rfl (by kernel_rfl) (by kernel_rfl) (by kernel_rfl)
   (OpenSpec.preRow_of_cond 8 hx (by kernel_rfl) (fun k hk=>by cases hk) (by kernel_rfl) (laid_met os))) ?_
 intro W base args ds gs before hval hW _ _ _ hL _ _
 exact contract H enc W base args ds gs before hval hW hL
set_option maxHeartbeats 20000000 in
theorem facts:joinedFacts Tryz.pinned.checked.prog 6 Tryz.f6 (OpenSpec.ofChange Rows.compileBeginsSpec).bare Rows.compileBeginsRow=true:=by
 iterate 23 refine awI ?_ ?_
 all_goals as_aux_lemma=>kernel_rfl
theorem named:Tryz.pinned.checked.prog.funcNamed Rows.compileBeginsRow.func=some 6:=by kernel_rfl
theorem inst:Tryz.f6.isInstance Tryz.pinned.checked.prog Rows.compileBeginsRow.origin Rows.compileBeginsRow.targs:=of_decide_eq_true (by kernel_rfl)
theorem wrap:Tryz.f6.isWrapper Tryz.pinned.checked.prog Rows.compileBeginsRow.wrapper Rows.compileBeginsRow.mainSum:=by unfold Func.isWrapper;first | (rw[if_pos (by decide +kernel)];kernel_rfl) | (rw[if_neg (by decide +kernel)];exact ⟨rfl,rfl⟩)
theorem said:Rows.CompileBeginsSaid:=
 OpenClaim.holds_of_cond 6 Tryz.f6 rfl rfl rfl rfl rfl rfl rfl ⟨rfl,rfl,rfl,rfl,rfl⟩ rfl rfl rfl rfl rfl named Tryz.func6 facts inst wrap
  (fun os started H enc _ F=>by rw[OpenClaim.pre_eq_preRow];exact lifted os started H enc F)
theorem plain (f:FuncId) (fn:Func) (hf:Tryz.pinned.checked.prog.funcNamed "pneumatic/pneumaticlaw36.CompileBegins"=some f) (hfn:Tryz.pinned.checked.prog.funcs[f]?=some fn) :
  false=Tryz.pinned.checked.prog.looks []∧∀(j:Nat) t,fn.params[j]?=some t→Tryz.pinned.checked.prog.wantsStandIn t=false:=by
 obtain rfl:f=6:=Option.some.inj ((show Tryz.prog.funcNamed "pneumatic/pneumaticlaw36.CompileBegins"=some 6 by kernel_rfl).symm.trans hf) |>.symm
 obtain rfl:fn=Tryz.f6:=(Option.some.inj (Tryz.func6.symm.trans hfn)).symm
 refine ⟨by kernel_rfl,fun j t ht=>?_⟩
 rw[Tryz.params6] at ht
 have hm:∀t∈#[26],Tryz.prog.wantsStandIn t=false:=by decide +kernel
 exact hm t (Array.mem_of_getElem? ht)
theorem card:Rows.CompileBeginsCardSaid:=
 Claim7.holds_tied_plain_at .later [] _ _ _ _ said (fun _ h=>by cases h) (by kernel_rfl) (fun _ h=>by cases h) compileBegins_row_tie rfl ⟨rfl,rfl⟩ (by kernel_rfl) rfl plain (by kernel_rfl)
end Go.Proofs.YtagbjlbohahcaaaGreatDoor.compileBegins
