/- CompileBuilds, part 6 of its proof: declarations that the last part uses. -/
import Derived.Test.YtagbjlbohahcaaaGreatDoorB5
set_option maxHeartbeats 1000000
set_option maxRecDepth 4000
set_option linter.unusedSimpArgs false
set_option linter.unusedVariables false
set_option linter.unusedSectionVars false
namespace Go.Sx.Pe
open Go Go.Proofs Go.Sx.Pn
set_option maxHeartbeats 8000000 in
theorem abq:rX Tryz.prog 95 { A:=aA,fix:=1,args:=fun _=>[.own 0 0],objs:=fun c=>[aqW c iT iT iT iT],pre:=kL,res:=fun _=>.tup [],objs':=fun c=>[aqW c iT (.row 1) (.row 2) (.row 3),isRow (dL c c.sts.length),isRow (cZ c c.sts.length),isRow (nW c c.trs.length)] }:=by
 refine vG Tryz.func95 ?_
 rintro c hpre
 have hc:kL c:=hpre
 obtain ⟨⟨ha1,ha6⟩,hi16,hs24,ht32⟩:=dY hc
 have hw0:=ao2 hc
 have hb:aS c=2*c.act+c.ins.length:=rfl
 refine fR (c.sts.length) (fun k=>[(18,.s (iA k))]) (fun k=>[⟨0,106,aqB c (isW (dL c k)) (.s iT) (.s iT)⟩,⟨1,3,[.s (iA (aS c+k))]⟩]) (fun k=>True) ?_ ?_ ?_ ?_
 ·exact (ai (ai (fun _=>rfl) (iE (by omega))) rfl)
 ·exact (ai (ai (ai (ai nof rfl) rfl) (ai (ai (ai nof rfl) rfl) (ai (ai (ai nof rfl) rfl) (ai (ai (ai nof (ai rfl (fun _ _=>rfl))) rfl) (ai (ai (ai nof (ai rfl (fun _ _=>rfl))) rfl) (ai (ai (ai nof (ai rfl (fun _ _=>rfl))) rfl) (ai rfl (ai (ai (ai nof rfl) rfl) (ai (ai nof rfl) rfl))))))))) (ai (ai (ai nof (iE (by omega))) rfl) trivial))
 ·trivial
 intro (k:Nat) ⟨hk,_⟩
 have hl:=nN c k
 refine bL (k<c.sts.length) (fun g=>?_) fun g=>?_
 ·refine dR (.one 0 (.one 1 (.one 2 (.one 3 (.one 5 (.alt 4 (.wr 6 (.one 7 (.one 8 (.one 9 (.one 10 (.one 11 .done)))))) (.altw 6 (.one 4 (.one 7 (.one 8 (.one 9 (.one 10 (.one 11 .done)))))) .stop))))))) ?_
  refine ai ?_ (ai ?_ trivial)
  ·refine ei _ (ai (xX) (ei (aS c+k) (ei [1] (ai (ai rfl (ai rfl (ai rfl (ai rfl (ai nof (ai nof (Or.inl rfl))))))) (ai (by exact (ai rfl rfl)) (ai (by exact (ai rfl rfl)) (ai (⟨by show 0≤aS c+(k:Int);omega,by show aS c+(k:Int)≤1000000000;omega⟩) ?_)))))))
   refine ai (mxL (n:=(dL c k).length+1) (by omega) (by decide)) (ai (fJ 1 rfl) ?_)
   refine nX (k) (ai (ai (fun _=>rfl) (aH (by omega))) rfl) (ai (ai (ai (ai nof rfl) rfl) (ai (ai (ai nof rfl) rfl) (ai (ai (ai nof rfl) rfl) (ai (ai (ai nof (ai rfl (fun _ _=>rfl))) rfl) (ai (ai (ai nof (ai rfl (fun _ _=>rfl))) rfl) (ai (ai (ai nof (ai rfl (fun _ _=>rfl))) rfl) (ai (ai rfl (ai rfl (ai ?_ ?_))) (ai (ai (ai nof rfl) rfl) (ai (ai nof rfl) rfl))))))))) (ai (ai (ai nof (iE (by simp only[zz,reduceCtorEq];omega))) rfl) trivial)) trivial
   ·rw[tK,aao];rfl
   ·rw[tK];exact dK _ _
  ·refine ei _ (ai (xX) (ei (aS c+k) (ei [1] (ai (ai rfl (ai rfl (ai rfl (ai rfl (ai nof (ai nof (Or.inl rfl))))))) (ai (by exact (ai rfl rfl)) (ai (by exact (ai rfl rfl)) (ai (⟨by show 0≤aS c+(k:Int);omega,by show aS c+(k:Int)≤1000000000;omega⟩) ?_)))))))
   refine ai (mxL (n:=(dL c k).length+1) (by omega) (by decide)) (ai (fJ 1 rfl) ?_)
   refine nX (k) (ai (ai (fun _=>rfl) (aH (by omega))) rfl) (ai (ai (ai (ai nof rfl) rfl) (ai (ai (ai nof rfl) rfl) (ai (ai (ai nof rfl) rfl) (ai (ai (ai nof (ai rfl (fun _ _=>rfl))) rfl) (ai (ai (ai nof (ai rfl (fun _ _=>rfl))) rfl) (ai (ai (ai nof (ai rfl (fun _ _=>rfl))) rfl) (ai (ai rfl (ai rfl (ai ?_ ?_))) (ai (ai (ai nof rfl) rfl) (ai (ai nof rfl) rfl))))))))) (ai (ai (ai nof (iE (by simp only[zz,reduceCtorEq];omega))) rfl) trivial)) trivial
   ·rw[tK,aao];rfl
   ·rw[tK];exact dK _ _
 have ek:k=c.sts.length:=by omega
 clear g hl
 refine fR (c.sts.length) (fun j=>[(38,.s (iA j))]) (fun j=>[⟨0,106,aqB c (isW (dL c c.sts.length)) (isW (cZ c j)) (.s iT)⟩,⟨1,3,[.s (iA (aS c+c.sts.length+gT c j))]⟩]) (fun j=>True) ?_ ?_ ?_ ?_
 ·exact (ai (ai (fun _=>rfl) (iE (by omega))) rfl)
 ·refine (ai (ai (ai (ai nof rfl) rfl) (ai (ai (ai nof rfl) rfl) (ai (ai (ai nof rfl) rfl) (ai (ai (ai nof (ai rfl (fun _ _=>rfl))) rfl) (ai (ai (ai nof (ai rfl (fun _ _=>rfl))) rfl) (ai (ai (ai nof (ai rfl (fun _ _=>rfl))) rfl) (ai (ai rfl (ai rfl (ai ?_ ?_))) (ai rfl (ai (ai nof rfl) rfl))))))))) (ai (ai (ai nof ?_) rfl) trivial))
  ·rw[ek]
  ·rw[ek];exact fun _ _=>rfl
  ·show aS c+(k:Int)=aS c+c.sts.length+((0:Nat):Int)
   omega
 ·trivial
 intro (j:Nat) ⟨hj,_⟩
 have hl:=o7 c j
 have ht:=lD c j
 refine bL (j<c.sts.length) (fun g=>?_) fun g=>?_
 ·refine iX (j) (c.sts.length) ?_
  have hw:=hw0 _ (aay (bB st0 g))
  refine ah (p:=0<(c.sts.getD j st0).wt) (aB Iff.rfl) (fun g2=>?_) (fun g2=>?_)
  ·have e1:cZ c (j+1)=cZ c j++[aS c+c.sts.length+gT c j]:=by rw[cZ];unfold tZ;rw[if_neg (by omega)]
   have e2:gT c (j+1)=gT c j+1:=by rw[gT,if_pos g2]
   refine dR (.one 0 (.one 1 (.one 2 (.one 3 (.one 5 (.alt 4 (.wr 6 (.one 7 (.one 8 (.one 9 (.one 10 (.one 11 .done)))))) (.altw 6 (.one 4 (.one 7 (.one 8 (.one 9 (.one 10 (.one 11 .done)))))) .stop))))))) ?_
   refine ai ?_ (ai ?_ trivial)
   ·refine ei _ (ai (xX) (ei (aS c+c.sts.length+gT c j) (ei [1] (ai (ai rfl (ai rfl (ai rfl (ai rfl (ai nof (ai nof (Or.inl rfl))))))) (ai (by exact (ai rfl rfl)) (ai (by exact (ai rfl rfl)) (ai (⟨by show 0≤aS c+(c.sts.length:Int)+(gT c j:Int);omega,by show aS c+(c.sts.length:Int)+(gT c j:Int)≤1000000000;omega⟩) ?_)))))))
    refine ai (mxL (n:=(cZ c j).length+1) (by omega) (by decide)) (ai (fJ 1 rfl) ?_)
    refine nX (j) (ai (ai (fun _=>rfl) (aH (by omega))) rfl) (ai (ai (ai (ai nof rfl) rfl) (ai (ai (ai nof rfl) rfl) (ai (ai (ai nof rfl) rfl) (ai (ai (ai nof (ai rfl (fun _ _=>rfl))) rfl) (ai (ai (ai nof (ai rfl (fun _ _=>rfl))) rfl) (ai (ai (ai nof (ai rfl (fun _ _=>rfl))) rfl) (ai (ai rfl (ai rfl (ai rfl (fun _ _=>rfl)))) (ai (ai rfl (ai rfl (ai ?_ ?_))) (ai (ai nof rfl) rfl))))))))) (ai (ai (ai nof (iE (by simp only[zz,reduceCtorEq];omega))) rfl) trivial)) trivial
    ·rw[e1,aao];rfl
    ·rw[e1];exact dK _ _
   ·refine ei _ (ai (xX) (ei (aS c+c.sts.length+gT c j) (ei [1] (ai (ai rfl (ai rfl (ai rfl (ai rfl (ai nof (ai nof (Or.inl rfl))))))) (ai (by exact (ai rfl rfl)) (ai (by exact (ai rfl rfl)) (ai (⟨by show 0≤aS c+(c.sts.length:Int)+(gT c j:Int);omega,by show aS c+(c.sts.length:Int)+(gT c j:Int)≤1000000000;omega⟩) ?_)))))))
    refine ai (mxL (n:=(cZ c j).length+1) (by omega) (by decide)) (ai (fJ 1 rfl) ?_)
    refine nX (j) (ai (ai (fun _=>rfl) (aH (by omega))) rfl) (ai (ai (ai (ai nof rfl) rfl) (ai (ai (ai nof rfl) rfl) (ai (ai (ai nof rfl) rfl) (ai (ai (ai nof (ai rfl (fun _ _=>rfl))) rfl) (ai (ai (ai nof (ai rfl (fun _ _=>rfl))) rfl) (ai (ai (ai nof (ai rfl (fun _ _=>rfl))) rfl) (ai (ai rfl (ai rfl (ai rfl (fun _ _=>rfl)))) (ai (ai rfl (ai rfl (ai ?_ ?_))) (ai (ai nof rfl) rfl))))))))) (ai (ai (ai nof (iE (by simp only[zz,reduceCtorEq];omega))) rfl) trivial)) trivial
    ·rw[e1,aao];rfl
    ·rw[e1];exact dK _ _
  ·have e1:cZ c (j+1)=cZ c j++[-1099511627776]:=by rw[cZ];unfold tZ;rw[if_pos (by omega)]
   have e2:gT c (j+1)=gT c j:=by rw[gT,if_neg g2,awL]
   refine ai (mxL (n:=(cZ c j).length+1) (by omega) (by decide)) (ai (fJ 1 rfl) ?_)
   refine nX (j) (ai (ai (fun _=>rfl) (aH (by omega))) rfl) (ai (ai (ai (ai nof rfl) rfl) (ai (ai (ai nof rfl) rfl) (ai (ai (ai nof rfl) rfl) (ai (ai (ai nof (ai rfl (fun _ _=>rfl))) rfl) (ai (ai (ai nof (ai rfl (fun _ _=>rfl))) rfl) (ai (ai (ai nof (ai rfl (fun _ _=>rfl))) rfl) (ai (ai rfl (ai rfl (ai rfl (fun _ _=>rfl)))) (ai (ai rfl (ai rfl (ai ?_ ?_))) (ai (ai nof rfl) rfl))))))))) (ai (ai (ai nof (iE (by omega))) rfl) trivial)) trivial
   ·rw[e1,aao];rfl
   ·rw[e1];exact dK _ _
 have ej:j=c.sts.length:=by omega
 clear g hl ht
 have hgn:∀q:Nat,lJ c q=aS c+c.sts.length+gT c c.sts.length+q:=fun q=>by unfold lJ;omega
 have htm:=lD c c.sts.length
 refine fR (c.trs.length) (fun q=>[(72,.s (iA q))]) (fun q=>[⟨0,106,aqB c (isW (dL c c.sts.length)) (isW (cZ c c.sts.length)) (isW (nW c q))⟩,⟨1,3,[.s (iA (lJ c q))]⟩]) (fun q=>True) ?_ ?_ ?_ ?_
 ·exact (ai (ai (fun _=>rfl) (iE (by omega))) rfl)
 ·refine (ai (ai (ai (ai nof rfl) rfl) (ai (ai (ai nof rfl) rfl) (ai (ai (ai nof rfl) rfl) (ai (ai (ai nof (ai rfl (fun _ _=>rfl))) rfl) (ai (ai (ai nof (ai rfl (fun _ _=>rfl))) rfl) (ai (ai (ai nof (ai rfl (fun _ _=>rfl))) rfl) (ai (ai rfl (ai rfl (ai rfl (fun _ _=>rfl)))) (ai (ai rfl (ai rfl (ai ?_ ?_))) rfl)))))))) (ai (ai (ai nof ?_) rfl) trivial))
  ·rw[ej]
  ·rw[ej];exact fun _ _=>rfl
  ·rw[hgn,ej];show _=_+((0:Nat):Int);omega
 ·trivial
 intro (q:Nat) ⟨hq,_⟩
 have hl:=sM c q
 refine bL (q<c.trs.length) (fun g=>?_) fun g=>?_
 ·refine dR (.one 0 (.one 1 (.one 2 (.one 3 (.one 5 (.alt 4 (.wr 6 (.one 7 (.one 8 (.one 9 (.one 10 (.one 11 .done)))))) (.altw 6 (.one 4 (.one 7 (.one 8 (.one 9 (.one 10 (.one 11 .done)))))) .stop))))))) ?_
  refine ai ?_ (ai ?_ trivial)
  ·refine ei _ (ai (xX) (ei (lJ c q) (ei [1] (ai (ai rfl (ai rfl (ai rfl (ai rfl (ai nof (ai nof (Or.inl rfl))))))) (ai (by exact (ai rfl rfl)) (ai (by exact (ai rfl rfl)) (ai (⟨by show 0≤lJ c q;rw[hgn];omega,by show lJ c q≤1000000000;rw[hgn];omega⟩) ?_)))))))
   refine ai (mxL (n:=(nW c q).length+1) (by omega) (by decide)) (ai (fJ 1 rfl) ?_)
   refine nX (q) (ai (ai (fun _=>rfl) (aH (by omega))) rfl) (ai (ai (ai (ai nof rfl) rfl) (ai (ai (ai nof rfl) rfl) (ai (ai (ai nof rfl) rfl) (ai (ai (ai nof (ai rfl (fun _ _=>rfl))) rfl) (ai (ai (ai nof (ai rfl (fun _ _=>rfl))) rfl) (ai (ai (ai nof (ai rfl (fun _ _=>rfl))) rfl) (ai (ai rfl (ai rfl (ai rfl (fun _ _=>rfl)))) (ai (ai rfl (ai rfl (ai rfl (fun _ _=>rfl)))) (ai rfl (ai rfl (ai ?_ ?_))))))))))) (ai (ai (ai nof ?_) rfl) trivial)) trivial
   ·rw[aap,aao];rfl
   ·rw[aap];exact dK _ _
   ·have h1:=hgn q
    have h2:=hgn (q+1)
    show lJ c q+1=lJ c (q+1)
    omega
  ·refine ei _ (ai (xX) (ei (lJ c q) (ei [1] (ai (ai rfl (ai rfl (ai rfl (ai rfl (ai nof (ai nof (Or.inl rfl))))))) (ai (by exact (ai rfl rfl)) (ai (by exact (ai rfl rfl)) (ai (⟨by show 0≤lJ c q;rw[hgn];omega,by show lJ c q≤1000000000;rw[hgn];omega⟩) ?_)))))))
   refine ai (mxL (n:=(nW c q).length+1) (by omega) (by decide)) (ai (fJ 1 rfl) ?_)
   refine nX (q) (ai (ai (fun _=>rfl) (aH (by omega))) rfl) (ai (ai (ai (ai nof rfl) rfl) (ai (ai (ai nof rfl) rfl) (ai (ai (ai nof rfl) rfl) (ai (ai (ai nof (ai rfl (fun _ _=>rfl))) rfl) (ai (ai (ai nof (ai rfl (fun _ _=>rfl))) rfl) (ai (ai (ai nof (ai rfl (fun _ _=>rfl))) rfl) (ai (ai rfl (ai rfl (ai rfl (fun _ _=>rfl)))) (ai (ai rfl (ai rfl (ai rfl (fun _ _=>rfl)))) (ai rfl (ai rfl (ai ?_ ?_))))))))))) (ai (ai (ai nof ?_) rfl) trivial)) trivial
   ·rw[aap,aao];rfl
   ·rw[aap];exact dK _ _
   ·have h1:=hgn q
    have h2:=hgn (q+1)
    show lJ c q+1=lJ c (q+1)
    omega
 have eq:q=c.trs.length:=by omega
 refine ei [0,5,6,7] (ai (ai rfl (ai rfl rfl)) (ai trivial ?_))
 refine (ai (ai rfl (ai rfl (ai rfl (ai rfl (ai (ai rfl (fun _ _=>rfl)) (ai (ai rfl (fun _ _=>rfl)) (ai (ai rfl (fun _ _=>rfl)) (ai rfl (ai rfl rfl))))))))) (ai (ai rfl (ai rfl (ai rfl (fun _ _=>rfl)))) (ai (ai rfl (ai rfl (ai rfl (fun _ _=>rfl)))) (ai rfl (ai rfl (ai ?_ ?_))))))
 all_goals rw[eq]
 all_goals exact fun _ _=>rfl
structure amy where
 c:aA
 n:Nat
 f:Nat→List PV
 lt:List UInt8
 k:Nat
 nm:PV
 kd:PV
 o1:PV
 o2:PV
 o3:PV
 f1:PV
 f2:PV
 f3:PV
 dl:PV
 ini:PV
def amy.r (a:amy) (nm:PV):List PV:=[nm,a.kd,a.o1,a.o2,a.o3,a.f1,a.f2,a.f3,a.dl,a.ini]
def asn (a:amy):Prop:=a.n≤1000∧a.k<100∧a.lt.length≤10
def awn:xH:={ A:=amy,fix:=1,args:=fun a=>[.own 0 0,sA a.lt,iA a.k,.p false (.agg (a.r a.nm))],objs:=fun a=>[anE a.c (.row 1),.row 92 10 a.n a.f],pre:=asn,res:=fun _=>.any,objs':=fun a=>[anE a.c (.row 1),.row 92 10 (a.n+1) (bI a.n a.f (aU 10 (a.r (sP (a.lt++dec a.k)))))] }
theorem pR:rX Tryz.prog 155 awn:=by
 refine vG Tryz.func155 ?_
 rintro ⟨c,n,f,lt,k,nm,kd,o1,o2,o3,f1,f2,f3,dl,ini⟩ hpre
 obtain ⟨hn,hk,hlt⟩:=hpre
 have hn:n≤1000:=hn
 have hk:k<100:=hk
 have hlt:lt.length≤10:=hlt
 refine cK (aqk) (k) (by exact rfl) (hk) ?_
 have hd:=acP k (by omega)
 refine ai (by show ((((strOf lt).size+(strOf (dec k)).size:Nat)):Int)≤9223372036854775807;rw[bY,bY];omega) ?_
 refine dR (.seq [0,1,2,3,4,5,6,7,8,9,10]) ?_
 refine ai (mxL (n:=n+1) (by omega) (by decide)) (ai (lt1 rfl) ?_)
 refine dR (.seq [0,1,2,3,4,5,6,7,8,9,10,11]) ?_
 refine ei [0,4] (ai (ai rfl (ai rfl rfl)) (ai trivial ?_))
 exact (ai (ai rfl (ai rfl (ai rfl (ai rfl (ai (ai rfl (fun _ _=>rfl)) (ai (ai rfl (fun _ _=>rfl)) (ai (ai rfl (fun _ _=>rfl)) (ai (ai rfl (fun _ _=>rfl)) (ai (ai rfl (fun _ _=>rfl)) (ai rfl (fun _ _=>rfl))))))))))) (ai rfl (ai rfl (ai rfl (fun _ _=>rfl)))))
def avu (n:Nat):Spec:=bQ (fun x:Ex=>[iV x,.fn 280 []]) (fun x=>x.size≤1000000∧x.size≤n) (fun x=>ql x)
def awm (n:Nat):Spec:=bQ (fun x:Ex=>[iV x,.fn 280 []]) (fun x=>x.size≤1000000∧x.size≤n) (fun x=>.agg [iP x.op,iP x.idx,.seq x.args.length (uW x.args)])
theorem aqZ (n:Nat) (ih:av Tryz.prog 278 (avu n)):av Tryz.prog 278 (awm (n+1)):=by
 refine vI [280] Tryz.func278 ?_
 rintro (x:Ex) hpre
 obtain ⟨hs,hn⟩:=hpre
 have hs:x.size≤1000000:=hs
 have hn:x.size≤n+1:=hn
 have hsz:=x.size_eq
 have hal:=oO x.args
 refine fR (x.args.length) (fun k=>[(16,.s (iA k))]) (fun k=>[⟨2,90,[.s (iA x.op),.s (iA x.idx),exU (x.args.take k)]⟩]) (fun k=>True) ?_ ?_ ?_ ?_
 ·exact (ai (ai (fun _=>rfl) (iE (by omega))) rfl)
 ·exact (ai (ai (ai (ai nof rfl) rfl) (ai (ai (ai nof rfl) rfl) rfl)) trivial)
 ·trivial
 intro (k:Nat) ⟨hk,_⟩
 have hl:(x.args.take k).length=k:=by rw[arM];omega
 refine bL (k<x.args.length) (fun h2=>?_) fun h2=>?_
 ·refine iX (k) (x.args.length) ?_
  refine dR (.seq [0,1,2,3,4,5,6,7,8]) ?_
  have hm:=aay (bB bD h2)
  have hms:=iQ hm
  refine cK (ih) (x.args.getD k bD) (by exact (ai (ai (iE (by simp only[zz,reduceCtorEq])) (ai (iE (by simp only[zz,reduceCtorEq])) (ai rfl (uX _)))) (ai rfl trivial))) (⟨by show (x.args.getD k bD).size≤1000000;omega,by show (x.args.getD k bD).size≤n;omega⟩) ?_
  have e:x.args.take (k+1)=x.args.take k++[x.args.getD k bD]:=aO bD h2
  refine ai (mxL (n:=(x.args.take k).length+1) (by omega) (by decide)) (ai (lt1 rfl) ?_)
  refine nX (k) (ai (ai (fun _=>rfl) (aH (by omega))) rfl) (ai (ai (ai (ai nof rfl) rfl) (ai (ai (ai nof rfl) rfl) (ai rfl (ai rfl (ai ?_ ?_))))) trivial) trivial
  ·rw[e,aao];rfl
  ·rw[e];exact gP rfl (fun _ _=>rfl) (.of rfl)
 ·have et:x.args.take k=x.args:=auV (by omega)
  refine qo mixed iC Tryz.func280 rfl rfl ?_
  refine ai rfl ?_
  refine ai (ai (fun h=>absurd (show false=true from h) (by decide)) ?_) trivial
  refine (ai rfl (ai rfl (ai ?_ ?_)))
  all_goals rw[et]
  all_goals exact fun _ _=>rfl
theorem arT:∀n,av Tryz.prog 278 (avu n)
 | 0=>⟨⟨_,Tryz.func278,rfl,rfl⟩,fun a hp=>absurd hp.2 (by have:=size_pos a;show ¬a.size≤0;omega)⟩
 | n+1=>gW (aqZ n (arT n)) fun x _=>abE rfl
theorem avw:av Tryz.prog 278 (bQ (fun x:Ex=>[iV x,.fn 280 []]) (fun x=>x.size≤1000000) (fun x=>ql x)):=lV (fun x=>x.size) arT
def at5 (l:List Ex):Ob:=.cells 88 [.p false (aeU l)]
def anW (a:aaD):Prop:=adf a∧∀y∈a.2,y.size≤1000000
def aqO (res:aaD→PV) (n:Nat):Spec:={ A:=aaD,args:=fun a=>[iV a.1,.fn 279 [.own 0 0]],objs:=fun a=>[at5 a.2],pre:=fun a=>anW a∧a.1.size≤n,res:=res,objs':=fun _=>[],fresh:=false,ro:=1 }
theorem aq2 (n:Nat) (ih:av Tryz.prog 278 (aqO (fun a=>ql (dz a.2 a.1)) n)):av Tryz.prog 278 (aqO rF (n+1)):=by
 refine vI [279] Tryz.func278 ?_
 rintro ⟨x,l⟩ hpre
 obtain ⟨⟨⟨hg,hs⟩,hy⟩,hn⟩:=hpre
 have hg:jV l.length x:=hg
 have hs:x.size≤1000000:=hs
 have hn:x.size≤n+1:=hn
 have hsz:=x.size_eq
 have hal:=oO x.args
 obtain ⟨hn0,hga⟩:=(qH _ _).1 hg
 obtain ⟨_,_,hx1,hx2⟩:=uP hn0
 refine fR (x.args.length) (fun k=>[(16,.s (iA k))]) (fun k=>[⟨3,90,[.s (iA x.op),.s (iA x.idx),exU ((x.args.take k).map (dz l))]⟩]) (fun k=>True) ?_ ?_ ?_ ?_
 ·exact (ai (ai (fun _=>rfl) (iE (by omega))) rfl)
 ·exact (ai (ai (ai (ai nof rfl) rfl) (ai (ai (ai nof rfl) rfl) rfl)) trivial)
 ·trivial
 intro (k:Nat) ⟨hk,_⟩
 have hl:((x.args.take k).map (dz l)).length=k:=by rw[aeu,arM];omega
 refine ah (p:=k<x.args.length) (aB (by dsimp only;omega)) (fun h2=>?_) (fun h2=>?_)
 ·refine iX (k) (x.args.length) ?_
  refine dR (.seq [0,1,2,3,4,5,6,7,8]) ?_
  have hm:=aay (bB bD h2)
  have hms:=iQ hm
  refine ei _ (ai (ih) (ei ((x.args.getD k bD,l)) (ei [0] (ai (a4 (ai (fun _=>Or.inl rfl) (ai nof (Or.inl rfl)))) (ai (by exact (ai (ai (iE (by simp only[zz,reduceCtorEq])) (ai (iE (by simp only[zz,reduceCtorEq])) (ai rfl (uX _)))) (ai rfl (ai rfl rfl)))) (ai (by exact (ai rfl (ai rfl (fun _ _=>rfl)))) (ai (⟨⟨⟨hga _ hm,by show (x.args.getD k bD).size≤1000000;omega⟩,hy⟩,by show (x.args.getD k bD).size≤n;omega⟩) ?_)))))))
  have e:(x.args.take (k+1)).map (dz l)=(x.args.take k).map (dz l)++[dz l (x.args.getD k bD)]:=by rw[aO bD h2,anN];rfl
  refine ai (mxL (n:=((x.args.take k).map (dz l)).length+1) (by omega) (by decide)) (ai (lt1 rfl) ?_)
  refine nX (k) (ai (ai (fun _=>rfl) (aH (by omega))) rfl) (ai (ai (ai (ai nof rfl) rfl) (ai (ai (ai nof rfl) rfl) (ai rfl (ai rfl (ai ?_ ?_))))) trivial) trivial
  ·rw[e,aao];rfl
  ·rw[e];exact gP rfl (fun _ _=>rfl) (.of rfl)
 ·have et:x.args.take k=x.args:=auV (by omega)
  refine qo mixed iC Tryz.func279 rfl rfl ?_
  refine ai rfl ?_
  refine bE (x.op=1) (fun h1=>?_) fun h1=>?_
  ·have hx3:x.idx<l.length:=by
    rw[h1] at hx2
    unfold uK at hx2
    rw[if_neg (by decide),if_pos rfl] at hx2;omega
   have hxi:x.idx.toNat<l.length:=by omega
   refine ai (ai hx1 hx3) ?_
   refine ai rfl ?_
   refine cK (avw) (l.getD x.idx.toNat bD) (by exact (ai (ai rfl (ai rfl (ai rfl (uX _)))) (ai rfl trivial))) (hy _ (aay (bB bD hxi))) ?_
   refine ai (ai (fun h=>absurd (show false=true from h) (by decide)) ?_) trivial
   show kU _ (rF (x,l))
   rw[rF,if_pos h1]
   exact (ai rfl (ai rfl (ai rfl (fun _ _=>rfl))))
  ·refine ai (ai (fun h=>absurd (show false=true from h) (by decide)) ?_) trivial
   show kU _ (rF (x,l))
   rw[rF,if_neg h1]
   refine (ai rfl (ai rfl (ai ?_ ?_)))
   ·rw[hl];show k=x.args.length;omega
   ·rw[et];exact fun _ _=>rfl
theorem arR:∀n,av Tryz.prog 278 (aqO (fun a=>ql (dz a.2 a.1)) n)
 | 0=>⟨⟨_,Tryz.func278,rfl,rfl⟩,fun a hp=>absurd hp.2 (by have:=size_pos a.1;show ¬a.1.size≤0;omega)⟩
 | n+1=>gW (aq2 n (arR n)) fun a _=>al0 a
def apA:Spec:={ A:=aaD,args:=fun a=>[iV a.1,.fn 279 [.own 0 0]],objs:=fun a=>[at5 a.2],pre:=anW,res:=fun a=>ql (dz a.2 a.1),objs':=fun _=>[],fresh:=false,ro:=1 }
theorem anU:av Tryz.prog 278 apA:=lV (S:=apA) (fun a=>a.1.size) arR
structure SbA where
 x:Ex
 l:List Ex
 n:Int
def agj (a:SbA):Prop:=bf a.x a.l.length=0∧(∀y∈a.l,bf y a.n=0)∧(dz a.l a.x).size≤1000000
theorem aqc:av Tryz.prog 255 (bQ (fun a:SbA=>[iV a.x,.p false (aeU a.l),iA a.n]) (fun a=>agj a∧eO (dz a.l a.x)=true) (fun a=>.tup [ql (dz a.l a.x),iP 0])):=by
 refine vF Tryz.func255 ?_
 rintro (a:SbA) hpre
 obtain ⟨⟨h1,h2,h3⟩,h4⟩:=hpre
 have h1:bf a.x a.l.length=0:=h1
 have h2:∀y∈a.l,bf y a.n=0:=h2
 have h3:(dz a.l a.x).size≤1000000:=h3
 have h4:eO (dz a.l a.x)=true:=h4
 obtain ⟨⟨_,hl2⟩,⟨hxs,_⟩,hxg⟩:=eG.1 h1
 have hll:a.l.length≤256:=by omega
 have hy:∀y∈a.l,y.size≤1000000:=fun y hy=>by
  obtain ⟨_,⟨q,_⟩,_⟩:=eG.1 (h2 y hy)
  omega
 refine cK (qz) ((a.x,(a.l.length:Int))) (by exact (ai (ai rfl (ai rfl (ai rfl (fun _ _=>rfl)))) rfl)) ((by show a.x.size≤1000000;omega)) ?_
 refine aW (p:=bf a.x a.l.length=0) (bR (by dsimp only;omega)) (fun g1=>?_) (fun g1=>?_)
 ·exact absurd h1 g1
 refine fR (a.l.length) (fun k=>[(26,.s (iA k))]) (fun k=>[]) (fun k=>True) (by exact (ai (ai (fun _=>rfl) (iE (by omega))) rfl)) (by exact trivial) ?_ ?_
 ·trivial
 intro (k:Nat) ⟨hk,_⟩
 refine bL (k<a.l.length) (fun g2=>?_) fun g2=>?_
 ·refine iX (k) (a.l.length) ?_
  have hm:=aay (bB bD g2)
  refine cK (qz) ((a.l.getD k bD,a.n)) (by exact (ai (ai (iE (by simp only[zz,reduceCtorEq])) (ai (iE (by simp only[zz,reduceCtorEq])) (ai rfl (uX _)))) rfl)) (hy _ hm) ?_
  refine aW (p:=bf (a.l.getD k bD) a.n=0) (bR (by dsimp only;omega)) (fun g3=>?_) (fun g3=>?_)
  ·exact absurd (h2 _ hm) g3
  refine nX (k) (ai (ai (fun _=>rfl) (aH (by omega))) rfl) trivial trivial
 refine ei _ (ai (anU) (ei ((a.x,a.l)) (ei [1] (ai (a4 (ai (fun _=>Or.inl rfl) (ai nof (Or.inl rfl)))) (ai (by exact (ai (ai rfl (ai rfl (ai rfl (fun _ _=>rfl)))) (ai rfl (ai rfl rfl)))) (ai (by exact (ai rfl (ai rfl (fun _ _=>rfl)))) (ai (⟨⟨hxg,by show a.x.size≤1000000;omega⟩,hy⟩) ?_)))))))
 have e1:nu (dz a.l a.x)=.tup [iP (dz a.l a.x).size,iP (dz a.l a.x).deep,bP true]:=by unfold nu xG;rw[if_pos (jy.1 h4)]
 refine cK ((uT adV (dz a.l a.x) h3 e1)) (()) (by exact (ai rfl (ai rfl (ai rfl (fun _ _=>rfl))))) (trivial) ?_
 refine ai (ai (fun h=>absurd (show false=true from h) (by decide)) ?_) trivial
 exact (ai (ai rfl (ai rfl (ai rfl (fun _ _=>rfl)))) rfl)
theorem apF:av Tryz.prog 255 (bQ (fun a:SbA=>[iV a.x,.p false (aeU a.l),iA a.n]) (fun a=>agj a∧eO (dz a.l a.x)=false) (fun a=>.tup [.agg [iP 0,iP 0,.val (.slice none 0 0)],iP 5])):=by
 refine vF Tryz.func255 ?_
 rintro (a:SbA) hpre
 obtain ⟨⟨h1,h2,h3⟩,h4⟩:=hpre
 have h1:bf a.x a.l.length=0:=h1
 have h2:∀y∈a.l,bf y a.n=0:=h2
 have h3:(dz a.l a.x).size≤1000000:=h3
 have h4:eO (dz a.l a.x)=false:=h4
 obtain ⟨⟨_,hl2⟩,⟨hxs,_⟩,hxg⟩:=eG.1 h1
 have hll:a.l.length≤256:=by omega
 have hy:∀y∈a.l,y.size≤1000000:=fun y hy=>by
  obtain ⟨_,⟨q,_⟩,_⟩:=eG.1 (h2 y hy)
  omega
 refine cK (qz) ((a.x,(a.l.length:Int))) (by exact (ai (ai rfl (ai rfl (ai rfl (fun _ _=>rfl)))) rfl)) ((by show a.x.size≤1000000;omega)) ?_
 refine aW (p:=bf a.x a.l.length=0) (bR (by dsimp only;omega)) (fun g1=>?_) (fun g1=>?_)
 ·exact absurd h1 g1
 refine fR (a.l.length) (fun k=>[(26,.s (iA k))]) (fun k=>[]) (fun k=>True) (by exact (ai (ai (fun _=>rfl) (iE (by omega))) rfl)) (by exact trivial) ?_ ?_
 ·trivial
 intro (k:Nat) ⟨hk,_⟩
 refine bL (k<a.l.length) (fun g2=>?_) fun g2=>?_
 ·refine iX (k) (a.l.length) ?_
  have hm:=aay (bB bD g2)
  refine cK (qz) ((a.l.getD k bD,a.n)) (by exact (ai (ai (iE (by simp only[zz,reduceCtorEq])) (ai (iE (by simp only[zz,reduceCtorEq])) (ai rfl (uX _)))) rfl)) (hy _ hm) ?_
  refine aW (p:=bf (a.l.getD k bD) a.n=0) (bR (by dsimp only;omega)) (fun g3=>?_) (fun g3=>?_)
  ·exact absurd (h2 _ hm) g3
  refine nX (k) (ai (ai (fun _=>rfl) (aH (by omega))) rfl) trivial trivial
 refine ei _ (ai (anU) (ei ((a.x,a.l)) (ei [1] (ai (a4 (ai (fun _=>Or.inl rfl) (ai nof (Or.inl rfl)))) (ai (by exact (ai (ai rfl (ai rfl (ai rfl (fun _ _=>rfl)))) (ai rfl (ai rfl rfl)))) (ai (by exact (ai rfl (ai rfl (fun _ _=>rfl)))) (ai (⟨⟨hxg,by show a.x.size≤1000000;omega⟩,hy⟩) ?_)))))))
 have h5:¬((dz a.l a.x).size≤256∧(dz a.l a.x).deep≤16):=fun h=>by rw[jy.2 h] at h4;cases h4
 have e1:nu (dz a.l a.x)=.tup [iP 0,iP 0,bP false]:=by unfold nu xG;rw[if_neg h5]
 refine cK ((uT adV (dz a.l a.x) h3 e1)) (()) (by exact (ai rfl (ai rfl (ai rfl (fun _ _=>rfl))))) (trivial) ?_
 refine ai (ai (fun h=>absurd (show false=true from h) (by decide)) ?_) trivial
 exact (ai (ai rfl (ai rfl rfl)) rfl)
theorem asx:av Tryz.prog 204 (bQ (fun t:rD=>[trA t]) (fun _=>True) (fun t=>fE t.to)):=by
 refine vF Tryz.func204 ?_
 rintro (t:rD) hpre
 refine ai (ai (fun h=>absurd (show false=true from h) (by decide)) ?_) trivial
 exact (ai rfl (fun _ _=>rfl))
theorem atG:av Tryz.prog 205 (bQ (fun t:rD=>[trA t]) (fun _=>True) (fun t=>fE t.fr)):=by
 refine vF Tryz.func205 ?_
 rintro (t:rD) hpre
 refine ai (ai (fun h=>absurd (show false=true from h) (by decide)) ?_) trivial
 exact (ai rfl (fun _ _=>rfl))
def avD (c:aA):Ob:=.cells 106 [.any,.any,.any,.any,.any,.p false (ada c.trs),.any,.any,aki c]
def afg (a:aA×Nat):Prop:=gN a.1∧a.1.trs.length≤1000000
theorem ahm:av Tryz.prog 203 { A:=aA×Nat,args:=fun a=>[.own 0 0,iA a.2,.fn 204 []],objs:=fun a=>[avD a.1],pre:=afg,res:=fun a=>fE (gD a.1 (a.2:Int) false a.1.trs.length),objs':=fun _=>[],fresh:=true,ro:=1 }:=by
 refine vF Tryz.func203 ?_
 rintro ⟨c,s⟩ hpre
 obtain ⟨ho,ht⟩:=hpre
 have ht:c.trs.length≤1000000:=ht
 refine fR (c.trs.length) (fun k=>[(16,.s (iA k)),(7,isR (gD c s false k))]) (fun k=>[]) (fun k=>True) ?_ ?_ ?_ ?_
 ·exact (ai (ai (ai (fun _=>rfl) (iE (by omega))) rfl) rfl)
 ·exact trivial
 ·trivial
 intro (k:Nat) ⟨hk,_⟩
 have hl:=lq c s false k
 have hgl:=sM c c.trs.length
 refine ah (p:=k<c.trs.length) (aB (by dsimp only;omega)) (fun g1=>?_) (fun g1=>?_)
 ·refine iX (k) (c.trs.length) ?_
  have hto:=mP ho g1
  refine cK (asx) (c.trs.getD k aY) (by exact (ai (ai rfl (fun _ _=>rfl)) (ai (ai rfl (fun _ _=>rfl)) (ai (iE (by simp only[zz,reduceCtorEq])) (ai (iE (by simp only[zz,reduceCtorEq])) (ai rfl (fun _ _=>rfl))))))) (trivial) ?_
  refine cK (ag9) (((c.trs.getD k aY).to,(s:Int))) (by exact (ai (ai rfl (fun _ _=>rfl)) rfl)) (hto.2.1) ?_
  refine aC (b:=gM (c.trs.getD k aY).to s) rfl (fun g3=>?_) (fun g3=>?_)
  ·refine iX (k) ((nW c c.trs.length).length) ?_
   have e0:=aeQ c (n:=c.trs.length) g1
   have e1:gD c s false (k+1)=gD c s false k++[(nW c c.trs.length).getD k 0]:=by rw[gD,if_pos (show gM (u7 c false k) s=true from g3),e0]
   refine ai (mxL (n:=(gD c s false k).length+1) (by omega) (by decide)) (ai (fJ 1 rfl) ?_)
   refine nX (k) (ai (ai (ai (fun _=>rfl) (aH (by omega))) rfl) (ai rfl (ai rfl (ai ?_ ?_)))) trivial trivial
   ·rw[e1,aao];rfl
   ·rw[e1];exact dK _ _
  ·have e1:gD c s false (k+1)=gD c s false k:=by rw[gD,if_neg (show ¬gM (u7 c false k) s=true by rw[show gM (u7 c false k) s=false from g3];decide)]
   refine nX (k) (ai (ai (ai (fun _=>rfl) (aH (by omega))) rfl) (ai rfl (ai rfl (ai ?_ ?_)))) trivial trivial
   ·rw[e1]
   ·rw[e1];exact fun _ _=>rfl
 ·obtain rfl:k=c.trs.length:=by omega
  refine ai (ai (fun _=>(by exact (fun _ _=>rfl))) ?_) trivial
  exact (ai rfl (fun _ _=>rfl))
theorem ah9:av Tryz.prog 203 { A:=aA×Nat,args:=fun a=>[.own 0 0,iA a.2,.fn 205 []],objs:=fun a=>[avD a.1],pre:=afg,res:=fun a=>fE (gD a.1 (a.2:Int) true a.1.trs.length),objs':=fun _=>[],fresh:=true,ro:=1 }:=by
 refine vF Tryz.func203 ?_
 rintro ⟨c,s⟩ hpre
 obtain ⟨ho,ht⟩:=hpre
 have ht:c.trs.length≤1000000:=ht
 refine fR (c.trs.length) (fun k=>[(16,.s (iA k)),(7,isR (gD c s true k))]) (fun k=>[]) (fun k=>True) ?_ ?_ ?_ ?_
 ·exact (ai (ai (ai (fun _=>rfl) (iE (by omega))) rfl) rfl)
 ·exact trivial
 ·trivial
 intro (k:Nat) ⟨hk,_⟩
 have hl:=lq c s true k
 have hgl:=sM c c.trs.length
 refine ah (p:=k<c.trs.length) (aB (by dsimp only;omega)) (fun g1=>?_) (fun g1=>?_)
 ·refine iX (k) (c.trs.length) ?_
  have hto:=mP ho g1
  refine cK (atG) (c.trs.getD k aY) (by exact (ai (ai rfl (fun _ _=>rfl)) (ai (ai rfl (fun _ _=>rfl)) (ai (iE (by simp only[zz,reduceCtorEq])) (ai (iE (by simp only[zz,reduceCtorEq])) (ai rfl (fun _ _=>rfl))))))) (trivial) ?_
  refine cK (ag9) (((c.trs.getD k aY).fr,(s:Int))) (by exact (ai (ai rfl (fun _ _=>rfl)) rfl)) (hto.1) ?_
  refine aC (b:=gM (c.trs.getD k aY).fr s) rfl (fun g3=>?_) (fun g3=>?_)
  ·refine iX (k) ((nW c c.trs.length).length) ?_
   have e0:=aeQ c (n:=c.trs.length) g1
   have e1:gD c s true (k+1)=gD c s true k++[(nW c c.trs.length).getD k 0]:=by rw[gD,if_pos (show gM (u7 c true k) s=true from g3),e0]
   refine ai (mxL (n:=(gD c s true k).length+1) (by omega) (by decide)) (ai (fJ 1 rfl) ?_)
   refine nX (k) (ai (ai (ai (fun _=>rfl) (aH (by omega))) rfl) (ai rfl (ai rfl (ai ?_ ?_)))) trivial trivial
   ·rw[e1,aao];rfl
   ·rw[e1];exact dK _ _
  ·have e1:gD c s true (k+1)=gD c s true k:=by rw[gD,if_neg (show ¬gM (u7 c true k) s=true by rw[show gM (u7 c true k) s=false from g3];decide)]
   refine nX (k) (ai (ai (ai (fun _=>rfl) (aH (by omega))) rfl) (ai rfl (ai rfl (ai ?_ ?_)))) trivial trivial
   ·rw[e1]
   ·rw[e1];exact fun _ _=>rfl
 ·obtain rfl:k=c.trs.length:=by omega
  refine ai (ai (fun _=>(by exact (fun _ _=>rfl))) ?_) trivial
  exact (ai rfl (fun _ _=>rfl))
def aw0 (c:aA):Ob:=.cells 106 [.any,.any,.any,.any,.p false (aaK c.sts),.any,aiX c,.any,.any]
theorem xR:av Tryz.prog 158 { A:=aA×Sk,args:=fun a=>[.own 0 0,skA a.2],objs:=fun a=>[aw0 a.1],pre:=fun a=>gN a.1∧a.1.sts.length≤1000000,res:=fun a=>fE (dO a.1 a.2 a.1.sts.length),objs':=fun _=>[],fresh:=true,ro:=1 }:=by
 refine vF Tryz.func158 ?_
 rintro ⟨c,x⟩ hpre
 obtain ⟨ho,h4⟩:=hpre
 have h4:c.sts.length≤1000000:=h4
 refine fR (c.sts.length) (fun k=>[(14,.s (iA k)),(5,isR (dO c x k))]) (fun k=>[]) (fun k=>True) ?_ ?_ ?_ ?_
 ·exact (ai (ai (ai (fun _=>rfl) (iE (by omega))) rfl) rfl)
 ·exact trivial
 ·trivial
 intro (k:Nat) ⟨hk,_⟩
 have hl:=sQ c x k
 have hgl:=nN c c.sts.length
 refine ah (p:=k<c.sts.length) (aB (by dsimp only;omega)) (fun g1=>?_) (fun g1=>?_)
 ·refine iX (k) (c.sts.length) ?_
  have hlo:=ho.1 _ (aay (bB st0 g1))
  refine cK (atq) (((c.sts.getD k st0).st,x)) (by exact (ai (ai rfl (fun _ _=>rfl)) (ai rfl rfl))) (hlo) ?_
  refine aC (b:=uR (c.sts.getD k st0).st x) rfl (fun g3=>?_) (fun g3=>?_)
  ·refine iX (k) ((dL c c.sts.length).length) ?_
   have e0:=sS c (n:=c.sts.length) g1
   have e1:dO c x (k+1)=dO c x k++[(dL c c.sts.length).getD k 0]:=by rw[dO,if_pos g3,e0]
   refine ai (mxL (n:=(dO c x k).length+1) (by omega) (by decide)) (ai (fJ 1 rfl) ?_)
   refine nX (k) (ai (ai (ai (fun _=>rfl) (aH (by omega))) rfl) (ai rfl (ai rfl (ai ?_ ?_)))) trivial trivial
   ·rw[e1,aao];rfl
   ·rw[e1];exact dK _ _
  ·have e1:dO c x (k+1)=dO c x k:=by rw[dO,if_neg (by rw[g3];decide)]
   refine nX (k) (ai (ai (ai (fun _=>rfl) (aH (by omega))) rfl) (ai rfl (ai rfl (ai ?_ ?_)))) trivial trivial
   ·rw[e1]
   ·rw[e1];exact fun _ _=>rfl
 ·obtain rfl:k=c.sts.length:=by omega
  refine ai (ai (fun _=>(by exact (fun _ _=>rfl))) ?_) trivial
  exact (ai rfl (fun _ _=>rfl))
theorem wz {j N:Int} (h0:0≤j) (h1:j<N):jV N (fG j):=by
 rw[qH]
 refine ⟨?_,fun y hy=>by cases hy⟩
 show aJ (.node 1 j []) N=0
 unfold aJ
 rw[if_neg (by show ¬((1:Int)<0∨(5:Int)≤1);omega),if_neg (by show ¬(0<yT 1∨abD 1<0);decide),if_neg]
 show ¬(j<0∨uK 1 N<j)
 unfold uK
 rw[if_neg (by decide),if_pos rfl];omega
theorem jK (j:Int):(fG j).size=1:=by show (Ex.node 1 j []).size=1;rw[Ex.size,sizes]
theorem aak (j:Int):(fG j).deep=1:=by show (Ex.node 1 j []).deep=1;rw[Ex.deep,gL]
theorem acR (x y:Ex):(uF x y).size=x.size+y.size+1:=by show (Ex.node 3 0 [x,y]).size=_;rw[Ex.size,sizes,sizes,sizes];omega
theorem aoZ (x y:Ex):(uF x y).deep=max x.deep y.deep+1:=by show (Ex.node 3 0 [x,y]).deep=_;rw[Ex.deep,gL,gL,gL];omega
theorem aop {N:Int} {x y:Ex} (hx:jV N x) (hy:jV N y):jV N (uF x y):=by
 rw[qH]
 refine ⟨?_,fun z hz=>?_⟩
 ·show aJ (.node 3 0 [x,y]) N=0
  unfold aJ
  rw[if_neg (by show ¬((3:Int)<0∨(5:Int)≤3);omega),if_neg (by show ¬(2<yT 3∨abD 3<2);decide),if_neg]
  show ¬((0:Int)<0∨uK 3 N<0)
  unfold uK
  rw[if_neg (by decide),if_neg (by decide)];omega
 ·have hz:z∈[x,y]:=hz
  simp only[ah3,List.not_mem_nil,or_false] at hz
  rcases hz with rfl | rfl<;>assumption
def zq (c:aA):Int:=aS c+c.sts.length+c.sts.length+c.trs.length
theorem abW {c:aA} (h:kL c):∀y∈relE c,bf y (zq c)=0∧y.size≤3:=by
 intro y hy
 obtain ⟨⟨ha1,ha6⟩,hi16,hs24,ht32⟩:=dY h
 have hb:aS c=2*c.act+c.ins.length:=rfl
 have hN:zq c=aS c+c.sts.length+c.sts.length+c.trs.length:=rfl
 unfold relE l9 at hy
 rcases acw.1 hy with hy | hy
 ·unfold rG at hy
  obtain ⟨j,hj,rfl⟩:=aum.1 hy
  have hj:=aup.1 hj
  exact ⟨eG.2 ⟨⟨by omega,by omega⟩,⟨by rw[jK];omega,by rw[aak];omega⟩,wz (by omega) (by omega)⟩,by rw[jK];omega⟩
 ·obtain ⟨k,hk,rfl⟩:=aum.1 hy
  have hk:=aup.1 hk
  have ht:gT c k≤k:=lD c k
  have hm:mg c k=aS c+k:=rfl
  unfold abN
  split
  ·exact ⟨eG.2 ⟨⟨by omega,by omega⟩,⟨by rw[jK];omega,by rw[aak];omega⟩,wz (by omega) (by omega)⟩,by rw[jK];omega⟩
  ·rename_i hw
   have hcl:tZ c k=aS c+c.sts.length+gT c k:=if_neg hw
   exact ⟨eG.2 ⟨⟨by omega,by omega⟩,⟨by rw[acR,jK,jK];omega,by rw[aoZ,aak,aak];omega⟩,aop (wz (by omega) (by omega)) (wz (by omega) (by omega))⟩,by rw[acR,jK,jK];omega⟩
theorem apZ:bD.size≤3:=by decide
mutual
theorem adn {l:List Ex} (h:∀y∈l,y.size≤3):∀x:Ex,(dz l x).size≤3*x.size
 | .node o i m=>by
  rw[dz]
  split
  ·have:(l.getD i.toNat bD).size≤3:=by
    by_cases hi:i.toNat<l.length
    ·exact h _ (aay (bB bD hi))
    ·rw[aai,awG (by omega)];exact apZ
   rw[Ex.size];omega
  ·rw[Ex.size,Ex.size]
   have:=afn h m
   omega
theorem afn {l:List Ex} (h:∀y∈l,y.size≤3):∀m:List Ex,sizes (abn l m)≤3*sizes m
 | []=>by rw[abn,sizes];omega
 | x :: m=>by
  have h1:=adn h x
  have h2:=afn h m
  rw[abn,sizes,sizes];omega
end
theorem alK {c:aA} (h:kL c) {i:Nat} (hi:i<c.trs.length):agj ⟨rE c i,relE c,zq c⟩:=by
 obtain ⟨⟨ha1,ha6⟩,hi16,hs24,ht32⟩:=dY h
 obtain ⟨_,_,h3⟩:=rO h.1 hi
 have hl:=yO c c.sts.length
 have hb:aS c=2*c.act+c.ins.length:=rfl
 have hv:kV c=2*c.act+c.ins.length+c.sts.length:=rfl
 have e:(((relE c).length:Nat):Int)=kV c:=by unfold relE;rw[hl];omega
 obtain ⟨_,⟨hs,_⟩,_⟩:=eG.1 h3
 have hs:(rE c i).size≤256:=hs
 have:=adn (fun y hy=>(abW h y hy).2) (rE c i)
 exact ⟨by show bf (rE c i) (((relE c).length:Nat):Int)=0;rw[e];exact h3,fun y hy=>(abW h y hy).1,by show (dz (relE c) (rE c i)).size≤1000000;omega⟩
def aeD (c:aA) (i:Nat):Bool:=eO (dz (relE c) (rE c i))
theorem aoA:av Tryz.prog 255 (bQ (fun a:SbA=>[iV a.x,.p false (.seq a.l.length (uW a.l)),iA a.n]) (fun a=>agj a∧eO (dz a.l a.x)=true) (fun a=>.tup [ql (dz a.l a.x),iP 0])):=
 ajR aqc fun a _=>⟨.inl rfl,.inr ⟨_,_,rfl,rfl,afY _⟩,.inl rfl,trivial⟩
theorem amN:av Tryz.prog 255 (bQ (fun a:SbA=>[iV a.x,.p false (.seq a.l.length (uW a.l)),iA a.n]) (fun a=>agj a∧eO (dz a.l a.x)=false) (fun a=>.tup [.agg [iP 0,iP 0,.val (.slice none 0 0)],iP 5])):=
 ajR apF fun a _=>⟨.inl rfl,.inr ⟨_,_,rfl,rfl,afY _⟩,.inl rfl,trivial⟩
def avn (c:aA):Ob:=.cells 106 [iA (aS c),.any,.any,.any,.p false (aaK c.sts),.any,aiX c,ajl c,aki c]
def acU (b:Bool) (a:aA×Nat):Prop:=ai3 a∧aeD a.1 a.2=b
theorem as6:av Tryz.prog 210 { A:=aA×Nat,args:=fun a=>[.own 0 0,iV (rE a.1 a.2)],objs:=fun a=>[avn a.1],pre:=acU true,res:=fun a=>.tup [ql (dz (relE a.1) (rE a.1 a.2)),iP 0],objs':=fun _=>[],fresh:=false,ro:=1 }:=by
 refine vI [4000058,3000064] Tryz.func210 ?_
 rintro ⟨c,i⟩ hpre
 obtain ⟨⟨hc,hi⟩,hL⟩:=hpre
 have hc:kL c:=hc
 have hi:i<c.trs.length:=hi
 have hL:aeD c i=true:=hL
 have hs:=iZ hc.1
 obtain ⟨⟨ha1,ha6⟩,hi16,hs24,ht32⟩:=dY hc
 have hb:aS c=2*c.act+c.ins.length:=rfl
 have hml:=nN c c.sts.length
 have hcl:=o7 c c.sts.length
 have hgl:=sM c c.trs.length
 refine fR ((aS c).toNat) (fun k=>[(15,.s (iA k)),(6,exU (rG k))]) (fun k=>[]) (fun k=>True) ?_ ?_ ?_ ?_
 ·exact (ai (ai (ai (fun _=>rfl) (iE (by omega))) rfl) rfl)
 ·exact trivial
 ·trivial
 intro (k:Nat) ⟨hk,_⟩
 have hl:=abU k
 refine ah (p:=k<(aS c).toNat) (by exact aB (show ((k:Nat):Int)<aS c↔_ by omega)) (fun g1=>?_) (fun g1=>?_)
 ·refine cK (jD) ((k:Int)) (by exact rfl) (trivial) ?_
  refine ai (mxL (n:=(rG k).length+1) (by omega) (by decide)) (ai (lt1 rfl) ?_)
  refine nX (k) (ai (ai (ai (fun _=>rfl) (aH (by omega))) rfl) (ai rfl (ai rfl (ai ?_ ?_)))) trivial trivial
  ·rw[tq,aao];rfl
  ·rw[tq];exact gP rfl (fun _ _=>rfl) (mO _)
 have e0:l9 c 0=rG k:=by rw[show k=(aS c).toNat by omega];exact ape _
 refine fR (c.sts.length) (fun n=>[(29,.s (iA n)),(6,exU (l9 c n))]) (fun n=>[]) (fun n=>True) ?_ ?_ ?_ ?_
 ·refine (ai (ai (ai (fun _=>rfl) (iE (by omega))) rfl) (ai rfl (ai rfl (ai ?_ ?_))))
  ·rw[e0]
  ·rw[e0];exact fun _ _=>.of rfl
 ·exact trivial
 ·trivial
 intro (n:Nat) ⟨hn,_⟩
 have hl:=yO c n
 refine ah (p:=n<c.sts.length) (by exact aB (show ((n:Nat):Int)<(((dL c c.sts.length).length:Nat):Int)↔_ by omega)) (fun g2=>?_) (fun g2=>?_)
 ·have em:=sS c (n:=c.sts.length) g2
  have hck:=zw c c.sts.length n g2
  refine iX (n) ((dL c c.sts.length).length) ?_
  refine iX (n) ((cZ c c.sts.length).length) ?_
  refine ah (p:=(c.sts.getD n st0).wt=0) (by exact um (by show (cZ c c.sts.length).getD n 0=-1099511627776↔_;rw[hck];exact aav hs)) (fun g3=>?_) (fun g3=>?_)
  ·refine cK (jD) ((dL c c.sts.length).getD n 0) (by exact (iE (by simp only[zz,reduceCtorEq]))) (trivial) ?_
   refine ai (mxL (n:=(l9 c n).length+1) (by omega) (by decide)) (ai (lt1 rfl) ?_)
   refine nX (n) (ai (ai (ai (fun _=>rfl) (aH (by omega))) rfl) (ai rfl (ai rfl (ai ?_ ?_)))) trivial trivial
   ·rw[ku,aao];rfl
   ·rw[ku];exact gP rfl (fun _ _=>rfl) (by rw[abN,if_pos g3];exact (by rw[←em];exact mO _))
  ·refine dR (.seq [0,1,3,4,5,6,7,8,9,2,10,11,12,13,14,15]) ?_
   refine iX (n) ((cZ c c.sts.length).length) ?_
   refine cK (jD) ((dL c c.sts.length).getD n 0) (by exact (iE (by simp only[zz,reduceCtorEq]))) (trivial) ?_
   refine cK (jD) ((cZ c c.sts.length).getD n 0) (by exact (iE (by simp only[zz,reduceCtorEq]))) (trivial) ?_
   refine cK (abb) ((2,aU 3 (qG (o8 ((dL c c.sts.length).getD n 0))++qG (o8 ((cZ c c.sts.length).getD n 0))))) (by exact (ai rfl (fun _ _=>rfl))) (trivial) ?_
   refine ai (mxL (n:=(l9 c n).length+1) (by omega) (by decide)) (ai (lt1 rfl) ?_)
   refine nX (n) (ai (ai (ai (fun _=>rfl) (aH (by omega))) rfl) (ai rfl (ai rfl (ai ?_ ?_)))) trivial trivial
   ·rw[ku,aao];rfl
   ·rw[ku];exact gP rfl (fun _ _=>rfl) (by rw[abN,if_neg g3];exact (by rw[←em,←hck];exact agY _ _))
 have en:n=c.sts.length:=by omega
 have eN:IntKind.i64.wrap (IntKind.i64.wrap (IntKind.i64.wrap (aS c+((dL c c.sts.length).length:Int))+(c.sts.length:Int))+((nW c c.trs.length).length:Int))=zq c:=by
  rw[hml,hgl,dD (n:=aS c+(c.sts.length:Int)) (by omega) (by omega),dD (n:=aS c+(c.sts.length:Int)+(c.sts.length:Int)) (by omega) (by omega),dD (by omega) (by omega)];rfl
 have er:l9 c n=relE c:=by rw[en];rfl
 refine dR (.seq [0,1,2,3,4,5,6,7,8,9,10,11,12,13,14,15,16,17,18,19,20,21,22,23,24,25,26,27,28,29,30]) ?_
 refine ei _ (ai (aoA) (ei (⟨rE c i,l9 c n,zq c⟩) (ei [] (ai (a4 (ai (fun _=>Or.inl rfl) (ai nof (Or.inl rfl)))) (ai ?_ (ai (by exact trivial) (ai (⟨by rw[er];exact alK hc hi,by rw[er];exact hL⟩) ?_)))))))
 ·exact (ai (ai rfl (ai rfl (ai rfl (fun _ _=>rfl)))) (ai (ai rfl (fun _ _=>rfl)) (iE (by simp only[zz,reduceCtorEq];omega))))
 refine ai (ai (fun h=>absurd (show false=true from h) (by decide)) ?_) trivial
 show kU _ (.tup [ql (dz (relE c) (rE c i)),iP 0])
 try rw[←er]
 exact (ai (ai rfl (ai rfl (ai rfl (fun _ _=>rfl)))) rfl)
theorem ap8:av Tryz.prog 210 { A:=aA×Nat,args:=fun a=>[.own 0 0,iV (rE a.1 a.2)],objs:=fun a=>[avn a.1],pre:=acU false,res:=fun a=>.tup [.agg [iP 0,iP 0,.val (.slice none 0 0)],iP 5],objs':=fun _=>[],fresh:=false,ro:=1 }:=by
 refine vI [4000058,3000064] Tryz.func210 ?_
 rintro ⟨c,i⟩ hpre
 obtain ⟨⟨hc,hi⟩,hL⟩:=hpre
 have hc:kL c:=hc
 have hi:i<c.trs.length:=hi
 have hL:aeD c i=false:=hL
 have hs:=iZ hc.1
 obtain ⟨⟨ha1,ha6⟩,hi16,hs24,ht32⟩:=dY hc
 have hb:aS c=2*c.act+c.ins.length:=rfl
 have hml:=nN c c.sts.length
 have hcl:=o7 c c.sts.length
 have hgl:=sM c c.trs.length
 refine fR ((aS c).toNat) (fun k=>[(15,.s (iA k)),(6,exU (rG k))]) (fun k=>[]) (fun k=>True) ?_ ?_ ?_ ?_
 ·exact (ai (ai (ai (fun _=>rfl) (iE (by omega))) rfl) rfl)
 ·exact trivial
 ·trivial
 intro (k:Nat) ⟨hk,_⟩
 have hl:=abU k
 refine ah (p:=k<(aS c).toNat) (by exact aB (show ((k:Nat):Int)<aS c↔_ by omega)) (fun g1=>?_) (fun g1=>?_)
 ·refine cK (jD) ((k:Int)) (by exact rfl) (trivial) ?_
  refine ai (mxL (n:=(rG k).length+1) (by omega) (by decide)) (ai (lt1 rfl) ?_)
  refine nX (k) (ai (ai (ai (fun _=>rfl) (aH (by omega))) rfl) (ai rfl (ai rfl (ai ?_ ?_)))) trivial trivial
  ·rw[tq,aao];rfl
  ·rw[tq];exact gP rfl (fun _ _=>rfl) (mO _)
 have e0:l9 c 0=rG k:=by rw[show k=(aS c).toNat by omega];exact ape _
 refine fR (c.sts.length) (fun n=>[(29,.s (iA n)),(6,exU (l9 c n))]) (fun n=>[]) (fun n=>True) ?_ ?_ ?_ ?_
 ·refine (ai (ai (ai (fun _=>rfl) (iE (by omega))) rfl) (ai rfl (ai rfl (ai ?_ ?_))))
  ·rw[e0]
  ·rw[e0];exact fun _ _=>.of rfl
 ·exact trivial
 ·trivial
 intro (n:Nat) ⟨hn,_⟩
 have hl:=yO c n
 refine ah (p:=n<c.sts.length) (by exact aB (show ((n:Nat):Int)<(((dL c c.sts.length).length:Nat):Int)↔_ by omega)) (fun g2=>?_) (fun g2=>?_)
 ·have em:=sS c (n:=c.sts.length) g2
  have hck:=zw c c.sts.length n g2
  refine iX (n) ((dL c c.sts.length).length) ?_
  refine iX (n) ((cZ c c.sts.length).length) ?_
  refine ah (p:=(c.sts.getD n st0).wt=0) (by exact um (by show (cZ c c.sts.length).getD n 0=-1099511627776↔_;rw[hck];exact aav hs)) (fun g3=>?_) (fun g3=>?_)
  ·refine cK (jD) ((dL c c.sts.length).getD n 0) (by exact (iE (by simp only[zz,reduceCtorEq]))) (trivial) ?_
   refine ai (mxL (n:=(l9 c n).length+1) (by omega) (by decide)) (ai (lt1 rfl) ?_)
   refine nX (n) (ai (ai (ai (fun _=>rfl) (aH (by omega))) rfl) (ai rfl (ai rfl (ai ?_ ?_)))) trivial trivial
   ·rw[ku,aao];rfl
   ·rw[ku];exact gP rfl (fun _ _=>rfl) (by rw[abN,if_pos g3];exact (by rw[←em];exact mO _))
  ·refine dR (.seq [0,1,3,4,5,6,7,8,9,2,10,11,12,13,14,15]) ?_
   refine iX (n) ((cZ c c.sts.length).length) ?_
   refine cK (jD) ((dL c c.sts.length).getD n 0) (by exact (iE (by simp only[zz,reduceCtorEq]))) (trivial) ?_
   refine cK (jD) ((cZ c c.sts.length).getD n 0) (by exact (iE (by simp only[zz,reduceCtorEq]))) (trivial) ?_
   refine cK (abb) ((2,aU 3 (qG (o8 ((dL c c.sts.length).getD n 0))++qG (o8 ((cZ c c.sts.length).getD n 0))))) (by exact (ai rfl (fun _ _=>rfl))) (trivial) ?_
   refine ai (mxL (n:=(l9 c n).length+1) (by omega) (by decide)) (ai (lt1 rfl) ?_)
   refine nX (n) (ai (ai (ai (fun _=>rfl) (aH (by omega))) rfl) (ai rfl (ai rfl (ai ?_ ?_)))) trivial trivial
   ·rw[ku,aao];rfl
   ·rw[ku];exact gP rfl (fun _ _=>rfl) (by rw[abN,if_neg g3];exact (by rw[←em,←hck];exact agY _ _))
 have en:n=c.sts.length:=by omega
 have eN:IntKind.i64.wrap (IntKind.i64.wrap (IntKind.i64.wrap (aS c+((dL c c.sts.length).length:Int))+(c.sts.length:Int))+((nW c c.trs.length).length:Int))=zq c:=by
  rw[hml,hgl,dD (n:=aS c+(c.sts.length:Int)) (by omega) (by omega),dD (n:=aS c+(c.sts.length:Int)+(c.sts.length:Int)) (by omega) (by omega),dD (by omega) (by omega)];rfl
 have er:l9 c n=relE c:=by rw[en];rfl
 refine dR (.seq [0,1,2,3,4,5,6,7,8,9,10,11,12,13,14,15,16,17,18,19,20,21,22,23,24,25,26,27,28,29,30]) ?_
 refine ei _ (ai (amN) (ei (⟨rE c i,l9 c n,zq c⟩) (ei [] (ai (a4 (ai (fun _=>Or.inl rfl) (ai nof (Or.inl rfl)))) (ai ?_ (ai (by exact trivial) (ai (⟨by rw[er];exact alK hc hi,by rw[er];exact hL⟩) ?_)))))))
 ·exact (ai (ai rfl (ai rfl (ai rfl (fun _ _=>rfl)))) (ai (ai rfl (fun _ _=>rfl)) (iE (by simp only[zz,reduceCtorEq];omega))))
 refine ai (ai (fun h=>absurd (show false=true from h) (by decide)) ?_) trivial
 show kU _ (.tup [.agg [iP 0,iP 0,.val (.slice none 0 0)],iP 5])
 try rw[←er]
 exact (ai (ai rfl (ai rfl rfl)) rfl)
theorem abx {l:List Int} {k:Int}:gM l k=true↔k∈l:=by
 unfold gM
 rw[amb]
 exact ⟨fun ⟨y,h1,h2⟩=>by rw[eq_of_beq h2];exact h1,fun h=>⟨k,h,beq_self_eq_true k⟩⟩
theorem asv (a b:List Int):a.any (gM b)=nP b a:=by
 unfold nP
 rw[arX,amb,amb]
 constructor
 ·rintro ⟨k,h1,h2⟩;exact ⟨k,abx.1 h2,abx.2 h1⟩
 ·rintro ⟨k,h1,h2⟩;exact ⟨k,abx.1 h2,abx.2 h1⟩
def trB (l:List Int):Ob:=.cells 101 [.p false (fE l),.any,.any,.any,.any]
theorem as3:av Tryz.prog 211 { A:=List Int×Int,args:=fun a=>[iA a.2,.own 0 0],objs:=fun a=>[trB a.1],pre:=fun a=>a.1.length≤1000000,res:=fun a=>bP (gM a.1 a.2),objs':=fun _=>[],fresh:=true,ro:=1 }:=by
 refine vF Tryz.func211 ?_
 rintro ⟨l,n⟩ hpre
 refine cK (ag9) ((l,n)) (by exact (ai (ai rfl (fun _ _=>rfl)) rfl)) (hpre) ?_
 refine eN _ ?_
 exact rfl
def avT (a:List Int×List Int):Prop:=a.1.length≤1000000∧a.2.length≤1000000
def psS (res:List Int×List Int→PV):Spec:={ A:=List Int×List Int,args:=fun a=>[isA a.2,.fn 211 [.own 0 0]],objs:=fun a=>[trB a.1],pre:=avT,res:=res,objs':=fun _=>[],fresh:=true,ro:=1 }
theorem arC:av Tryz.prog 187 (psS fun a=>iP (jv (gM a.1) a.2)):=by
 refine vF Tryz.func187 ?_
 rintro ⟨m,l⟩ hpre
 obtain ⟨hm,hl⟩:=hpre
 have hl:l.length≤1000000:=hl
 refine fR (l.length) (fun k=>[(8,.s (iA k))]) (fun k=>[]) (fun k=>∀y∈l.take k,gM m y=false) (by exact (ai (ai (fun _=>rfl) (iE (by omega))) rfl)) (by exact trivial) ?_ ?_
 ·exact fun y hy=>absurd hy (by simp)
 intro (k:Nat) ⟨hk,hall⟩
 refine ah (p:=k<l.length) (aB (by dsimp only;omega)) (fun h1=>?_) (fun h1=>?_)
 ·refine iX (k) (l.length) ?_
  refine ei _ (ai (as3) (ei ((m,l.getD k 0)) (ei [0] (ai (a4 (ai (fun _=>Or.inl rfl) (ai nof (Or.inl rfl)))) (ai (by exact (ai (iE (by simp only[zz,reduceCtorEq])) (ai rfl rfl))) (ai (by exact (ai rfl (ai (ai rfl (fun _ _=>rfl)) (ai trivial (ai trivial (ai trivial trivial)))))) (ai (hm) ?_)))))))
  refine aC (b:=gM m (l.getD k 0)) rfl (fun h2=>?_) (fun h2=>?_)
  ·refine eN (iP (jv (gM m) l)) ?_
   rw[qV (d:=0) h1 h2 hall]
   exact rfl
  refine nX (k) (ai (ai (fun _=>rfl) (aH (by omega))) rfl) trivial ?_
  intro y hy
  rw[aO 0 h1] at hy
  rcases acw.1 hy with hy | hy
  ·exact hall y hy
  ·simp only[acC] at hy;subst hy;exact h2
 ·obtain rfl:k=l.length:=by omega
  rw[acr] at hall
  refine eN (iP (jv (gM m) l)) ?_
  rw[tX hall]
  exact rfl
theorem aqR:av Tryz.prog 130 (psS fun a=>bP (nP a.1 a.2)):=by
 refine vF Tryz.func130 ?_
 rintro ⟨m,l⟩ hpre
 refine ei _ (ai (arC) (ei ((m,l)) (ei [0] (ai (a4 (ai (fun _=>Or.inl rfl) (ai nof (Or.inl rfl)))) (ai (by exact (ai (ai rfl (fun _ _=>rfl)) (ai rfl (ai rfl rfl)))) (ai (by exact (ai rfl (ai (ai rfl (fun _ _=>rfl)) (ai trivial (ai trivial (ai trivial trivial)))))) (ai (hpre) ?_)))))))
 refine eN (bP (nP m l)) ?_
 rw[(asv l m).symm.trans (qD (gM m) l).symm]
 exact rfl
def axi (c:aA):Ob:=.cells 106 [iA (aS c),.any,.any,.any,.p false (aaK c.sts),.p false (ada c.trs),aiX c,ajl c,aki c]
def aq4 (b:Bool) (res:aA×Nat→PV):Spec:={ A:=aA×Nat,args:=fun a=>[.own 0 0,iA a.2],objs:=fun a=>[axi a.1],pre:=acU b,res:=res,objs':=fun _=>[],fresh:=false,ro:=1 }
set_option maxHeartbeats 4000000 in
theorem apn:av Tryz.prog 156 (aq4 true fun a=>.tup [.agg [iP 3,iP 0,.seq (jW a.1 a.2 a.2).length (uW (jW a.1 a.2 a.2))],iP 0]):=by
 refine vI [3000085] Tryz.func156 ?_
 rintro ⟨c,i⟩ hpre
 have hcp:acU true (c,i):=hpre
 obtain ⟨⟨hc,hi⟩,hL⟩:=hpre
 have hc:kL c:=hc
 have hi:i<c.trs.length:=hi
 have hs:=iZ hc.1
 obtain ⟨⟨ha1,ha6⟩,hi16,hs24,ht32⟩:=dY hc
 have hml:=nN c c.sts.length
 have hgl:=sM c c.trs.length
 obtain ⟨⟨hfr,hfs⟩,_⟩:=rO hc.1 hi
 have hto:=mP hc.2 hi
 have hfl:(eH c i).length≤1000000:=hto.1
 refine iX (i) (c.trs.length) ?_
 refine fR ((eH c i).length) (fun k=>[(25,.s (iA k)),(7,exU (pz c i k))]) (fun k=>[]) (fun k=>True) ?_ ?_ ?_ ?_
 ·exact (ai (ai (ai (fun _=>rfl) (iE (by omega))) rfl) rfl)
 ·exact trivial
 ·trivial
 intro (k:Nat) ⟨hk,_⟩
 have hl:=vD hk
 refine ah (p:=k<(eH c i).length) (by exact aB (show ((k:Nat):Int)<(((eH c i).length:Nat):Int)↔_ by omega)) (fun h1=>?_) (fun h1=>?_)
 ·refine iX (k) ((eH c i).length) ?_
  have hx:0≤(eH c i).getD k 0∧(eH c i).getD k 0<(c.sts.length:Int):=xW hfs h1
  have em:=sS c (n:=c.sts.length) (k:=((eH c i).getD k 0).toNat) (by omega)
  refine ai (ai hx.1 (by show (eH c i).getD k 0<(((dL c c.sts.length).length:Nat):Int);omega)) ?_
  refine ai rfl ?_
  refine cK (jD) ((dL c c.sts.length).getD ((eH c i).getD k 0).toNat 0) (by exact (iE (by simp only[zz,reduceCtorEq]))) (trivial) ?_
  refine ai (mxL (n:=(pz c i k).length+1) (by omega) (by decide)) (ai (lt1 rfl) ?_)
  refine nX (k) (ai (ai (ai (fun _=>rfl) (aH (by omega))) rfl) (ai rfl (ai rfl (ai ?_ ?_)))) trivial trivial
  ·rw[tu h1,aao];rfl
  ·rw[tu h1,←em];exact gP rfl (fun _ _=>rfl) (mO _)
 have ek:k=(eH c i).length:=by omega
 refine ei _ (ai (as6) (ei ((c,i)) (ei [0] (ai (a4 (ai (fun _=>Or.inl rfl) (ai nof (Or.inl rfl)))) (ai (by exact (ai (ai rfl rfl) (ai (iE (by simp only[zz,reduceCtorEq])) (ai (iE (by simp only[zz,reduceCtorEq])) (ai rfl (fun _ _=>rfl)))))) (ai (by exact (ai rfl (ai rfl (ai trivial (ai trivial (ai trivial (ai (ai rfl (fun _ _=>rfl)) (ai trivial (ai (ai rfl (fun _ _=>rfl)) (ai (ai rfl (fun _ _=>rfl)) (ai rfl (fun _ _=>rfl)))))))))))) (ai (hcp) ?_)))))))
 refine ai (mxL (n:=(pz c i k).length+1) (by omega) (by decide)) (ai (lt1 rfl) ?_)
 refine ai (ai (Int.le_refl _) (ai (aaT _) (by show ((i:Nat):Int)≤((c.trs.length:Nat):Int);omega))) ?_
 refine ai (fun _ _=>rfl) ?_
 have e0:jW c i 0=pz c i k++[dz (relE c) (rE c i)]:=by rw[ek];exact ape _
 refine fR (i) (fun q=>[(63,.s (iA q)),(7,exU (jW c i q))]) (fun q=>[]) (fun q=>True) ?_ ?_ ?_ ?_
 ·refine (ai (ai (ai (fun _=>rfl) (iE (by omega))) rfl) (ai rfl (ai rfl (ai ?_ ?_))))
  ·rw[e0,aao];rfl
  ·rw[e0];exact gP rfl (fun _ _=>rfl) (.of rfl)
 ·exact trivial
 ·trivial
 intro (q:Nat) ⟨hq,_⟩
 have hpl:(jW c i q).length≤1000000+1+q:=by
  have:=ab1 c i q
  unfold jW ajt
  rw[aao,aao,vD (acn _)]
  show _+1+_≤_
  omega
 refine ah (p:=q<i) (by exact aB (show ((q:Nat):Int)<((i:Nat):Int)↔_ by omega)) (fun h1=>?_) (fun h1=>?_)
 ·refine iX (q) (i) ?_
  have ez:c.trs.getD (0+q) aY=c.trs.getD q aY:=by rw[ajN]
  refine ei _ (ai (aqR) (ei ((eH c i,(c.trs.getD (0+q) aY).fr)) (ei [2] (ai (a4 (ai (fun _=>Or.inl rfl) (ai nof (Or.inl rfl)))) (ai (by exact (ai (ai rfl (fun _ _=>rfl)) (ai rfl (ai rfl rfl)))) (ai (by exact (ai rfl (ai (ai rfl (fun _ _=>rfl)) (ai trivial (ai trivial (ai trivial trivial)))))) (ai (⟨hfl,by rw[ez];exact (mP hc.2 (show q<c.trs.length by omega)).1⟩) ?_)))))))
  refine aC (b:=nP (eH c i) (c.trs.getD (0+q) aY).fr) rfl (fun h2=>?_) (fun h2=>?_)
  ·have h3:nP (eH c i) (eH c q)=true:=by rw[ez] at h2;exact h2
   have eg:=aeQ c (n:=c.trs.length) (k:=q) (by omega)
   refine iX (q) ((nW c c.trs.length).length) ?_
   refine cK (jD) ((nW c c.trs.length).getD q 0) (by exact (iE (by simp only[zz,reduceCtorEq]))) (trivial) ?_
   refine cK (aqF) (o8 ((nW c c.trs.length).getD q 0)) (by exact (ai rfl (ai rfl rfl))) (trivial) ?_
   refine ai (mxL (n:=(jW c i q).length+1) (by omega) (by decide)) (ai (lt1 rfl) ?_)
   refine nX (q) (ai (ai (ai (fun _=>rfl) (aH (by omega))) rfl) (ai rfl (ai rfl (ai ?_ ?_)))) trivial trivial
   ·rw[abm h3,aao];rfl
   ·rw[abm h3,←eg];exact gP rfl (fun _ _=>rfl) (aml _)
  ·have h3:nP (eH c i) (eH c q)=false:=by rw[ez] at h2;exact h2
   refine nX (q) (ai (ai (ai (fun _=>rfl) (aH (by omega))) rfl) (ai rfl (ai rfl (ai ?_ ?_)))) trivial trivial
   all_goals rw[alv h3]
   exact fun _ _=>.of rfl
 have eq:q=i:=by omega
 refine cK (abb) (((jW c i q).length,uW (jW c i q))) (by exact (ai rfl (fun _ _=>rfl))) (trivial) ?_
 refine ai (ai (fun h=>absurd (show false=true from h) (by decide)) ?_) trivial
 show kU _ (.tup [.agg [iP 3,iP 0,.seq (jW c i i).length (uW (jW c i i))],iP 0])
 rw[←eq]
 exact (ai (ai rfl (ai rfl (ai rfl (fun _ _=>rfl)))) rfl)
set_option maxHeartbeats 4000000 in
theorem ao3:av Tryz.prog 156 (aq4 false fun a=>.tup [.agg [iP 0,iP 0,.val (.slice none 0 0)],iP 12]):=by
 refine vI [3000085] Tryz.func156 ?_
 rintro ⟨c,i⟩ hpre
 have hcp:acU false (c,i):=hpre
 obtain ⟨⟨hc,hi⟩,hL⟩:=hpre
 have hc:kL c:=hc
 have hi:i<c.trs.length:=hi
 have hs:=iZ hc.1
 obtain ⟨⟨ha1,ha6⟩,hi16,hs24,ht32⟩:=dY hc
 have hml:=nN c c.sts.length
 have hgl:=sM c c.trs.length
 obtain ⟨⟨hfr,hfs⟩,_⟩:=rO hc.1 hi
 have hto:=mP hc.2 hi
 have hfl:(eH c i).length≤1000000:=hto.1
 refine iX (i) (c.trs.length) ?_
 refine fR ((eH c i).length) (fun k=>[(25,.s (iA k)),(7,exU (pz c i k))]) (fun k=>[]) (fun k=>True) ?_ ?_ ?_ ?_
 ·exact (ai (ai (ai (fun _=>rfl) (iE (by omega))) rfl) rfl)
 ·exact trivial
 ·trivial
 intro (k:Nat) ⟨hk,_⟩
 have hl:=vD hk
 refine ah (p:=k<(eH c i).length) (by exact aB (show ((k:Nat):Int)<(((eH c i).length:Nat):Int)↔_ by omega)) (fun h1=>?_) (fun h1=>?_)
 ·refine iX (k) ((eH c i).length) ?_
  have hx:0≤(eH c i).getD k 0∧(eH c i).getD k 0<(c.sts.length:Int):=xW hfs h1
  have em:=sS c (n:=c.sts.length) (k:=((eH c i).getD k 0).toNat) (by omega)
  refine ai (ai hx.1 (by show (eH c i).getD k 0<(((dL c c.sts.length).length:Nat):Int);omega)) ?_
  refine ai rfl ?_
  refine cK (jD) ((dL c c.sts.length).getD ((eH c i).getD k 0).toNat 0) (by exact (iE (by simp only[zz,reduceCtorEq]))) (trivial) ?_
  refine ai (mxL (n:=(pz c i k).length+1) (by omega) (by decide)) (ai (lt1 rfl) ?_)
  refine nX (k) (ai (ai (ai (fun _=>rfl) (aH (by omega))) rfl) (ai rfl (ai rfl (ai ?_ ?_)))) trivial trivial
  ·rw[tu h1,aao];rfl
  ·rw[tu h1,←em];exact gP rfl (fun _ _=>rfl) (mO _)
 have ek:k=(eH c i).length:=by omega
 refine ei _ (ai (ap8) (ei ((c,i)) (ei [0] (ai (a4 (ai (fun _=>Or.inl rfl) (ai nof (Or.inl rfl)))) (ai (by exact (ai (ai rfl rfl) (ai (iE (by simp only[zz,reduceCtorEq])) (ai (iE (by simp only[zz,reduceCtorEq])) (ai rfl (fun _ _=>rfl)))))) (ai (by exact (ai rfl (ai rfl (ai trivial (ai trivial (ai trivial (ai (ai rfl (fun _ _=>rfl)) (ai trivial (ai (ai rfl (fun _ _=>rfl)) (ai (ai rfl (fun _ _=>rfl)) (ai rfl (fun _ _=>rfl)))))))))))) (ai (hcp) ?_)))))))
 refine ai (ai (fun h=>absurd (show false=true from h) (by decide)) ?_) trivial
 exact (ai (ai rfl (ai rfl rfl)) rfl)
theorem ad5:av Tryz.prog 156 (aq4 true fun a=>.tup [ql (mI a.1 a.2),iP 0]):=
 gW apn fun a _=>vo (aG (abE (x:=mI a.1 a.2) rfl) (nY (.refl _)))
end Go.Sx.Pe
namespace Go.Sx.Pe
open Go Go.Proofs Go.Sx.Pn Go.RowKit Go.Shelf
def uV (x:Nat):Bool:=decide (122<x)||!dV (UInt8.ofNat x)
theorem auz {n b0 b1 b2 b3:Nat} (h:128≤b0):128≤(Lib.decodeN n b0 b1 b2 b3).1:=by
 unfold Lib.decodeN
 repeat' split
 all_goals (simp only;omega)
theorem avt {n b0 b1 b2 b3:Nat} (h:b0<128):Lib.decodeN n b0 b1 b2 b3=(b0,1):=by
 unfold Lib.decodeN
 rw[if_pos h]
theorem ahu (s:List UInt8) {k:Nat} (hk:k<s.length):((strOf s).get! k)=s.getD k 0:=by
 unfold strOf ByteArray.get!
 rw[aai]
 simp[hk]
theorem atD {b:UInt8} (h:b.toNat<128):uV b.toNat=!dV b:=by
 unfold uV
 rw[UInt8.ofNat_toNat]
 by_cases h1:122<b.toNat
 ·rw[decide_eq_true h1,aen]
  symm
  rw[alO]
  unfold dV eu jg uJ
  simp only[auU,axQ,decide_eq_false_iff_not]
  omega
 ·rw[decide_eq_false h1,arK]
theorem avq {b:UInt8} (h:128≤b.toNat):dV b=false:=by
 unfold dV eu jg uJ
 simp only[auU,axQ,decide_eq_false_iff_not]
 omega
theorem akR (s:List UInt8):∀f pos,s.length≤pos+f→decide (0≤Lib.idxFuncFrom uV true (strOf s) f pos)=!(s.drop pos).all dV
 | 0,pos,h=>by rw[axL (by omega)];rfl
 | f+1,pos,h=>by
  unfold Lib.idxFuncFrom
  rw[bY]
  by_cases hp:pos<s.length
  ·rw[if_pos hp,Lib.decode_at,ahu s hp]
   have hd:s.drop pos=s.getD pos 0 :: s.drop (pos+1):=by
    rw[axv hp,aai,aau hp];rfl
   rw[hd,List.all_cons]
   by_cases hb:(s.getD pos 0).toNat<128
   ·rw[avt hb]
    show decide (0≤(if uV (s.getD pos 0).toNat=true then (pos:Int) else Lib.idxFuncFrom uV true (strOf s) f (pos+1)))=_
    rw[atD hb]
    cases dV (s.getD pos 0) with
    | false=>rw[show (!false)=true from rfl,if_pos rfl];simp
    | true=>rw[show (!true)=false from rfl,if_neg (by decide),ac9];exact akR s f (pos+1) (by omega)
   ·have h2:uV (Lib.decodeN ((strOf s).size-pos) (s.getD pos 0).toNat ((strOf s).get! (pos+1)).toNat ((strOf s).get! (pos+2)).toNat ((strOf s).get! (pos+3)).toNat).1=true:=by
     have:=auz (n:=(strOf s).size-pos) (b1:=((strOf s).get! (pos+1)).toNat) (b2:=((strOf s).get! (pos+2)).toNat) (b3:=((strOf s).get! (pos+3)).toNat) (b0:=(s.getD pos 0).toNat) (by omega)
     unfold uV
     rw[decide_eq_true (by omega),aen]
    rw[if_pos h2,avq (by omega)]
    simp
  ·rw[if_neg hp,axL (by omega)];rfl
theorem asR (s:List UInt8):decide (0≤Lib.idxFunc uV true (strOf s))=!s.all dV:=by
 have:=akR s (strOf s).size 0 (by rw[bY];omega)
 rw[List.drop_zero] at this
 exact this
theorem asg {n:Nat} (hn:n≤122):dV (UInt8.ofNat n)=decide ((48≤n∧n≤57)∨(97≤n∧n≤122)∨(65≤n∧n≤90)∨n=95):=by
 have e:(UInt8.ofNat n).toNat=n:=by simp;omega
 unfold dV eu jg uJ
 rw[arX,decide_eq_true_iff]
 simp only[aoU,aaX,decide_eq_true_eq,or_assoc,e]
theorem anY (n:Nat) (b:Bool) (hn:n≤122) (hb:dV (UInt8.ofNat n)=b) (w:World):Calls Tryz.prog 186 #[.int .u8 (n:Int)] w fun e w'=>e=.returned (.bool b)∧w'=w:=by
 have key:=Lib.hid (hb.symm.trans (asg hn))
 go_enter Tryz.func186,Tryz.ntmps186
 go_wp2_with (fail)
 all_goals go_ret
 all_goals refine ⟨?_,rfl⟩
 all_goals refine congrArg (fun b=>Ending.returned (Value.bool b)) ?_
 all_goals rw[key.out]
 all_goals (first | (rw[eq_comm,decide_eq_true_iff];omega) | (rw[eq_comm,decide_eq_false_iff_not];omega) | (rw[arX,decide_eq_true_iff];simp;omega))
theorem am4 (x:Nat) (w:World):Calls Tryz.prog 185 #[.int .i32 (x:Int)] w fun e w'=>e=.returned (.bool (uV x))∧w'=w:=by
 by_cases h:x≤122
 ·have c:=anY x _ h rfl w
  obtain ⟨b,hb⟩:∃b,dV (UInt8.ofNat x)=b:=⟨_,rfl⟩
  rw[hb] at c
  have hr:uV x=!b:=by unfold uV;rw[decide_eq_false (by omega),hb];rfl
  rw[hr]
  have hw:IntKind.u8.wrap (x:Int)=(x:Int):=by rw[show IntKind.u8.wrap (x:Int)=(x:Int) % 256 by rfl];omega
  replace hw:=Lib.hid hw
  clear hr
  go_enter Tryz.func185,Tryz.ntmps185
  go_wp2_with (go_at_call 186;go_loud (refine c.mono ?_);rintro e w' ⟨rfl,hw'⟩;obtain rfl:=hw'.symm)
  all_goals go_ret
  all_goals exact ⟨by show Ending.returned (Value.bool (decide (122<(x:Int))||!b))=_;rw[decide_eq_false (by omega),arK],rfl⟩
 ·have hr:uV x=true:=by unfold uV;rw[decide_eq_true (by omega)];rfl
  rw[hr]
  clear hr
  go_enter Tryz.func185,Tryz.ntmps185
  go_wp2_with (fail)
  all_goals go_ret
  all_goals exact ⟨rfl,rfl⟩
theorem asP:av Tryz.prog 184 (bq (fun s:List UInt8=>[sA s,.fn 185 []]) (fun _=>True) (fun s=>bP (!s.all dV))):=by
 refine ⟨⟨_,Tryz.func184,rfl,rfl⟩,fun s hpre E vs w _ hh hA=>?_⟩
 obtain ⟨hsz,hA⟩:=hA
 have hsz:vs.size=2:=hsz
 have h0:vs[0]'(by omega)=.string (strOf s):=by
  have:=hA 0 _ (sA s) (aco (by omega)) rfl
  generalize vs[0]'(by omega)=v at this
  cases this with
  | p _ _ _ hp=>cases hp;rfl
 have h1:vs[1]'(by omega)=.func (.func 185) #[] #[]:=by
  have:=hA 1 _ (.fn 185 []) (aco (by omega)) rfl
  generalize vs[1]'(by omega)=v at this
  cases this with
  | fn f us l hl he=>
   have hl:us.size=0:=hl
   rw[Array.eq_empty_of_size_eq_zero hl]
 have hvs:vs=#[.string (strOf s),.func (.func 185) #[] #[]]:=by
  apply axq
  intro k
  match k with
  | 0=>rw[aco (by omega),h0];rfl
  | 1=>rw[aco (by omega),h1];rfl
  | k+2=>rw[axK (by omega)];simp
 rw[hvs]
 refine (Tryz.strings_ContainsFunc 185 #[] (enters_of Tryz.func185 (by kernel_rfl) rfl) uV (strOf s) w fun W x _=>(am4 x W).mono fun e w' ⟨h1,h2⟩=>⟨h1,0,by subst h2;rfl⟩).mono fun e w' ⟨he,hw⟩=>⟨.bool (!s.all dV),E,?_,.val _,hh.below hw⟩
 exact he.trans (congrArg (fun b=>Ending.returned (Value.bool b)) (asR s))
end Go.Sx.Pe
namespace Go.Sx.Pe
open Go Go.Proofs Go.Sx.Pn
def wW (c:bC) (i:Nat) (v:Int):Bool:=decide ((i:Int)≤v-bU c)&&((c.sgs.getD (v-bU c).toNat ak).kd==0)
mutual
def p8 (c:bC) (i:Nat):Ex→Bool
 | .node o v l=>(if o=1 then wW c i v else false)||aiw c i l
def aiw (c:bC) (i:Nat):List Ex→Bool
 | []=>false
 | x :: l=>p8 c i x||aiw c i l
end
theorem amc (c:bC) (i:Nat) (x:Ex):p8 c i x=((if x.op=1 then wW c i x.idx else false)||x.args.any (p8 c i)):=by
 have key:∀l:List Ex,aiw c i l=l.any (p8 c i):=by
  intro l
  induction l with
  | nil=>rfl
  | cons x l ih=>rw[aiw,ih];rfl
 cases x with
 | node o v l=>rw[p8,key]
def aiP (c:bC):Ob:=.cells 182 [iA c.act,.p false (xg c.ins),.p false (ard c.sgs),.p false (fE c.pl),.p false (fE c.mi),.any,.any,.any,.any]
def auJ (a:bC×Nat×Int×Bool):Prop:=kQ a.1∧a.2.1<a.1.sgs.length∧0≤a.2.2.1∧a.2.2.1<dx a.1
theorem auf:av Tryz.prog 182 { A:=bC×Nat×Int×Bool,args:=fun a=>[iA a.2.2.1,.own 0 0,.own 3 0,.own 2 0],objs:=fun a=>[.cells 178 [.own 1 0],aiP a.1,.cells 3 [iA a.2.1],.cells 4 [bA a.2.2.2]],pre:=auJ,res:=fun _=>.tup [],objs':=fun a=>[.cells 4 [bA (a.2.2.2||wW a.1 a.2.1 a.2.2.1)]],fresh:=true,ro:=3 }:=by
 refine vF Tryz.func182 ?_
 rintro ⟨c,i,v,b⟩ hpre
 obtain ⟨hs0,hi,hv0,hv⟩:=hpre
 have hs0:kQ c:=hs0
 have h1:0≤c.act:=hs0.1.1
 have h2:c.act≤1000:=hs0.1.2
 have h3:c.ins.length≤1000000:=hs0.2.1
 have h4:c.sgs.length≤1000000:=hs0.2.2
 have hv0:0≤v:=hv0
 have hv:v<2*c.act+c.ins.length+c.sgs.length:=hv
 have hN:bU c=2*c.act+c.ins.length:=rfl
 have hw:IntKind.i64.wrap (v-bU c)=v-bU c:=dD (by omega) (by omega)
 refine cK (nA) (c) (by exact (ai rfl (ai (ai rfl (fun _ _=>rfl)) (ai (ai rfl (fun _ _=>rfl)) (ai (ai rfl (fun _ _=>rfl)) (ai rfl (fun _ _=>rfl))))))) (hs0) ?_
 refine aC (b:=b) rfl (fun g1=>?_) (fun g1=>?_)
 ·refine ai (ai (fun _=>?_) ?_) ?_
  ·exact trivial
  ·exact trivial
  ·refine (ai rfl (ai nof ?_))
   show _=(b||wW c i v)
   rw[g1];rfl
 refine ah (p:=(i:Int)≤v-bU c) (by exact fV (by rw[hw])) (fun g2=>?_) (fun g2=>?_)
 ·refine ai (ai (by rw[hw];omega) (by rw[hw];show v-bU c<(c.sgs.length:Int);omega)) ?_
  refine ai rfl ?_
  refine ai (ai (fun _=>?_) ?_) ?_
  ·exact trivial
  ·exact trivial
  ·refine (ai rfl (ai nof ?_))
   show ((c.sgs.getD (IntKind.i64.wrap (v-bU c)).toNat ak).kd==0)=(b||wW c i v)
   rw[g1,hw];unfold wW;rw[decide_eq_true g2];rfl
 ·refine ai (ai (fun _=>?_) ?_) ?_
  ·exact trivial
  ·exact trivial
  ·refine (ai rfl (ai nof ?_))
   show false=(b||wW c i v)
   rw[g1];unfold wW;rw[decide_eq_false g2];rfl
abbrev anC := bC × Nat × Ex × Bool
def aiW (a:anC):Prop:=kQ a.1∧a.2.1<a.1.sgs.length∧jV (dx a.1) a.2.2.1∧a.2.2.1.size≤1000000
def awl (n:Nat):Spec:={ A:=anC,args:=fun a=>[iV a.2.2.1,.own 0 0,.own 1 0],objs:=fun a=>[.cells 225 [.fn 182 [.own 2 0,.own 5 0,.own 4 0]],.cells 271 [.fn 230 [.own 0 0,.own 1 0]],.cells 178 [.own 3 0],aiP a.1,.cells 3 [iA a.2.1],.cells 4 [bA a.2.2.2]],pre:=fun a=>aiW a∧a.2.2.1.size≤n,res:=fun _=>.tup [],objs':=fun a=>[.cells 4 [bA (a.2.2.2||p8 a.1 a.2.1 a.2.2.1)]],fresh:=true,ro:=5 }
def orB (a b:Bool):Bool:=a||b
def wU (c:bC) (i:Nat) (b:Bool) (l:List Ex):Bool:=b||l.any (p8 c i)
theorem ar4:∀n,av Tryz.prog 230 (awl n)
 | 0=>by
  refine vF Tryz.func230 ?_
  rintro ⟨c,i,x,b⟩ hpre
  have:=size_pos x
  exact absurd hpre.2 (by show ¬x.size≤0;omega)
 | n+1=>by
  have ih:=ar4 n
  refine vF Tryz.func230 ?_
  rintro ⟨c,i,x,b⟩ hpre
  obtain ⟨⟨hs0,hi,hg,hs⟩,hn⟩:=hpre
  have hs0:kQ c:=hs0
  have hg:jV (dx c) x:=hg
  have hs:x.size≤1000000:=hs
  have hn:x.size≤n+1:=hn
  have hsz:=x.size_eq
  have hal:=oO x.args
  obtain ⟨hn0,hga⟩:=(qH _ _).1 hg
  obtain ⟨_,_,hx1,hx2⟩:=uP hn0
  have hE:=amc c i x
  refine ah (p:=x.op=1) (um (by dsimp only;omega)) (fun h1=>?_) (fun h1=>?_)
  ·have hx3:x.idx<dx c:=by
    rw[h1] at hx2
    unfold uK at hx2
    rw[if_neg (by decide),if_pos rfl] at hx2;omega
   refine ei _ (ai (auf) (ei ((c,i,x.idx,b)) (ei [2,3,4,5] (ai (ai rfl (ai rfl (ai rfl (ai rfl (ai nof (ai nof (Or.inl rfl))))))) (ai (by exact (ai rfl (ai (ai rfl rfl) (ai (ai rfl rfl) (ai rfl rfl))))) (ai (by exact (ai (ai rfl (ai rfl rfl)) (ai (ai rfl (ai rfl (ai (ai rfl (fun _ _=>rfl)) (ai (ai rfl (fun _ _=>rfl)) (ai (ai rfl (fun _ _=>rfl)) (ai (ai rfl (fun _ _=>rfl)) (ai trivial (ai trivial (ai trivial trivial))))))))) (ai (ai rfl rfl) (ai rfl rfl))))) (ai (⟨hs0,hi,hx1,hx3⟩) ?_)))))))
   refine fR (x.args.length) (fun k=>[(16,.s (iA k))]) (fun k=>[⟨5,4,[.s (bA (wU c i (orB b (wW c i x.idx)) (x.args.take k)))]⟩]) (fun k=>True) ?_ ?_ ?_ ?_
   ·exact (ai (ai (fun _=>rfl) (iE (by omega))) rfl)
   ·refine (ai (ai (ai nof ?_) rfl) trivial)
    (show (_:Bool)=_;unfold wU orB;simp)
   ·trivial
   intro (k:Nat) ⟨hk,_⟩
   refine ah (p:=k<x.args.length) (aB (by dsimp only;omega)) (fun h2=>?_) (fun h2=>?_)
   ·refine iX (k) (x.args.length) ?_
    have hm:=aay (bB bD h2)
    have hms:=iQ hm
    refine ei _ (ai (ih) (ei ((c,i,x.args.getD k bD,wU c i (orB b (wW c i x.idx)) (x.args.take k))) (ei [0,1,2,3,4,5] (ai (ai rfl (ai rfl (ai rfl (ai rfl (ai nof (ai nof (Or.inl rfl))))))) (ai (by exact (ai (ai (iE (by simp only[zz,reduceCtorEq])) (ai (iE (by simp only[zz,reduceCtorEq])) (ai rfl (uX _)))) (ai (ai rfl rfl) (ai rfl rfl)))) (ai (by exact (ai (ai rfl (ai rfl (ai (ai rfl rfl) (ai (ai rfl rfl) (ai rfl rfl))))) (ai (ai rfl (ai rfl (ai (ai rfl rfl) (ai rfl rfl)))) (ai (ai rfl (ai rfl rfl)) (ai (ai rfl (ai rfl (ai (ai rfl (fun _ _=>rfl)) (ai (ai rfl (fun _ _=>rfl)) (ai (ai rfl (fun _ _=>rfl)) (ai (ai rfl (fun _ _=>rfl)) (ai trivial (ai trivial (ai trivial trivial))))))))) (ai (ai rfl rfl) (ai rfl rfl))))))) (ai (⟨⟨hs0,hi,hga _ hm,by show (x.args.getD k bD).size≤1000000;omega⟩,by show (x.args.getD k bD).size≤n;omega⟩) ?_)))))))
    refine nX (k) (ai (ai (fun _=>rfl) (aH (by omega))) rfl) (ai (ai (ai nof ?_) rfl) trivial) trivial
    show (_:Bool)=_
    unfold wU
    rw[aO bD h2,axW,axF,axX,axM,Bool.or_assoc]
   ·obtain rfl:k=x.args.length:=by omega
    refine ai (ai (fun _=>?_) ?_) ?_
    ·exact trivial
    ·exact trivial
    ·refine (ai rfl (ai nof ?_))
     show wU c i (orB b (wW c i x.idx)) (x.args.take x.args.length)=(b||p8 c i x)
     unfold wU
     rw[acr,hE]
     rw[if_pos h1];unfold orB;rw[Bool.or_assoc]
  ·refine fR (x.args.length) (fun k=>[(16,.s (iA k))]) (fun k=>[⟨5,4,[.s (bA (wU c i b (x.args.take k)))]⟩]) (fun k=>True) ?_ ?_ ?_ ?_
   ·exact (ai (ai (fun _=>rfl) (iE (by omega))) rfl)
   ·refine (ai (ai (ai nof ?_) rfl) trivial)
    (show (_:Bool)=_;unfold wU;simp)
   ·trivial
   intro (k:Nat) ⟨hk,_⟩
   refine ah (p:=k<x.args.length) (aB (by dsimp only;omega)) (fun h2=>?_) (fun h2=>?_)
   ·refine iX (k) (x.args.length) ?_
    have hm:=aay (bB bD h2)
    have hms:=iQ hm
    refine ei _ (ai (ih) (ei ((c,i,x.args.getD k bD,wU c i b (x.args.take k))) (ei [0,1,2,3,4,5] (ai (ai rfl (ai rfl (ai rfl (ai rfl (ai nof (ai nof (Or.inl rfl))))))) (ai (by exact (ai (ai (iE (by simp only[zz,reduceCtorEq])) (ai (iE (by simp only[zz,reduceCtorEq])) (ai rfl (uX _)))) (ai (ai rfl rfl) (ai rfl rfl)))) (ai (by exact (ai (ai rfl (ai rfl (ai (ai rfl rfl) (ai (ai rfl rfl) (ai rfl rfl))))) (ai (ai rfl (ai rfl (ai (ai rfl rfl) (ai rfl rfl)))) (ai (ai rfl (ai rfl rfl)) (ai (ai rfl (ai rfl (ai (ai rfl (fun _ _=>rfl)) (ai (ai rfl (fun _ _=>rfl)) (ai (ai rfl (fun _ _=>rfl)) (ai (ai rfl (fun _ _=>rfl)) (ai trivial (ai trivial (ai trivial trivial))))))))) (ai (ai rfl rfl) (ai rfl rfl))))))) (ai (⟨⟨hs0,hi,hga _ hm,by show (x.args.getD k bD).size≤1000000;omega⟩,by show (x.args.getD k bD).size≤n;omega⟩) ?_)))))))
    refine nX (k) (ai (ai (fun _=>rfl) (aH (by omega))) rfl) (ai (ai (ai nof ?_) rfl) trivial) trivial
    show (_:Bool)=_
    unfold wU
    rw[aO bD h2,axW,axF,axX,axM,Bool.or_assoc]
   ·obtain rfl:k=x.args.length:=by omega
    refine ai (ai (fun _=>?_) ?_) ?_
    ·exact trivial
    ·exact trivial
    ·refine (ai rfl (ai nof ?_))
     show wU c i b (x.args.take x.args.length)=(b||p8 c i x)
     unfold wU
     rw[acr,hE]
     rw[if_neg h1,arK]
def aw4:Spec:={ A:=anC,args:=fun a=>[iV a.2.2.1,.own 0 0,.own 1 0],objs:=fun a=>[.cells 225 [.fn 182 [.own 2 0,.own 5 0,.own 4 0]],.cells 271 [.fn 230 [.own 0 0,.own 1 0]],.cells 178 [.own 3 0],aiP a.1,.cells 3 [iA a.2.1],.cells 4 [bA a.2.2.2]],pre:=aiW,res:=fun _=>.tup [],objs':=fun a=>[.cells 4 [bA (a.2.2.2||p8 a.1 a.2.1 a.2.2.1)]],fresh:=true,ro:=5 }
theorem avQ:av Tryz.prog 230 aw4:=lV (fun a=>a.2.2.1.size) ar4
theorem alP:av Tryz.prog 181 { A:=anC,args:=fun a=>[iV a.2.2.1,.fn 182 [.own 0 0,.own 3 0,.own 2 0]],objs:=fun a=>[.cells 178 [.own 1 0],aiP a.1,.cells 3 [iA a.2.1],.cells 4 [bA a.2.2.2]],pre:=aiW,res:=fun _=>.tup [],objs':=fun a=>[.cells 4 [bA (a.2.2.2||p8 a.1 a.2.1 a.2.2.1)]],fresh:=true,ro:=3 }:=by
 refine vF Tryz.func181 ?_
 rintro ⟨c,i,x,b⟩ hpre
 refine ei _ (ai (avQ) (ei ((c,i,x,b)) (ei [5,6,0,1,2,3] (ai (ai rfl (ai rfl (ai rfl (ai rfl (ai nof (ai nof (Or.inl rfl))))))) (ai (by exact (ai (ai rfl (ai rfl (ai rfl (fun _ _=>rfl)))) (ai (ai rfl rfl) (ai rfl rfl)))) (ai (by exact (ai (ai rfl (ai rfl (ai (ai rfl rfl) (ai (ai rfl rfl) (ai rfl rfl))))) (ai (ai rfl (ai rfl (ai (ai rfl rfl) (ai rfl rfl)))) (ai (ai rfl (ai rfl rfl)) (ai (ai rfl (ai rfl (ai (ai rfl (fun _ _=>rfl)) (ai (ai rfl (fun _ _=>rfl)) (ai (ai rfl (fun _ _=>rfl)) (ai (ai rfl (fun _ _=>rfl)) (ai trivial (ai trivial (ai trivial trivial))))))))) (ai (ai rfl rfl) (ai rfl rfl))))))) (ai (hpre) ?_)))))))
 refine ai (ai (fun _=>?_) ?_) ?_
 ·exact trivial
 ·exact trivial
 ·exact (ai rfl (ai nof rfl))
def lu (c:bC) (i:Nat):Int:=if p8 c i (c.sgs.getD i ak).on then 9 else if (bK (c.sgs.getD i ak).off=false∨(c.sgs.getD i ak).ini=true)∨¬(c.sgs.getD i ak).dl=0 then 3 else 0
def auD (a:bC×Nat):Prop:=aby a.1∧a.2<a.1.sgs.length∧jV (dx a.1) (a.1.sgs.getD a.2 ak).on
def ckS (pre:bC×Nat→Prop) (res:bC×Nat→Int):Spec:={ A:=bC×Nat,args:=fun a=>[.own 0 0,iA a.2],objs:=fun a=>[aiP a.1],pre:=pre,res:=fun a=>iP (res a),objs':=fun _=>[],fresh:=true,ro:=1 }
theorem atn:av Tryz.prog 124 (ckS auD fun a=>lu a.1 a.2):=by
 refine vF Tryz.func124 ?_
 rintro ⟨c,i⟩ hpre
 obtain ⟨hgd,hi,hg⟩:=hpre
 have hgd:aby c:=hgd
 have hi:i<c.sgs.length:=hi
 have hs0:kQ c:=hgd.1.1
 have hos:=(hgd.2.1.1 _ (aay (bB ak hi))).1
 refine dR (.one 0 (.one 1 (.one 2 (.one 3 (.one 4 (.one 5 (.one 6 (.one 7 (.alt 8 (.one 9 (.one 10 (.one 11 .done))) (.alt 9 (.one 8 (.one 10 (.one 11 .done))) .stop)))))))))) ?_
 refine iX (i) (c.sgs.length) ?_
 refine ai ?_ (ai ?_ trivial)
 ·refine ei _ (ai (alP) (ei ((c,i,(c.sgs.getD i ak).on,false)) (ei [1,0,2,4] (ai (ai rfl (ai rfl (ai rfl (ai rfl (ai nof (ai nof (Or.inl rfl))))))) (ai (by exact (ai (ai (iE (by simp only[zz,reduceCtorEq])) (ai (iE (by simp only[zz,reduceCtorEq])) (ai rfl (fun _ _=>rfl)))) (ai rfl (ai (ai rfl rfl) (ai (ai rfl rfl) (ai rfl rfl)))))) (ai (by exact (ai (ai rfl (ai rfl rfl)) (ai (ai rfl (ai rfl (ai (ai rfl (fun _ _=>rfl)) (ai (ai rfl (fun _ _=>rfl)) (ai (ai rfl (fun _ _=>rfl)) (ai (ai rfl (fun _ _=>rfl)) (ai trivial (ai trivial (ai trivial trivial))))))))) (ai (ai rfl rfl) (ai rfl rfl))))) (ai (⟨hs0,hi,hg,hos⟩) ?_)))))))
  refine aC (b:=p8 c i (c.sgs.getD i ak).on) rfl (fun h1=>?_) (fun h1=>?_)
  ·refine eN (iP (lu c i)) ?_
   rw[lu,if_pos h1]
   exact rfl
  have n1:¬p8 c i (c.sgs.getD i ak).on=true:=by rw[h1];decide
  refine cK (aeC) ((c.sgs.getD i ak).off) (by exact (ai (iE (by simp only[zz,reduceCtorEq])) (ai (iE (by simp only[zz,reduceCtorEq])) (ai rfl (fun _ _=>rfl))))) (trivial) ?_
  refine aC (b:=!bK (c.sgs.getD i ak).off) rfl (fun h3=>?_) (fun h3=>?_)
  ·have h3:bK (c.sgs.getD i ak).off=false:=by simpa using h3
   refine eN (iP (lu c i)) ?_
   rw[lu,if_neg n1,if_pos (.inl (.inl h3))]
   exact rfl
  have h3:¬bK (c.sgs.getD i ak).off=false:=by simpa using h3
  refine aC (b:=(c.sgs.getD i ak).ini) rfl (fun h5=>?_) (fun h5=>?_)
  ·refine eN (iP (lu c i)) ?_
   rw[lu,if_neg n1,if_pos (.inl (.inr h5))]
   exact rfl
  refine aW (p:=(c.sgs.getD i ak).dl=0) (by simp only[zz,reduceCtorEq]) (fun h6=>?_) (fun h6=>?_)
  ·refine eN (iP (lu c i)) ?_
   rw[lu,if_neg n1,if_pos (.inr h6)]
   exact rfl
  ·refine eN (iP (lu c i)) ?_
   rw[lu,if_neg n1,if_neg (fun h=>h.elim (fun h=>h.elim h3 (fun e=>by rw[h5] at e;cases e)) (fun h=>h h6))]
   exact rfl
 ·refine ei _ (ai (alP) (ei ((c,i,(c.sgs.getD i ak).on,false)) (ei [1,0,2,3] (ai (ai rfl (ai rfl (ai rfl (ai rfl (ai nof (ai nof (Or.inl rfl))))))) (ai (by exact (ai (ai (iE (by simp only[zz,reduceCtorEq])) (ai (iE (by simp only[zz,reduceCtorEq])) (ai rfl (fun _ _=>rfl)))) (ai rfl (ai (ai rfl rfl) (ai (ai rfl rfl) (ai rfl rfl)))))) (ai (by exact (ai (ai rfl (ai rfl rfl)) (ai (ai rfl (ai rfl (ai (ai rfl (fun _ _=>rfl)) (ai (ai rfl (fun _ _=>rfl)) (ai (ai rfl (fun _ _=>rfl)) (ai (ai rfl (fun _ _=>rfl)) (ai trivial (ai trivial (ai trivial trivial))))))))) (ai (ai rfl rfl) (ai rfl rfl))))) (ai (⟨hs0,hi,hg,hos⟩) ?_)))))))
  refine aC (b:=p8 c i (c.sgs.getD i ak).on) rfl (fun h1=>?_) (fun h1=>?_)
  ·refine eN (iP (lu c i)) ?_
   rw[lu,if_pos h1]
   exact rfl
  have n1:¬p8 c i (c.sgs.getD i ak).on=true:=by rw[h1];decide
  refine cK (aeC) ((c.sgs.getD i ak).off) (by exact (ai (iE (by simp only[zz,reduceCtorEq])) (ai (iE (by simp only[zz,reduceCtorEq])) (ai rfl (fun _ _=>rfl))))) (trivial) ?_
  refine aC (b:=!bK (c.sgs.getD i ak).off) rfl (fun h3=>?_) (fun h3=>?_)
  ·have h3:bK (c.sgs.getD i ak).off=false:=by simpa using h3
   refine eN (iP (lu c i)) ?_
   rw[lu,if_neg n1,if_pos (.inl (.inl h3))]
   exact rfl
  have h3:¬bK (c.sgs.getD i ak).off=false:=by simpa using h3
  refine aC (b:=(c.sgs.getD i ak).ini) rfl (fun h5=>?_) (fun h5=>?_)
  ·refine eN (iP (lu c i)) ?_
   rw[lu,if_neg n1,if_pos (.inl (.inr h5))]
   exact rfl
  refine aW (p:=(c.sgs.getD i ak).dl=0) (by simp only[zz,reduceCtorEq]) (fun h6=>?_) (fun h6=>?_)
  ·refine eN (iP (lu c i)) ?_
   rw[lu,if_neg n1,if_pos (.inr h6)]
   exact rfl
  ·refine eN (iP (lu c i)) ?_
   rw[lu,if_neg n1,if_neg (fun h=>h.elim (fun h=>h.elim h3 (fun e=>by rw[h5] at e;cases e)) (fun h=>h h6))]
   exact rfl
def vJ (c:bC) (i:Nat):Int:=if ¬bf (c.sgs.getD i ak).off (dx c)=0 then bf (c.sgs.getD i ak).off (dx c) else if ¬(c.sgs.getD i ak).dl=0 then 3 else 0
theorem an0:av Tryz.prog 125 (ckS (fun a=>aby a.1∧a.2<a.1.sgs.length) fun a=>vJ a.1 a.2):=by
 refine vF Tryz.func125 ?_
 rintro ⟨c,i⟩ hpre
 obtain ⟨hgd,hi⟩:=hpre
 have hgd:aby c:=hgd
 have hi:i<c.sgs.length:=hi
 have hs0:kQ c:=hgd.1.1
 have hos:=(hgd.2.1.1 _ (aay (bB ak hi))).2
 refine dR (.seq [0,1,2,3,4,5,6,7,8,9,10,11,12,13,14,15]) ?_
 refine iX (i) (c.sgs.length) ?_
 refine cK (aac) (c) (by exact (ai rfl (ai (ai rfl (fun _ _=>rfl)) (ai (ai rfl (fun _ _=>rfl)) (ai (ai rfl (fun _ _=>rfl)) (ai rfl (fun _ _=>rfl))))))) (hs0) ?_
 refine cK (qz) (((c.sgs.getD i ak).off,dx c)) (by exact (ai (ai (iE (by simp only[zz,reduceCtorEq])) (ai (iE (by simp only[zz,reduceCtorEq])) (ai rfl (fun _ _=>rfl)))) rfl)) (hos) ?_
 refine aW (p:=bf (c.sgs.getD i ak).off (dx c)=0) (bR (by dsimp only;omega)) (fun h1=>?_) (fun h1=>?_)
 ·refine eN (iP (vJ c i)) ?_
  rw[vJ,if_pos h1]
  exact rfl
 refine iX (i) (c.sgs.length) ?_
 refine aW (p:=(c.sgs.getD i ak).dl=0) (by simp only[zz,reduceCtorEq]) (fun h2=>?_) (fun h2=>?_)
 ·refine eN (iP (vJ c i)) ?_
  rw[vJ,if_neg (fun h=>h h1),if_pos h2]
  exact rfl
 ·refine eN (iP (vJ c i)) ?_
  rw[vJ,if_neg (fun h=>h h1),if_neg (fun h=>h h2)]
  exact rfl
def sZ (c:bC) (i:Nat):Int:=if (c.sgs.getD i ak).dl<1∨1000000<(c.sgs.getD i ak).dl then 2 else if bK (c.sgs.getD i ak).off=false∨(c.sgs.getD i ak).ini=true then 3 else 0
theorem aqD:av Tryz.prog 126 (ckS (fun a=>a.2<a.1.sgs.length∧a.1.sgs.length≤1000000) fun a=>sZ a.1 a.2):=by
 refine vF Tryz.func126 ?_
 rintro ⟨c,i⟩ hpre
 obtain ⟨hi,h4⟩:=hpre
 have hi:i<c.sgs.length:=hi
 have h4:c.sgs.length≤1000000:=h4
 refine iX (i) (c.sgs.length) ?_
 refine ah (p:=(c.sgs.getD i ak).dl<1) (aB Iff.rfl) (fun h1=>?_) (fun h1=>?_)
 ·refine eN (iP (sZ c i)) ?_
  rw[sZ,if_pos (.inl h1)]
  exact rfl
 refine ah (p:=1000000<(c.sgs.getD i ak).dl) (aB Iff.rfl) (fun h2=>?_) (fun h2=>?_)
 ·refine eN (iP (sZ c i)) ?_
  rw[sZ,if_pos (.inr h2)]
  exact rfl
 have n1:¬((c.sgs.getD i ak).dl<1∨1000000<(c.sgs.getD i ak).dl):=fun h=>h.elim h1 h2
 refine cK (aeC) ((c.sgs.getD i ak).off) (by exact (ai (iE (by simp only[zz,reduceCtorEq])) (ai (iE (by simp only[zz,reduceCtorEq])) (ai rfl (fun _ _=>rfl))))) (trivial) ?_
 refine aC (b:=!bK (c.sgs.getD i ak).off) rfl (fun h3=>?_) (fun h3=>?_)
 ·have h3:bK (c.sgs.getD i ak).off=false:=by simpa using h3
  refine eN (iP (sZ c i)) ?_
  rw[sZ,if_neg n1,if_pos (.inl h3)]
  exact rfl
 have h3:¬bK (c.sgs.getD i ak).off=false:=by simpa using h3
 refine aC (b:=(c.sgs.getD i ak).ini) rfl (fun h5=>?_) (fun h5=>?_)
 ·refine eN (iP (sZ c i)) ?_
  rw[sZ,if_neg n1,if_pos (.inr h5)]
  exact rfl
 ·refine eN (iP (sZ c i)) ?_
  rw[sZ,if_neg n1,if_neg (fun h=>h.elim h3 (fun e=>by rw[h5] at e;cases e))]
  exact rfl
def oQ (l:List (List UInt8)) (s:List UInt8):Int:=if !jE s then 3 else if 24<s.length then 17 else if l.any (fun t=>t==s) then 7 else 0
def lS (l:List (List UInt8)) (s:List UInt8):List (List UInt8):=if oQ l s=0 then l++[s] else l
def uZ (l:List (List UInt8)) (b:ByteArray):Option Nat:=l.findIdx? fun s=>decide (strOf s=b)
def oN (l:List (List UInt8)):MK→Option PV
 | .str b=>(uZ l b).map fun k:Nat=>iP (k:Int)
 | _=>none
def akl (l:List (List UInt8)):Ob:=.map .str l.length (oN l)
theorem acZ {l:List (List UInt8)} {s:List UInt8}:uZ l (strOf s)=none↔l.any (fun t=>t==s)=false:=by
 unfold uZ
 rw[axw,ar6]
 constructor
 ·intro h x hx e
  have:=h x hx
  rw[beq_iff_eq] at e
  subst e
  simp at this
 ·intro h x hx
  have:=h x hx
  rw[decide_eq_false_iff_not,aho]
  intro e;subst e;simp at this
theorem aj9 {l:List (List UInt8)} {s:List UInt8} (h:uZ l (strOf s)=none) (q:MK):uN (oN l) (.str (strOf s)) (iP l.length) q=oN (l++[s]) q:=by
 classical
 unfold uN
 cases q with
 | int j=>rw[if_neg (by intro h;cases h)];rfl
 | bools b=>rw[if_neg (by intro h;cases h)];rfl
 | str b=>
  show _=(uZ (l++[s]) b).map fun k:Nat=>iP (k:Int)
  unfold uZ at h ⊢
  rw[List.findIdx?_append]
  by_cases e:b=strOf s
  ·subst e
   rw[if_pos rfl,h]
   simp
  ·rw[if_neg (fun h=>e (by cases h;rfl))]
   have:[s].findIdx? (fun s=>decide (strOf s=b))=none:=by
    rw[axw]
    intro x hx
    simp only[acC] at hx
    subst hx
    rw[decide_eq_false_iff_not];exact fun h=>e h.symm
   rw[this]
   show (uZ l b).map _=_
   unfold uZ
   cases l.findIdx? (fun s=>decide (strOf s=b))<;>rfl
def lnO:Ob:=.cells 182 [.any,.any,.any,.any,.any,.mp 1,.any,.any,.any]
def knS:Spec:={ A:=List (List UInt8)×List UInt8,args:=fun a=>[.own 0 0,sA a.2],objs:=fun a=>[lnO,akl a.1],pre:=fun a=>a.2.length≤1000000∧a.1.length≤1000000,res:=fun a=>iP (oQ a.1 a.2),objs':=fun a=>[akl (lS a.1 a.2)],fresh:=true,ro:=1 }
theorem aja:av Tryz.prog 128 knS:=by
 refine vF Tryz.func128 ?_
 rintro ⟨l,s⟩ hpre
 obtain ⟨hs,hl⟩:=hpre
 have hs:s.length≤1000000:=hs
 have hl:l.length≤1000000:=hl
 have hz:=bY s
 refine ah (p:=s=[]) (by (show (s==[])=true↔s=[];simp)) (fun h1=>?_) (fun h1=>?_)
 ·have e1:oQ l s=3:=if_pos (by rw[show jE s=false by unfold jE;rw[h1];rfl];rfl)
  have e2:lS l s=l:=by unfold lS;rw[e1];rfl
  refine ai (ai (fun _=>?_) ?_) ?_
  ·exact trivial
  ·show kU _ (iP (oQ l s))
   rw[e1]
   exact rfl
  ·refine (ai rfl (ai ?_ ?_))
   ·show l.length=(lS l s).length
    rw[e2]
   ·show ∀k,oN l k=oN (lS l s) k
    rw[e2];exact fun _=>rfl
 have hp:0<s.length:=by cases s with | nil=>exact absurd rfl h1 | cons _ _=>exact Nat.zero_lt_succ _
 have i1:(strOf s)[((0:Nat):Int).toNat]?=some (s.getD 0 0):=nI hp
 refine ei (s.getD 0 0) (ai (ai (by decide) i1) ?_)
 refine bL ((s.getD 0 0).toNat<97) (fun h2=>?_) fun h2=>?_
 ·have e1:oQ l s=3:=if_pos (by rw[show jE s=false by unfold jE jg;rw[show decide (97≤(s.getD 0 0).toNat)=false by rw[decide_eq_false_iff_not];omega];simp];rfl)
  have e2:lS l s=l:=by unfold lS;rw[e1];rfl
  refine ai (ai (fun _=>?_) ?_) ?_
  ·exact trivial
  ·show kU _ (iP (oQ l s))
   rw[e1]
   exact rfl
  ·refine (ai rfl (ai ?_ ?_))
   ·show l.length=(lS l s).length
    rw[e2]
   ·show ∀k,oN l k=oN (lS l s) k
    rw[e2];exact fun _=>rfl
 refine ei (s.getD 0 0) (ai (ai (by decide) i1) ?_)
 refine bL (122<(s.getD 0 0).toNat) (fun h3=>?_) fun h3=>?_
 ·have e1:oQ l s=3:=if_pos (by rw[show jE s=false by unfold jE jg;rw[show decide ((s.getD 0 0).toNat≤122)=false by rw[decide_eq_false_iff_not];omega];simp];rfl)
  have e2:lS l s=l:=by unfold lS;rw[e1];rfl
  refine ai (ai (fun _=>?_) ?_) ?_
  ·exact trivial
  ·show kU _ (iP (oQ l s))
   rw[e1]
   exact rfl
  ·refine (ai rfl (ai ?_ ?_))
   ·show l.length=(lS l s).length
    rw[e2]
   ·show ∀k,oN l k=oN (lS l s) k
    rw[e2];exact fun _=>rfl
 refine cK (asP) (s) (by exact (ai rfl (ai rfl trivial))) (trivial) ?_
 refine aC (b:=!s.all dV) rfl (fun h4=>?_) (fun h4=>?_)
 ·have h4:s.all dV=false:=by simpa using h4
  have e1:oQ l s=3:=if_pos (by rw[show jE s=false by unfold jE;rw[h4];simp];rfl)
  have e2:lS l s=l:=by unfold lS;rw[e1];rfl
  refine ai (ai (fun _=>?_) ?_) ?_
  ·exact trivial
  ·show kU _ (iP (oQ l s))
   rw[e1]
   exact rfl
  ·refine (ai rfl (ai ?_ ?_))
   ·show l.length=(lS l s).length
    rw[e2]
   ·show ∀k,oN l k=oN (lS l s) k
    rw[e2];exact fun _=>rfl
 have h4:s.all dV=true:=by simpa using h4
 have hw:jE s=true:=by
  unfold jE jg
  rw[h4,show decide (97≤(s.getD 0 0).toNat)=true by rw[decide_eq_true_iff];omega,show decide ((s.getD 0 0).toNat≤122)=true by rw[decide_eq_true_iff];omega]
  cases s with
  | nil=>exact absurd rfl h1
  | cons _ _=>rfl
 have k1:¬(!jE s)=true:=by rw[hw];decide
 refine ah (p:=24<s.length) (by exact aB (by rw[hz];omega)) (fun h5=>?_) (fun h5=>?_)
 ·have e1:oQ l s=17:=by unfold oQ;rw[if_neg k1,if_pos h5]
  have e2:lS l s=l:=by unfold lS;rw[e1];rfl
  refine ai (ai (fun _=>?_) ?_) ?_
  ·exact trivial
  ·show kU _ (iP (oQ l s))
   rw[e1]
   exact rfl
  ·refine (ai rfl (ai ?_ ?_))
   ·show l.length=(lS l s).length
    rw[e2]
   ·show ∀k,oN l k=oN (lS l s) k
    rw[e2];exact fun _=>rfl
 cases hF:uZ l (strOf s) with
 | none=>
  have hN:oN l (.str (strOf s))=none:=by show (uZ l (strOf s)).map _=none;rw[hF];rfl
  have e1:oQ l s=0:=by unfold oQ;rw[if_neg k1,if_neg h5,if_neg (by rw[acZ.1 hF];decide)]
  have e2:lS l s=l++[s]:=if_pos e1
  refine ai (ai rfl rfl) (ei (iP 0) (ei false (ai (ai (fun d h=>absurd (hN.symm.trans h) (by simp)) (fun _=>⟨rfl,rfl⟩)) ?_)))
  refine dR (.seq [0,1,2,3,4,5,6,7,8,9,10]) ?_
  refine ai rfl (ei (l.length+1) (ai (ai (fun _=>rfl) (fun d h=>absurd (hN.symm.trans h) (by simp))) ?_))
  refine ai (ai (fun _=>?_) ?_) ?_
  ·exact trivial
  ·show kU _ (iP (oQ l s))
   rw[e1]
   exact rfl
  ·refine (ai rfl (ai ?_ ?_))
   ·show l.length+1=(lS l s).length
    rw[e2,aao];rfl
   ·show ∀k,uN (oN l) (.str (strOf s)) (iP l.length) k=oN (lS l s) k
    rw[e2];exact aj9 hF
 | some j=>
  have hN:oN l (.str (strOf s))=some (iP (j:Int)):=by show (uZ l (strOf s)).map _=_;rw[hF];rfl
  have e0:l.any (fun t=>t==s)=true:=by
   cases hh:l.any (fun t=>t==s) with
   | true=>rfl
   | false=>rw[acZ.2 hh] at hF;cases hF
  have e1:oQ l s=7:=by unfold oQ;rw[if_neg k1,if_neg h5,if_pos e0]
  refine ai (ai rfl rfl) (ei (iP (j:Int)) (ei true (ai (ai (fun d h=>?_) (fun h=>absurd (hN.symm.trans h) (by simp))) ?_)))
  ·rw[hN] at h;cases h;exact ⟨rfl,rfl⟩
  have e2:lS l s=l:=by unfold lS;rw[e1];rfl
  refine ai (ai (fun _=>?_) ?_) ?_
  ·exact trivial
  ·show kU _ (iP (oQ l s))
   rw[e1]
   exact rfl
  ·refine (ai rfl (ai ?_ ?_))
   ·show l.length=(lS l s).length
    rw[e2]
   ·show ∀k,oN l k=oN (lS l s) k
    rw[e2];exact fun _=>rfl
def amY (c:bC) (i:Nat) (x:Ex):Prop:=∃k,k<c.sgs.length∧i≤k∧((c.sgs.getD k ak).kd==0)=true∧qO (bU c+(k:Int)) x=true
theorem am1 {c:bC} {i:Nat} (hs:kQ c):∀n (x:Ex),x.size≤n→jV (dx c) x→(p8 c i x=true↔amY c i x)
 | 0,x,h,_=>by have:=size_pos x;omega
 | n+1,x,h,hg=>by
  have hsz:=x.size_eq
  obtain ⟨hn0,hga⟩:=(qH _ _).1 hg
  obtain ⟨_,⟨_,hm⟩,hx1,hx2⟩:=uP hn0
  rw[amc]
  have h1:0≤c.act:=hs.1.1
  have hN:bU c=2*c.act+c.ins.length:=rfl
  have hL:dx c=2*c.act+c.ins.length+c.sgs.length:=rfl
  by_cases h1:x.op=1
  ·have hx3:x.idx<dx c:=by
    rw[h1] at hx2
    unfold uK at hx2
    rw[if_neg (by decide),if_pos rfl] at hx2;omega
   have ha:x.args=[]:=by
    rw[h1] at hm
    have:x.args.length≤0:=hm
    exact awK.1 (by omega)
   rw[if_pos h1,ha,axX,axM]
   unfold wW amY
   rw[aaX,decide_eq_true_iff]
   constructor
   ·rintro ⟨q1,q2⟩
    refine ⟨(x.idx-bU c).toNat,by omega,by omega,q2,?_⟩
    rw[aa4,if_pos h1,beq_iff_eq];omega
   ·rintro ⟨k,q1,q2,q3,q4⟩
    rw[aa4,if_pos h1,beq_iff_eq] at q4
    have:(x.idx-bU c).toNat=k:=by omega
    rw[this]
    exact ⟨by omega,q3⟩
  ·rw[if_neg h1,arK,amb]
   unfold amY
   constructor
   ·rintro ⟨y,hy,q⟩
    have hys:=iQ hy
    obtain ⟨k,q1,q2,q3,q4⟩:=(am1 hs n y (by omega) (hga y hy)).1 q
    refine ⟨k,q1,q2,q3,?_⟩
    rw[aa4,if_neg h1,amb]
    exact ⟨y,hy,q4⟩
   ·rintro ⟨k,q1,q2,q3,q4⟩
    rw[aa4,if_neg h1,amb] at q4
    obtain ⟨y,hy,q⟩:=q4
    have hys:=iQ hy
    exact ⟨y,hy,(am1 hs n y (by omega) (hga y hy)).2 ⟨k,q1,q2,q3,q⟩⟩
theorem asW {c:bC} {i:Nat} (hs:kQ c) (hg:jV (dx c) (c.sgs.getD i ak).on):p8 c i (c.sgs.getD i ak).on=qN c i:=by
 rw[arX,am1 hs _ _ (acn _) hg]
 unfold qN amY
 rw[amb]
 constructor
 ·rintro ⟨k,q1,q2,q3,q4⟩
  refine ⟨k,aup.2 q1,?_⟩
  unfold acS
  rw[decide_eq_true q2,q3,q4];rfl
 ·rintro ⟨k,q1,q⟩
  unfold acS at q
  rw[aaX,aaX,decide_eq_true_iff] at q
  exact ⟨k,aup.1 q1,q.1,q.2.1,q.2.2⟩
theorem aqs {c:bC} {i:Nat} (hs:kQ c) (h1:kK c (2*c.act.toNat+c.ins.length+i)=0) (h2:¬((c.sgs.getD i ak).kd<0∨3≤(c.sgs.getD i ak).kd)) (h3:bf (c.sgs.getD i ak).on (dx c)=0) :
  aT c i=if (c.sgs.getD i ak).kd=0 then lu c i else if (c.sgs.getD i ak).kd=1 then vJ c i else sZ c i:=by
 have hl:=asW (i:=i) hs (eG.1 h3).2.2
 unfold aT
 rw[if_neg (fun h=>h h1),if_neg h2,if_neg (fun h=>h h3)]
 by_cases k0:(c.sgs.getD i ak).kd=0
 ·rw[if_pos k0,if_neg (fun h=>by omega)]
  unfold lu
  rw[hl]
  by_cases q:qN c i=true
  ·rw[if_pos ⟨k0,q⟩,if_pos q]
  ·rw[if_neg (fun h=>q h.2),if_neg (fun h=>by omega),if_neg q]
   by_cases r:(bK (c.sgs.getD i ak).off=false∨(c.sgs.getD i ak).ini=true)∨¬(c.sgs.getD i ak).dl=0
   ·rw[if_pos r,if_pos]
    rcases r with r | r
    ·exact .inl ⟨by omega,r⟩
    ·exact .inr ⟨by omega,r⟩
   ·rw[if_neg r,if_neg]
    rintro (h | h)
    ·exact r (.inl h.2)
    ·exact r (.inr h.2)
 ·rw[if_neg k0]
  by_cases k1:(c.sgs.getD i ak).kd=1
  ·rw[if_pos k1]
   by_cases q:bf (c.sgs.getD i ak).off (dx c)=0
   ·have hr:vJ c i=if ¬(c.sgs.getD i ak).dl=0 then 3 else 0:=by unfold vJ;rw[if_neg (fun h=>h q)]
    rw[hr,if_neg (fun h=>h.2 q),if_neg (fun h=>k0 h.1),if_neg (fun h=>by omega)]
    by_cases r:(c.sgs.getD i ak).dl=0
    ·rw[if_neg (fun h=>h.elim (fun h=>h.1 k1) fun h=>h.2 r),if_neg (fun h=>h r)]
    ·rw[if_pos (.inr ⟨by omega,r⟩),if_pos r]
   ·have hr:vJ c i=bf (c.sgs.getD i ak).off (dx c):=if_pos q
    rw[hr,if_pos ⟨k1,q⟩]
  ·have k2:(c.sgs.getD i ak).kd=2:=by omega
   rw[if_neg k1,if_neg (fun h=>k1 h.1),if_neg (fun h=>k0 h.1)]
   unfold sZ
   by_cases q:(c.sgs.getD i ak).dl<1∨1000000<(c.sgs.getD i ak).dl
   ·rw[if_pos ⟨k2,q⟩,if_pos q]
   ·rw[if_neg (fun h=>q h.2),if_neg q]
    by_cases r:bK (c.sgs.getD i ak).off=false∨(c.sgs.getD i ak).ini=true
    ·rw[if_pos (.inl ⟨k1,r⟩),if_pos r]
    ·rw[if_neg (fun h=>h.elim (fun h=>r h.2) fun h=>h.1 k2),if_neg r]
end Go.Sx.Pe
namespace Go.Proofs
open Go.Shelf
def Tryz.aii:Go.Shelf.Ren:=⟨fun | 4=>188 | n=>n,fun | 22=>30 | 25=>3 | 3=>3 | 4=>4 | 9=>9 | 20=>20 | 0=>0 | n=>n,fun | n=>n⟩
theorem Tryz.awp : Go.Proofs.Lays8.n4 Tryz.prog Tryz.aii := {
  mixed := by kernel_rfl
  f4 := ⟨Tryz.f188.name, by decide, Tryz.func188.trans (congrArg some (by kernel_rfl))⟩
  t0 := Tryz.underlying0
  a0 := Tryz.isAgg0
  z0 := Tryz.sizeOf0
  v0 := Tryz.zeroValue0
  t3 := Tryz.underlying3
  a3 := Tryz.isAgg3
  z3 := Tryz.sizeOf3
  v3 := Tryz.zeroValue3
  t4 := Tryz.underlying4
  a4 := Tryz.isAgg4
  z4 := Tryz.sizeOf4
  v4 := Tryz.zeroValue4
  t9 := Tryz.underlying9
  a9 := Tryz.isAgg9
  z9 := Tryz.sizeOf9
  v9 := Tryz.zeroValue9
  t20 := Tryz.underlying20
  a20 := Tryz.isAgg20
  z20 := Tryz.sizeOf20
  v20 := Tryz.zeroValue20
  t22 := Tryz.underlying30
  a22 := Tryz.isAgg30
  z22 := Tryz.sizeOf30
  v22 := Tryz.zeroValue30 }
end Go.Proofs
namespace Go.Sx.Pe
open Go Go.Proofs Go.Sx.Pn Go.RowKit Go.Shelf
def awf:tQ:={ A:=Nat,args:=fun n=>[.p false (.val (.slice none 0 0)),iA n],pre:=fun n=>0<n∧n≤1000000,T:=3,vals:=fun _=>[] }
theorem asf:aa2 Tryz.prog 188 awf:=by
 refine ⟨⟨_,Tryz.func188,rfl,rfl⟩,fun (n:Nat) hpre E vs w hh hA=>?_⟩
 obtain ⟨h0,h1⟩:=hpre
 have h0:0<n:=h0
 have h1:n≤1000000:=h1
 obtain ⟨hsz,hA⟩:=hA
 have hsz:vs.size=2:=hsz
 have e0:vs[0]'(by omega)=.slice none 0 0:=by
  have:=hA 0 _ (.p false (.val (.slice none 0 0))) (aco (by omega)) rfl
  generalize vs[0]'(by omega)=v at this
  cases this with
  | p _ _ _ hp=>cases hp;rfl
 have e1:vs[1]'(by omega)=.int .i64 (n:Int):=by
  have:=hA 1 _ (iA n) (aco (by omega)) rfl
  generalize vs[1]'(by omega)=v at this
  cases this with
  | p _ _ _ hp=>cases hp;rfl
 have hvs:vs=#[.slice none 0 0,.int .i64 (n:Int)]:=by
  apply axq
  intro k
  match k with
  | 0=>rw[aco (by omega),e0];rfl
  | 1=>rw[aco (by omega),e1];rfl
  | k+2=>rw[axK (by omega)];simp
 rw[hvs]
 obtain ⟨I,hI,hIs,hIb,z,hz,_,_,hzs⟩:=(iC 3 ⟨.int .i64,1,8,[.int .i64 0]⟩ rfl).info
 have hIs:I.size=1:=hIs
 have hIb:I.bytes=8:=hIb
 have hzs:z.cells.size=1:=hzs
 have hG:=grownCap_ge w (0+n) 0 3
 have hM:=grownCap_le_maxLen w (0+n) 0 3 (by unfold maxLen;omega)
 refine (Any8.slices_Grow_grow (P:=Tryz.prog) (ρ:=Tryz.aii) Tryz.awp I z hI hz (by omega) none 0 0 n [] w (acn _) (by omega) (by rw[hIb];omega) (by omega) (by rw[Nat.zero_mul];rfl) (fun _=>rfl) (fun a h=>by cases h)).mono fun e w' ⟨he,hw⟩=>?_
 subst hw
 have hs:∀T,((w.drew.alloc T).heap)[w.heap.size]?=some T:=fun T=>by
  show (w.heap.push T)[w.heap.size]?=some T
  simp
 refine ⟨_,he,rfl,(Below.drew (Below.refl _ _)).alloc (acn _) _,⟨rfl,.inr ⟨_,_,_,rfl,acn _,hs _,ah8 _,hM,?_,rfl⟩⟩,ah8 _⟩
 rw[Array.size_append,Array.size_append,size_zeroCells,size_zeroCells,hzs]
 show 0+(0+n-0)*1+(grownCap w (0+n) 0 3-(0+n))*1=grownCap w (0+n) 0 3*1
 omega
def auF (a:List Int×List Int):Prop:=0<a.1.length+a.2.length∧a.1.length≤100000∧a.2.length≤100000
theorem ajQ (a b:List Int):∀k,k<0+a.length+b.length→bI (0+a.length) (bI 0 (gu []) (fun k=>[iP (a.getD k 0)])) (fun k=>[iP (b.getD k 0)]) k=[iP ((a++b).getD k 0)]:=by
 intro k hk
 unfold bI
 by_cases h:k<0+a.length
 ·rw[if_pos h,if_neg (aee k),avm]
  show [iP (a.getD k 0)]=_
  rw[aai,aai,alx (by omega)]
 ·rw[if_neg h]
  show [iP (b.getD (k-(0+a.length)) 0)]=_
  rw[ajN,aai,aai,ael (by omega)]
set_option maxHeartbeats 4000000 in
theorem aoM:av Tryz.prog 131 (bq (fun a:List Int×List Int=>[.p false (.seq 2 (aU 1 [fE a.1,fE a.2]))]) auF (fun a=>fE (a.1++a.2))):=by
 refine vI [188] Tryz.func131 ?_
 rintro ⟨a,b⟩ hpre
 obtain ⟨h0,h1,h2⟩:=hpre
 have h0:0<a.length+b.length:=h0
 have h1:a.length≤100000:=h1
 have h2:b.length≤100000:=h2
 have w1:IntKind.i64.wrap (0+(a.length:Int))=(a.length:Int):=by rw[dD (by omega) (by omega)];omega
 have w2:IntKind.i64.wrap (IntKind.i64.wrap (0+(a.length:Int))+(b.length:Int))=((a.length+b.length:Nat):Int):=by rw[w1,dD (by omega) (by omega)];omega
 refine ei (mD.unroll 3) ?_
 refine ai (ai (by decide) (by decide)) ?_
 refine ai rfl ?_
 refine bF (by show decide (IntKind.i64.wrap (0+(a.length:Int))<0)=false;rw[w1,decide_eq_false_iff_not];omega) ?_
 refine ai (ai (by decide) (by decide)) ?_
 refine ai rfl ?_
 refine bF (by show decide (IntKind.i64.wrap (IntKind.i64.wrap (0+(a.length:Int))+(b.length:Int))<0)=false;rw[w2,decide_eq_false_iff_not];omega) ?_
 refine aug asf (a.length+b.length) ⟨h0,by show a.length+b.length≤1000000;omega⟩ (fun v hv=>by cases hv) ?_ rfl ?_
 ·exact (ai rfl (iE (by simp only[zz,reduceCtorEq];omega)))
 refine ei (mD.unroll 3) ?_
 refine ai (ai (by decide) (by decide)) ?_
 refine ai rfl ?_
 refine ai (mxL (n:=0+a.length) (by omega) (by decide)) (ai (fun _ _=>rfl) ?_)
 refine ai (ai (by decide) (by decide)) ?_
 refine ai rfl ?_
 refine ai (mxL (n:=0+a.length+b.length) (by omega) (by decide)) (ai (fun _ _=>rfl) ?_)
 refine ai (ai (fun _ k hk=>?_) ?_) trivial
 ·show iq (bI (0+a.length) (bI 0 (gu []) (fun k=>[iP (a.getD k 0)])) (fun k=>[iP (b.getD k 0)]) k)=true
  rw[ajQ a b k hk];rfl
 refine (ai ?_ ?_)
 ·show 0+a.length+b.length=(a++b).length
  rw[aao,ajN]
 ·exact ajQ a b
end Go.Sx.Pe
namespace Go.Sx.Pe
open Go Go.Proofs Go.Sx.Pn
def gU (c:bC) (n:Nat):List (List UInt8):=(List.range n).map (dZ c)
theorem aaA (c:bC) (n:Nat):(gU c n).length=n:=by unfold gU;rw[aeu,at6]
theorem afB (c:bC) (n:Nat):gU c (n+1)=gU c n++[dZ c n]:=by unfold gU;rw[auQ,anN];rfl
theorem ajU (c:bC) (n:Nat):oQ (gU c n) (dZ c n)=kK c n:=by
 unfold oQ kK gU
 rw[List.any_map]
 rfl
theorem aov {c:bC} {n:Nat} (h:kK c n=0):lS (gU c n) (dZ c n)=gU c (n+1):=by
 unfold lS
 rw[ajU,if_pos h,afB]
theorem asK:∀m,m<12→∀n,n<12→abL m=abL n→m=n:=by decide
theorem aqM {c:bC} (h6:c.act≤6) {n:Nat} (hn:(n:Int)<2*c.act):uZ (gU c n) (strOf (dZ c n))=none:=by
 rw[acZ,ar6]
 intro x hx
 unfold gU at hx
 obtain ⟨k,hk,rfl⟩:=aum.1 hx
 have hk:=aup.1 hk
 have e1:dZ c k=abL k:=if_pos (by omega)
 have e2:dZ c n=abL n:=if_pos hn
 rw[e1,e2]
 intro e
 have:=asK k (by omega) n (by omega) (eq_of_beq e)
 omega
def ctB (c:bC):Ob:=.cells 32 [iA c.act,.p false (xg c.ins),.p false (ard c.sgs),.p false (fE c.pl),.p false (fE c.mi)]
def awX (pre:bC×Int→Prop):Spec:={ A:=bC×Int,args:=fun a=>[iA a.2,.own 0 0],objs:=fun a=>[ctB a.1],pre:=pre,res:=fun a=>bP (kZ a.1 a.2),objs':=fun _=>[],fresh:=true,ro:=1 }
theorem asi:av Tryz.prog 132 (awX fun a=>kQ a.1):=by
 refine vF Tryz.func132 ?_
 rintro ⟨c,x⟩ hpre
 refine bL (x<0) (fun h1=>?_) fun h1=>?_
 ·refine eN (bP (kZ c x)) ?_
  rw[show kZ c x=true by unfold kZ;rw[decide_eq_true h1];rfl]
  exact rfl
 refine cK (aac) (c) (by exact (ai rfl (ai (ai rfl (fun _ _=>rfl)) (ai (ai rfl (fun _ _=>rfl)) (ai (ai rfl (fun _ _=>rfl)) (ai rfl (fun _ _=>rfl))))))) (hpre) ?_
 refine eN (bP (kZ c x)) ?_
 rw[show kZ c x=decide (dx c≤x) by unfold kZ;rw[decide_eq_false h1];rfl]
 exact rfl
def ar5 (res:bC×List Int→PV):Spec:={ A:=bC×List Int,args:=fun a=>[isA a.2,.fn 132 [.own 0 0]],objs:=fun a=>[ctB a.1],pre:=fun a=>kQ a.1∧a.2.length≤1000000,res:=res,objs':=fun _=>[],fresh:=true,ro:=1 }
theorem atI:av Tryz.prog 187 (ar5 fun a=>iP (jv (kZ a.1) a.2)):=by
 refine vF Tryz.func187 ?_
 rintro ⟨c,l⟩ hpre
 obtain ⟨hs,hl⟩:=hpre
 have hl:l.length≤1000000:=hl
 refine fR (l.length) (fun k=>[(8,.s (iA k))]) (fun k=>[]) (fun k=>∀y∈l.take k,kZ c y=false) (by exact (ai (ai (fun _=>rfl) (iE (by omega))) rfl)) (by exact trivial) ?_ ?_
 ·exact fun y hy=>absurd hy (by simp)
 intro (k:Nat) ⟨hk,hall⟩
 refine ah (p:=k<l.length) (aB (by dsimp only;omega)) (fun h1=>?_) (fun h1=>?_)
 ·refine iX (k) (l.length) ?_
  refine ei _ (ai (asi) (ei ((c,l.getD k 0)) (ei [0] (ai (a4 (ai (fun _=>Or.inl rfl) (ai nof (Or.inl rfl)))) (ai (by exact (ai (iE (by simp only[zz,reduceCtorEq])) (ai rfl rfl))) (ai (by exact (ai rfl (ai rfl (ai (ai rfl (fun _ _=>rfl)) (ai (ai rfl (fun _ _=>rfl)) (ai (ai rfl (fun _ _=>rfl)) (ai rfl (fun _ _=>rfl)))))))) (ai (hs) ?_)))))))
  refine aC (b:=kZ c (l.getD k 0)) rfl (fun h2=>?_) (fun h2=>?_)
  ·refine eN (iP (jv (kZ c) l)) ?_
   rw[qV (d:=0) h1 h2 hall]
   exact rfl
  refine nX (k) (ai (ai (fun _=>rfl) (aH (by omega))) rfl) trivial ?_
  intro y hy
  rw[aO 0 h1] at hy
  rcases acw.1 hy with hy | hy
  ·exact hall y hy
  ·simp only[acC] at hy;subst hy;exact h2
 ·obtain rfl:k=l.length:=by omega
  rw[acr] at hall
  refine eN (iP (jv (kZ c) l)) ?_
  rw[tX hall]
  exact rfl
theorem as9:av Tryz.prog 130 (ar5 fun a=>bP (a.2.any (kZ a.1))):=by
 refine vF Tryz.func130 ?_
 rintro ⟨c,l⟩ hpre
 refine ei _ (ai (atI) (ei ((c,l)) (ei [0] (ai (a4 (ai (fun _=>Or.inl rfl) (ai nof (Or.inl rfl)))) (ai (by exact (ai (ai rfl (fun _ _=>rfl)) (ai rfl (ai rfl rfl)))) (ai (by exact (ai rfl (ai rfl (ai (ai rfl (fun _ _=>rfl)) (ai (ai rfl (fun _ _=>rfl)) (ai (ai rfl (fun _ _=>rfl)) (ai rfl (fun _ _=>rfl)))))))) (ai (hpre) ?_)))))))
 refine eN (bP (l.any (kZ c))) ?_
 rw[(qD (kZ c) l).symm]
 exact rfl
theorem adN:av Tryz.prog 32 (bq (fun c:bC=>[rQ c]) agX (fun c=>iP (bH c))):=by
 refine vI [70,129,4000103,6000047] Tryz.func32 ?_
 rintro (c:bC) hpre
 obtain ⟨ho,⟨h3,h4⟩,hn⟩:=hpre
 have h3:c.ins.length≤1000000:=h3
 have h4:c.sgs.length≤1000000:=h4
 refine qo mixed iC Tryz.func70 rfl rfl ?_
 refine ai rfl ?_
 refine bL (c.act<1) (fun g1=>?_) fun g1=>?_
 ·have e:bH c=2:=by unfold bH;rw[if_pos (.inl g1)]
  refine eN (iP (bH c)) ?_
  rw[e]
  exact rfl
 refine bL (6<c.act) (fun g2=>?_) fun g2=>?_
 ·have e:bH c=2:=by unfold bH;rw[if_pos (.inr g2)]
  refine eN (iP (bH c)) ?_
  rw[e]
  exact rfl
 have n1:¬(c.act<1∨6<c.act):=fun h=>h.elim g1 g2
 refine bL (16<c.ins.length) (fun g3=>?_) fun g3=>?_
 ·have e:bH c=5:=by unfold bH;rw[if_neg n1,if_pos (.inl g3)]
  refine eN (iP (bH c)) ?_
  rw[e]
  exact rfl
 refine bL (64<c.sgs.length) (fun g4=>?_) fun g4=>?_
 ·have e:bH c=5:=by unfold bH;rw[if_neg n1,if_pos (.inr g4)]
  refine eN (iP (bH c)) ?_
  rw[e]
  exact rfl
 have n2:¬(16<c.ins.length∨64<c.sgs.length):=fun h=>h.elim g3 g4
 have hs0:kQ c:=⟨⟨by omega,by omega⟩,h3,h4⟩
 have hgd:aby c:=⟨⟨hs0,by omega⟩,ho,hn⟩
 have hlN:dx c=2*c.act+c.ins.length+c.sgs.length:=rfl
 have hw2:IntKind.i64.wrap (2*c.act)=2*c.act:=dD (by omega) (by omega)
 refine fR (2*c.act.toNat) (fun n=>[(46,.s (iA n))]) (fun n=>[⟨2,0,[.ob (akl (gU c n))]⟩]) (fun n=>True) ?_ ?_ ?_ ?_
 ·exact (ai (ai (fun _=>rfl) (iE (by omega))) rfl)
 ·refine (ai (ai rfl (ai rfl ?_)) trivial)
  exact fun k=>by cases k<;>rfl
 ·trivial
 intro (n:Nat) ⟨hnn,_⟩
 have hnl:=aaA c n
 refine ah (p:=n<2*c.act.toNat) (by exact aB (by rw[hw2];omega)) (fun g5=>?_) (fun g5=>?_)
 ·refine dR (.seq [0,1,2,3,4,5,7,6,8]) ?_
  have hF:=aqM (c:=c) (n:=n) (by omega) (by omega)
  have hN:oN (gU c n) (.str (strOf (dZ c n)))=none:=by show (uZ (gU c n) (strOf (dZ c n))).map _=none;rw[hF];rfl
  refine cK (apf) ((c,n)) (by exact (ai (ai rfl (ai (ai rfl (fun _ _=>rfl)) (ai (ai rfl (fun _ _=>rfl)) (ai (ai rfl (fun _ _=>rfl)) (ai rfl (fun _ _=>rfl)))))) rfl)) (⟨hs0,by show c.act≤6;omega,by show (n:Int)<dx c;omega⟩) ?_
  refine ai rfl (ei ((gU c n).length+1) (ai (ai (fun _=>rfl) (fun d h=>absurd (hN.symm.trans h) (by simp))) ?_))
  refine nX (n) (ai (ai (fun _=>rfl) (aH (by omega))) rfl) (ai (ai rfl (ai ?_ ?_)) trivial) trivial
  ·rw[hnl,aaA]
  ·intro q
   have:=aj9 hF q
   rw[hnl] at this
   rw[afB];exact this
 have hA:n=2*c.act.toNat:=by omega
 clear hnl g5
 refine fR (c.ins.length) (fun k=>[(61,.s (iA k))]) (fun k=>[⟨2,0,[.ob (akl (gU c (2*c.act.toNat+k)))]⟩]) (fun k=>∀j,j<k→kK c (2*c.act.toNat+j)=0) ?_ ?_ ?_ ?_
 ·exact (ai (ai (fun _=>rfl) (iE (by omega))) rfl)
 ·refine (ai (ai rfl (ai ?_ ?_)) trivial)
  ·rw[hA];rfl
  ·rw[hA];exact fun _=>rfl
 ·exact fun j hj=>absurd hj (aee _)
 intro (k:Nat) ⟨hk,hall⟩
 have hnl:=aaA c (2*c.act.toNat+k)
 refine bL (k<c.ins.length) (fun g5=>?_) fun g5=>?_
 ·refine iX (k) (c.ins.length) ?_
  have eI:dZ c (2*c.act.toNat+k)=c.ins.getD k []:=by
   unfold dZ bU
   rw[if_neg (by omega),if_pos (by omega),avL]
  have hr:oQ (gU c (2*c.act.toNat+k)) (c.ins.getD k [])=kK c (2*c.act.toNat+k):=by rw[←eI];exact ajU c _
  refine ei _ (ai (aja) (ei ((gU c (2*c.act.toNat+k),c.ins.getD k [])) (ei [3,2] (ai (ai rfl (ai rfl (ai rfl (ai rfl (ai nof (ai nof (Or.inl rfl))))))) (ai (by exact (ai (ai rfl rfl) rfl)) (ai (by exact (ai (ai rfl (ai trivial (ai trivial (ai trivial (ai trivial (ai trivial (ai rfl (ai trivial (ai trivial trivial))))))))) (ai rfl (ai rfl (fun _=>rfl))))) (ai (⟨hn.1 _ (aay (bB [] g5)),by show (gU c (2*c.act.toNat+k)).length≤1000000;omega⟩) ?_)))))))
  refine aW (p:=kK c (2*c.act.toNat+k)=0) (by exact bR (by rw[←hr])) (fun g6=>?_) (fun g6=>?_)
  ·have e1:=dJ (f:=fun i=>kK c (2*c.act.toNat+i)) g5 hall g6
   have e:bH c=oQ (gU c (2*c.act.toNat+k)) (c.ins.getD k []):=by
    unfold bH
    rw[if_neg n1,if_neg n2,if_pos (show ¬dw (fun i=>kK c (2*c.act.toNat+i)) c.ins.length=0 by rw[e1];exact g6),e1,hr]
   refine eN (iP (bH c)) ?_
   rw[e]
   exact rfl
  have hL:lS (gU c (2*c.act.toNat+k)) (c.ins.getD k [])=gU c (2*c.act.toNat+(k+1)):=by rw[←eI];exact aov g6
  refine nX (k) (ai (ai (fun _=>rfl) (aH (by omega))) rfl) (ai (ai rfl (ai ?_ ?_)) trivial) ?_
  ·rw[hL]
  ·rw[hL];exact fun _=>rfl
  intro j hj
  by_cases e:j=k
  ·rw[e];exact g6
  ·exact hall j (by omega)
 have hK:k=c.ins.length:=by omega
 have n3:¬¬dw (fun i=>kK c (2*c.act.toNat+i)) c.ins.length=0:=fun h=>h (gK (by rw[←hK];exact hall))
 clear hnl g5
 refine fR (c.sgs.length) (fun i=>[(75,.s (iA i))]) (fun i=>[⟨2,0,[.ob (akl (gU c (2*c.act.toNat+c.ins.length+i)))]⟩]) (fun i=>∀j,j<i→aT c j=0) ?_ ?_ ?_ ?_
 ·exact (ai (ai (fun _=>rfl) (iE (by omega))) rfl)
 ·refine (ai (ai rfl (ai ?_ ?_)) trivial)
  ·rw[hK];rfl
  ·rw[hK];exact fun _=>rfl
 ·exact fun j hj=>absurd hj (aee _)
 intro (i:Nat) ⟨hi,hall2⟩
 have hnl:=aaA c (2*c.act.toNat+c.ins.length+i)
 refine bL (i<c.sgs.length) (fun g5=>?_) fun g5=>?_
 ·have hm:=aay (bB ak g5)
  have eI:dZ c (2*c.act.toNat+c.ins.length+i)=(c.sgs.getD i ak).nm:=by
   unfold dZ bU
   rw[if_neg (by omega),if_neg (by omega),show 2*c.act.toNat+c.ins.length+i-2*c.act.toNat-c.ins.length=i by omega]
  have hr:oQ (gU c (2*c.act.toNat+c.ins.length+i)) (c.sgs.getD i ak).nm=kK c (2*c.act.toNat+c.ins.length+i):=by rw[←eI];exact ajU c _
  have hE:¬aT c i=0→bH c=aT c i:=fun h=>by
   have e1:=dJ (f:=aT c) g5 hall2 h
   unfold bH
   rw[if_neg n1,if_neg n2,if_neg n3,if_pos (show ¬dw (aT c) c.sgs.length=0 by rw[e1];exact h),e1]
  have hso:=ho.1 _ hm
  refine qo mixed iC Tryz.func129 rfl rfl ?_
  refine ai rfl ?_
  refine iX (i) (c.sgs.length) ?_
  refine ei _ (ai (aja) (ei ((gU c (2*c.act.toNat+c.ins.length+i),(c.sgs.getD i ak).nm)) (ei [3,2] (ai (ai rfl (ai rfl (ai rfl (ai rfl (ai nof (ai nof (Or.inl rfl))))))) (ai (by exact (ai (ai rfl rfl) rfl)) (ai (by exact (ai (ai rfl (ai trivial (ai trivial (ai trivial (ai trivial (ai trivial (ai rfl (ai trivial (ai trivial trivial))))))))) (ai rfl (ai rfl (fun _=>rfl))))) (ai (⟨hn.2 _ hm,by show (gU c (2*c.act.toNat+c.ins.length+i)).length≤1000000;omega⟩) ?_)))))))
  refine aW (p:=kK c (2*c.act.toNat+c.ins.length+i)=0) (by exact bR (by rw[←hr])) (fun m1=>?_) (fun m1=>?_)
  ·have s1:aT c i=oQ (gU c (2*c.act.toNat+c.ins.length+i)) (c.sgs.getD i ak).nm:=by unfold aT;rw[if_pos m1,hr]
   refine bT (by exact bR (p:=True) (by rw[hr];exact ⟨fun _=>trivial,fun _=>m1⟩) |>.2 trivial) ?_
   have e:bH c=oQ (gU c (2*c.act.toNat+c.ins.length+i)) (c.sgs.getD i ak).nm:=by rw[hE (by rw[s1,hr];exact m1),s1]
   refine eN (iP (bH c)) ?_
   rw[e]
   exact rfl
  have m1:kK c (2*c.act.toNat+c.ins.length+i)=0:=m1
  have hnL:lS (gU c (2*c.act.toNat+c.ins.length+i)) (c.sgs.getD i ak).nm=gU c (2*c.act.toNat+c.ins.length+(i+1)):=by rw[←eI];exact aov m1
  refine ah (p:=(c.sgs.getD i ak).kd<0) (aB Iff.rfl) (fun m2=>?_) (fun m2=>?_)
  ·have s1:aT c i=1:=by unfold aT;rw[if_neg (fun h=>h m1),if_pos (.inl m2)]
   have e:bH c=1:=by rw[hE (by rw[s1];decide),s1]
   refine eN (iP (bH c)) ?_
   rw[e]
   exact rfl
  refine ah (p:=3≤(c.sgs.getD i ak).kd) (fV Iff.rfl) (fun m3=>?_) (fun m3=>?_)
  ·have s1:aT c i=1:=by unfold aT;rw[if_neg (fun h=>h m1),if_pos (.inr m3)]
   have e:bH c=1:=by rw[hE (by rw[s1];decide),s1]
   refine eN (iP (bH c)) ?_
   rw[e]
   exact rfl
  have m23:¬((c.sgs.getD i ak).kd<0∨3≤(c.sgs.getD i ak).kd):=fun h=>h.elim m2 m3
  refine dR (.seq [0,1,2,3,4,5,6,7,8]) ?_
  refine cK (aac) (c) (by exact (ai rfl (ai (ai rfl (fun _ _=>rfl)) (ai (ai rfl (fun _ _=>rfl)) (ai (ai rfl (fun _ _=>rfl)) (ai rfl (fun _ _=>rfl))))))) (hs0) ?_
  refine cK (qz) (((c.sgs.getD i ak).on,dx c)) (by exact (ai (ai (iE (by simp only[zz,reduceCtorEq])) (ai (iE (by simp only[zz,reduceCtorEq])) (ai rfl (fun _ _=>rfl)))) rfl)) (hso.1) ?_
  refine aW (p:=bf (c.sgs.getD i ak).on (dx c)=0) (bR (by dsimp only;omega)) (fun m4=>?_) (fun m4=>?_)
  ·have s1:aT c i=bf (c.sgs.getD i ak).on (dx c):=by unfold aT;rw[if_neg (fun h=>h m1),if_neg m23,if_pos m4]
   refine bT (by exact bR (p:=True) ⟨fun _=>trivial,fun _=>m4⟩ |>.2 trivial) ?_
   have e:bH c=bf (c.sgs.getD i ak).on (dx c):=by rw[hE (by rw[s1];exact m4),s1]
   refine eN (iP (bH c)) ?_
   rw[e]
   exact rfl
  have hsk:=aqs hs0 m1 m23 m4
  have hgo:=(eG.1 m4).2.2
  rcases (show (c.sgs.getD i ak).kd=0∨(c.sgs.getD i ak).kd=1∨(c.sgs.getD i ak).kd=2 by omega) with hk0 | hk0 | hk0
  ·refine dR (.one 0 (.one 1 (.one 2 (.one 3 (.one 4 (.one 5 (.one 6 (.one 7 (.wr 8 (.one 9 .done)))))))))) ?_
   refine ai (ai (by show (0:Int)≤(c.sgs.getD i ak).kd;omega) (by show (c.sgs.getD i ak).kd<((3:Nat):Int);omega)) (ei 0 (ai hk0 ?_))
   refine ei _ (ai (atn) (ei ((c,i)) (ei [3] (ai (a4 (ai (fun _=>Or.inl rfl) (ai nof (Or.inl rfl)))) (ai (by exact (ai (ai rfl rfl) rfl)) (ai (by exact (ai rfl (ai rfl (ai (ai rfl (fun _ _=>rfl)) (ai (ai rfl (fun _ _=>rfl)) (ai (ai rfl (fun _ _=>rfl)) (ai (ai rfl (fun _ _=>rfl)) (ai trivial (ai trivial (ai trivial trivial)))))))))) (ai (⟨hgd,g5,hgo⟩) ?_)))))))
   have s1:aT c i=lu c i:=by rw[hsk];exact if_pos hk0
   refine aW (p:=aT c i=0) (by exact bR (by rw[s1])) (fun g6=>?_) (fun g6=>?_)
   ·have e:bH c=lu c i:=by rw[hE g6,s1]
    refine eN (iP (bH c)) ?_
    rw[e]
    exact rfl
   refine nX (i) (ai (ai (fun _=>rfl) (aH (by omega))) rfl) (ai (ai rfl (ai ?_ ?_)) trivial) ?_
   ·rw[hnL]
   ·rw[hnL];exact fun _=>rfl
   intro j hj
   by_cases e:j=i
   ·rw[e];exact g6
   ·exact hall2 j (by omega)
  ·refine dR (.one 0 (.one 1 (.one 2 (.one 3 (.one 4 (.one 5 (.one 6 (.one 7 (.wr 8 (.one 9 .done)))))))))) ?_
   refine ai (ai (by show (0:Int)≤(c.sgs.getD i ak).kd;omega) (by show (c.sgs.getD i ak).kd<((3:Nat):Int);omega)) (ei 1 (ai hk0 ?_))
   refine ei _ (ai (an0) (ei ((c,i)) (ei [3] (ai (a4 (ai (fun _=>Or.inl rfl) (ai nof (Or.inl rfl)))) (ai (by exact (ai (ai rfl rfl) rfl)) (ai (by exact (ai rfl (ai rfl (ai (ai rfl (fun _ _=>rfl)) (ai (ai rfl (fun _ _=>rfl)) (ai (ai rfl (fun _ _=>rfl)) (ai (ai rfl (fun _ _=>rfl)) (ai trivial (ai trivial (ai trivial trivial)))))))))) (ai (⟨hgd,g5⟩) ?_)))))))
   have s1:aT c i=vJ c i:=by rw[hsk];rw[if_neg (by omega),if_pos hk0]
   refine aW (p:=aT c i=0) (by exact bR (by rw[s1])) (fun g6=>?_) (fun g6=>?_)
   ·have e:bH c=vJ c i:=by rw[hE g6,s1]
    refine eN (iP (bH c)) ?_
    rw[e]
    exact rfl
   refine nX (i) (ai (ai (fun _=>rfl) (aH (by omega))) rfl) (ai (ai rfl (ai ?_ ?_)) trivial) ?_
   ·rw[hnL]
   ·rw[hnL];exact fun _=>rfl
   intro j hj
   by_cases e:j=i
   ·rw[e];exact g6
   ·exact hall2 j (by omega)
  ·refine dR (.one 0 (.one 1 (.one 2 (.one 3 (.one 4 (.one 5 (.one 6 (.one 7 (.wr 8 (.one 9 .done)))))))))) ?_
   refine ai (ai (by show (0:Int)≤(c.sgs.getD i ak).kd;omega) (by show (c.sgs.getD i ak).kd<((3:Nat):Int);omega)) (ei 2 (ai hk0 ?_))
   refine ei _ (ai (aqD) (ei ((c,i)) (ei [3] (ai (a4 (ai (fun _=>Or.inl rfl) (ai nof (Or.inl rfl)))) (ai (by exact (ai (ai rfl rfl) rfl)) (ai (by exact (ai rfl (ai rfl (ai (ai rfl (fun _ _=>rfl)) (ai (ai rfl (fun _ _=>rfl)) (ai (ai rfl (fun _ _=>rfl)) (ai (ai rfl (fun _ _=>rfl)) (ai trivial (ai trivial (ai trivial trivial)))))))))) (ai (⟨g5,by show c.sgs.length≤1000000;omega⟩) ?_)))))))
   have s1:aT c i=sZ c i:=by rw[hsk];rw[if_neg (by omega),if_neg (by omega)]
   refine aW (p:=aT c i=0) (by exact bR (by rw[s1])) (fun g6=>?_) (fun g6=>?_)
   ·have e:bH c=sZ c i:=by rw[hE g6,s1]
    refine eN (iP (bH c)) ?_
    rw[e]
    exact rfl
   refine nX (i) (ai (ai (fun _=>rfl) (aH (by omega))) rfl) (ai (ai rfl (ai ?_ ?_)) trivial) ?_
   ·rw[hnL]
   ·rw[hnL];exact fun _=>rfl
   intro j hj
   by_cases e:j=i
   ·rw[e];exact g6
   ·exact hall2 j (by omega)
 have hI:i=c.sgs.length:=by omega
 have n4:¬¬dw (aT c) c.sgs.length=0:=fun h=>h (gK (by rw[←hI];exact hall2))
 have hC:bH c=nS c:=by unfold bH;rw[if_neg n1,if_neg n2,if_neg n3,if_neg n4]
 clear hnl g5
 refine bN ((c.pl.length:Int)=c.act) (fun p1=>?_) fun p1=>?_
 ·have e:bH c=8:=by rw[hC];unfold nS;rw[if_pos (fun h=>p1 h.1)]
  refine eN (iP (bH c)) ?_
  rw[e]
  exact rfl
 refine bN ((c.mi.length:Int)=c.act) (fun p2=>?_) fun p2=>?_
 ·have e:bH c=8:=by rw[hC];unfold nS;rw[if_pos (fun h=>p2 h.2)]
  refine eN (iP (bH c)) ?_
  rw[e]
  exact rfl
 refine cK (aoM) ((c.pl,c.mi)) (by exact (ai rfl (fun _ _=>rfl))) (⟨by show 0<c.pl.length+c.mi.length;omega,by show c.pl.length≤100000;omega,by show c.mi.length≤100000;omega⟩) ?_
 refine ei _ (ai (as9) (ei ((c,c.pl++c.mi)) (ei [1] (ai (a4 (ai (fun _=>Or.inl rfl) (ai nof (Or.inl rfl)))) (ai (by exact (ai (ai rfl (fun _ _=>rfl)) (ai rfl (ai rfl rfl)))) (ai (by exact (ai rfl (ai rfl (ai (ai rfl (fun _ _=>rfl)) (ai (ai rfl (fun _ _=>rfl)) (ai (ai rfl (fun _ _=>rfl)) (ai rfl (fun _ _=>rfl)))))))) (ai (⟨hs0,by show (c.pl++c.mi).length≤1000000;rw[aao];omega⟩) ?_)))))))
 have ho2:(c.pl++c.mi).any (kZ c)=(abw c c.pl||abw c c.mi):=axW
 refine aC (b:=(c.pl++c.mi).any (kZ c)) rfl (fun p3=>?_) (fun p3=>?_)
 ·have e:bH c=6:=by rw[hC];unfold nS;rw[if_neg (fun h=>h ⟨p1,p2⟩),if_pos (by rw[←ho2];exact p3)]
  refine eN (iP (bH c)) ?_
  rw[e]
  exact rfl
 have e:bH c=0:=by rw[hC];unfold nS;rw[if_neg (fun h=>h ⟨p1,p2⟩),if_neg (by rw[←ho2,p3];decide)]
 refine eN (iP (bH c)) ?_
 rw[e]
 exact rfl
theorem ahL:av Tryz.prog 75 (bq (fun a:bC×eZ=>[rQ a.1,yR a.2]) (fun a=>agX a.1∧afj a.2) (fun a=>iP (uj a.1 a.2))):=by
 refine vF Tryz.func75 ?_
 rintro ⟨c,s⟩ hpre
 obtain ⟨hc,hs⟩:=hpre
 refine cK (adN) (c) (by exact (ai rfl (ai (ai rfl (fun _ _=>rfl)) (ai (ai rfl (fun _ _=>rfl)) (ai (ai rfl (fun _ _=>rfl)) (ai rfl (fun _ _=>rfl))))))) (hc) ?_
 refine bN (bH c=0) (fun h1=>?_) fun h1=>?_
 ·refine eN (iP (uj c s)) ?_
  rw[uj,if_pos h1]
  exact rfl
 refine cK (aqh) ((c,s)) (by exact (ai (ai rfl (ai (ai rfl (fun _ _=>rfl)) (ai (ai rfl (fun _ _=>rfl)) (ai (ai rfl (fun _ _=>rfl)) (ai rfl (fun _ _=>rfl)))))) (ai (ai rfl (fun _ _=>rfl)) (ai (ai rfl (fun _ _=>rfl)) (ai (ai rfl (fun _ _=>rfl)) (ai (ai rfl (fun _ _=>rfl)) (ai rfl (fun _ _=>rfl)))))))) (hs) ?_
 refine eN (iP (uj c s)) ?_
 rw[uj,if_neg (fun h=>h h1)]
 exact rfl
theorem ahj {c:bC} {s:eZ} (h:uj c s=0):bH c=0∧sU c s:=by
 unfold uj at h
 split at h
 ·rename_i h1;exact absurd h h1
 rename_i h1
 refine ⟨aku.1 h1,?_⟩
 unfold mJ at h
 split at h
 ·cases h
 ·rename_i h2;exact aku.1 h2
theorem adr {c:bC} {s:eZ} (h:sU c s):((fC s).length:Int)=dx c:=by
 obtain ⟨h1,h2,h3,h4,h5⟩:=h
 unfold fC dx
 rw[aao,aao,wC]
 omega
def avE (a:bC×eZ×Nat):Prop:=agX a.1∧afj a.2.1∧adZ a.2.1∧uj a.1 a.2.1=0∧(a.2.2:Int)<dx a.1
theorem acW {c:bC} (h:bH c=0):(1≤c.act∧c.act≤6)∧c.ins.length≤16∧c.sgs.length≤64:=by
 unfold bH at h
 split at h
 ·cases h
 split at h
 ·cases h
 omega
theorem ajM {c:bC} (h:bH c=0):kQ c:=by
 have:=acW h
 exact ⟨⟨by omega,by omega⟩,by omega,by omega⟩
theorem apM:av Tryz.prog 40 (bq (fun a:bC×eZ×Nat=>[rQ a.1,yR a.2.1,iA a.2.2]) avE (fun a=>.tup [bP ((fC a.2.1).getD a.2.2 false),iP 0])):=by
 refine vF Tryz.func40 ?_
 rintro ⟨c,s,n⟩ hpre
 obtain ⟨hc,hs,hm,hr,hn⟩:=hpre
 have hr:uj c s=0:=hr
 have hn:(n:Int)<dx c:=hn
 obtain ⟨h0,hsh⟩:=ahj hr
 have hl:=adr hsh
 refine cK (ahL) ((c,s)) (by exact (ai (ai rfl (ai (ai rfl (fun _ _=>rfl)) (ai (ai rfl (fun _ _=>rfl)) (ai (ai rfl (fun _ _=>rfl)) (ai rfl (fun _ _=>rfl)))))) (ai (ai rfl (fun _ _=>rfl)) (ai (ai rfl (fun _ _=>rfl)) (ai (ai rfl (fun _ _=>rfl)) (ai (ai rfl (fun _ _=>rfl)) (ai rfl (fun _ _=>rfl)))))))) (⟨hc,hs⟩) ?_
 refine aW (p:=uj c s=0) (bR (by dsimp only;omega)) (fun h1=>?_) (fun h1=>?_)
 ·exact absurd hr h1
 refine cK (aac) (c) (by exact (ai rfl (ai (ai rfl (fun _ _=>rfl)) (ai (ai rfl (fun _ _=>rfl)) (ai (ai rfl (fun _ _=>rfl)) (ai rfl (fun _ _=>rfl))))))) (ajM h0) ?_
 refine ah (p:=dx c≤(n:Int)) (fV Iff.rfl) (fun h3=>?_) (fun h3=>?_)
 ·omega
 refine cK (anc) (s) (by exact (ai (ai rfl (fun _ _=>rfl)) (ai (ai rfl (fun _ _=>rfl)) (ai (ai rfl (fun _ _=>rfl)) (ai (ai rfl (fun _ _=>rfl)) (ai rfl (fun _ _=>rfl))))))) (hm) ?_
 refine iX (n) ((fC s).length) ?_
 refine eN _ ?_
 exact (ai rfl rfl)
theorem ab7 {m:Nat}:∀{l:List Ex},(∀x∈l,x.size≤m)→sizes l≤m*l.length
 | [],_=>by rw[sizes];simp
 | x :: l,h=>by
  have h1:=h x (auK ..)
  have h2:=ab7 fun y hy=>h y (arU _ hy)
  rw[sizes,aog,Nat.mul_add];omega
theorem atF {n:Nat} (hn:n≤24) {l:List Int} (h:jF n l=0):l.length≤24:=by
 unfold jF at h
 split at h
 ·cases h
 ·have hp:=pJ h
  have key:∀k,k<l.length→(k:Int)≤l.getD k 0∧l.getD k 0<(n:Int):=by
   intro k
   induction k with
   | zero=>
    intro hk
    have:=hp 0 hk
    unfold qh at this
    split at this
    ·cases this
    ·omega
   | succ k ih=>
    intro hk
    have h1:=ih (by omega)
    have:=hp (k+1) hk
    unfold qh at this
    split at this
    ·cases this
    ·split at this
     ·cases this
     ·rename_i h2 h3
      rw[Nat.add_sub_cancel] at h3
      omega
  rcases ar9 l.length with h0 | h0
  ·omega
  ·have:=key (l.length-1) (by omega)
   omega
theorem avs {c:aA} (h:kL c) {i:Nat} (hi:i<c.trs.length):(eH c i).length≤24:=by
 obtain ⟨_,_,h3,_,_,h6⟩:=lY h.1
 have h:=h6 i hi
 unfold kE at h
 split at h
 ·rename_i h1;exact absurd h h1
 rename_i h1
 exact atF h3.2 (aku.1 h1)
theorem aib (x:Ex):(mE x).size=x.size+1:=by show (Ex.node 2 0 [x]).size=_;rw[Ex.size,sizes,sizes]
theorem atY {c:aA} (h:kL c) {i:Nat} (hi:i<c.trs.length):(dz (relE c) (rE c i)).size≤768:=by
 obtain ⟨_,_,h3⟩:=rO h.1 hi
 obtain ⟨_,⟨hs,_⟩,_⟩:=eG.1 h3
 have hs:(rE c i).size≤256:=hs
 have:=adn (fun y hy=>(abW h y hy).2) (rE c i)
 omega
theorem an9 {c:aA} (h:kL c) {i:Nat} (hi:i<c.trs.length):(mI c i).size≤1000:=by
 obtain ⟨_,_,hs24,ht32⟩:=dY h
 have h1:=avs h hi
 have h2:=atY h hi
 have h3:=ab1 c i i
 have h4:sizes (pz c i (eH c i).length)≤1*(pz c i (eH c i).length).length:=ab7 fun x hx=>by
  unfold pz at hx
  obtain ⟨f,_,rfl⟩:=aum.1 hx
  rw[jK];omega
 have h5:∀k,∀x∈ab5 c i k,x.size≤2:=by
  intro k
  induction k with
  | zero=>intro x hx;cases hx
  | succ k ih=>
   intro x hx
   rw[ab5] at hx
   split at hx
   ·rcases acw.1 hx with hx | hx
    ·exact ih x hx
    ·simp only[acC] at hx;subst hx;rw[aib,jK];omega
   ·exact ih x hx
 have h6:=ab7 (h5 i)
 rw[vD (acn _)] at h4
 show (Ex.node 3 0 (jW c i i)).size≤1000
 rw[Ex.size]
 unfold jW ajt
 rw[qA,qA,sizes,sizes]
 omega
theorem abH (l:List Int):(aF l).size≤l.length+1:=by
 unfold aF
 split
 ·rw[Ex.size,sizes];omega
 ·split
  ·rw[jK];omega
  ·rw[Ex.size]
   have:=ab7 (m:=1) (l:=l.map fG) fun x hx=>by
    obtain ⟨f,_,rfl⟩:=aum.1 hx
    rw[jK];omega
   rw[aeu] at this
   omega
theorem ahe:zX.size=1:=by show (Ex.node 0 0 []).size=1;rw[Ex.size,sizes]
def ag5 (x:oP):Prop:=x.on.size≤1000∧x.off.size≤1000∧x.nm.length≤10
theorem apR {c:aA} (h:kL c):∀x∈(gF c).sgs,ag5 x:=by
 obtain ⟨_,_,hs24,ht32⟩:=dY h
 have hon:∀k,(bO c k).length≤32:=fun k=>ajf (lq c _ _ _) ht32
 have hof:∀k,(cO c k).length≤32:=fun k=>ajf (lq c _ _ _) ht32
 have hac:∀x,(dO c x c.sts.length).length≤24:=fun x=>ajf (sQ c x _) hs24
 have hd:∀k,k<1000→(dec k).length≤3:=acP
 have hM:∀x∈eY c c.sts.length,ag5 x:=fun x hx=>by
  unfold eY at hx
  obtain ⟨k,hk,rfl⟩:=aum.1 hx
  have hk:=aup.1 hk
  have h1:=abH (bO c k)
  have h2:=abH (cO c k)
  have h3:=hon k
  have h4:=hof k
  have h5:=hd k (by omega)
  refine ⟨by show (aF (bO c k)).size≤1000;omega,?_,by show (dec k).length+1≤10;omega⟩
  show (p9 c k).size≤1000
  unfold p9
  split
  ·rw[acR,aib];omega
  ·omega
 have hT:∀k,k≤c.sts.length→∀x∈dn c k,ag5 x:=by
  intro k
  induction k with
  | zero=>exact fun _=>hM
  | succ k ih=>
   intro hk x hx
   rw[dn] at hx
   split at hx
   ·rcases acw.1 hx with hx | hx
    ·exact ih (by omega) x hx
    ·simp only[acC] at hx;subst hx
     have h5:=hd k (by omega)
     exact ⟨by show (fG _).size≤1000;rw[jK];omega,by show zX.size≤1000;rw[ahe];omega,by show (dec k).length+1≤10;omega⟩
   ·exact ih (by omega) x hx
 have hG:∀x∈fP c c.trs.length,ag5 x:=fun x hx=>by
  unfold fP at hx
  rcases acw.1 hx with hx | hx
  ·exact hT _ (acn _) x hx
  ·obtain ⟨k,hk,rfl⟩:=aum.1 hx
   have hk:=aup.1 hk
   have h5:=hd k (by omega)
   exact ⟨an9 h hk,by show zX.size≤1000;rw[ahe];omega,by show (dec k).length+1≤10;omega⟩
 have hP:∀a x o,x=oH c a o→ag5 x:=fun a x o hx=>by
  subst hx
  have h1:=abH (dO c ((a:Int),o) c.sts.length)
  have h2:=hac ((a:Int),o)
  exact ⟨by show (aF (dO c ((a:Int),o) c.sts.length)).size≤1000;omega,by show zX.size≤1000;rw[ahe];omega,by show 2≤10;omega⟩
 have hA:∀a,∀x∈aX c a,ag5 x:=by
  intro a
  induction a with
  | zero=>exact hG
  | succ a ih=>
   intro x hx
   rw[aX] at hx
   rcases acw.1 hx with hx | hx
   ·rcases acw.1 hx with hx | hx
    ·exact ih x hx
    ·simp only[acC] at hx;exact hP a x true hx
   ·simp only[acC] at hx;exact hP a x false hx
 exact hA _
theorem as7 {c:aA} (h:kL c):∀x∈c.ins,x.length≤1000000:=fun x hx=>by
 obtain ⟨_,h2,_⟩:=lY h.1
 unfold fq at h2
 split at h2
 ·cases h2
 obtain ⟨k,hk,rfl⟩:=aoG hx
 have h3:=pJ h2 k hk
 unfold xk at h3
 split at h3
 ·rename_i h4;exact absurd h3 h4
 rename_i h4
 have h4:fA (c.ins.getD k [])=0:=aku.1 h4
 rw[show c.ins.getD k []=c.ins[k] by rw[aai,aau hk];rfl] at h4
 unfold fA at h4
 split at h4
 ·cases h4
 ·omega
theorem aa9 {c:aA} (h:kL c):agX (gF c):=by
 obtain ⟨⟨ha1,ha6⟩,hi16,hs24,ht32⟩:=dY h
 have hs:=apR h
 have hp:=jB c c.act.toNat
 have hg:=jC c c.trs.length
 have ht:=lD c c.sts.length
 refine ⟨⟨fun x hx=>⟨by have:=(hs x hx).1;omega,by have:=(hs x hx).2.1;omega⟩,?_,?_⟩,⟨?_,?_⟩,as7 h,fun x hx=>by have:=(hs x hx).2.2;omega⟩
 ·show (eP c c.act.toNat).length≤1000000
  rw[kX];omega
 ·show (jR c c.act.toNat).length≤1000000
  rw[oF];omega
 ·show c.ins.length≤1000000
  omega
 ·show (aX c c.act.toNat).length≤1000000
  omega
theorem akL (c:aA):∀a,∃t,aX c a=fP c c.trs.length++t
 | 0=>⟨[],(ape _).symm⟩
 | a+1=>by
  obtain ⟨t,ht⟩:=akL c a
  exact ⟨(t++[oH c a true])++[oH c a false],by rw[aX,ht,auY,auY,auY]⟩
theorem aoI {α:Type} {l m:List α} {k:Nat} {d:α} (h:k<l.length):(l++m).getD k d=l.getD k d:=by
 rw[aai,aai,alx h]
theorem afW {α:Type} {l m:List α} {k n:Nat} {d:α} (h:l.length=n):(l++m).getD (n+k) d=m.getD k d:=by
 rw[aai,aai,ael (by omega),h,avL]
theorem afH {α:Type} {f:Nat→α} {n k:Nat} {d:α} (h:k<n):((List.range n).map f).getD k d=f k:=by
 rw[aai,akE,axy h];rfl
def ahg (c:aA) (i:Nat):Nat:=(c.sts.length+gT c c.sts.length)+i
theorem ari {c:aA} {i:Nat} (hi:i<c.trs.length):(gF c).sgs.getD (ahg c i) ak=ap4 c i:=by
 obtain ⟨t,ht⟩:=akL c c.act.toNat
 show (aX c c.act.toNat).getD (ahg c i) ak=_
 have hg:=jC c c.trs.length
 rw[ht,aoI (by unfold ahg;omega)]
 unfold fP ahg
 rw[afW (qP c _),afH hi]
theorem ash {c:aA} {i:Nat} (hi:i<c.trs.length):ahg c i<(gF c).sgs.length:=by
 have hp:=jB c c.act.toNat
 have hg:=jC c c.trs.length
 show _<(aX c c.act.toNat).length
 unfold ahg;omega
theorem ajT {c:bC} (h:bH c=0):(∀k,k<c.ins.length→kK c (2*c.act.toNat+k)=0)∧(∀i,i<c.sgs.length→aT c i=0)∧nS c=0:=by
 unfold bH at h
 split at h
 ·cases h
 split at h
 ·cases h
 split at h
 ·rename_i h1;exact absurd h h1
 rename_i h3
 split at h
 ·rename_i h1;exact absurd h h1
 rename_i h4
 exact ⟨fun k hk=>pJ (f:=fun i=>kK c (2*c.act.toNat+i)) (aku.1 h3) k hk,pJ (aku.1 h4),h⟩
theorem aoe {c:bC} {i:Nat} (h:aT c i=0):bf (c.sgs.getD i ak).on (dx c)=0∧(0≤(c.sgs.getD i ak).kd∧(c.sgs.getD i ak).kd<3)∧kK c (2*c.act.toNat+c.ins.length+i)=0:=by
 unfold aT at h
 split at h
 ·rename_i h1;exact absurd h h1
 rename_i h1
 split at h
 ·cases h
 split at h
 ·rename_i h2;exact absurd h h2
 rename_i h2 h3
 exact ⟨aku.1 h3,by omega,aku.1 h1⟩
theorem apU {c:aA} (h:bH (gF c)=0) {i:Nat} (hi:i<c.trs.length):aeD c i=true:=by
 have h1:=(ajT h).2.1 _ (ash hi)
 have h2:=(aoe h1).1
 rw[ari hi] at h2
 obtain ⟨_,⟨hs,hd⟩,_⟩:=eG.1 h2
 have hs:(mI c i).size≤256:=hs
 have hd:(mI c i).deep≤16:=hd
 have hm:dz (relE c) (rE c i)∈(mI c i).args:=by
  show _∈jW c i i
  unfold jW ajt
  exact axV _ (axO _ (acC.2 rfl))
 have q1:=iQ hm
 have q2:=abZ hm
 rw[Ex.size_eq] at hs
 rw[Ex.yg] at hd
 exact jy.2 ⟨by omega,by omega⟩
def bM (c:aA):Int:=if ¬cB c=0 then cB c else if ¬bH (gF c)=0 then 12 else 0
theorem lN {c:aA}:bM c=0↔cB c=0∧bH (gF c)=0:=by
 unfold bM
 constructor
 ·intro h
  split at h
  ·rename_i h1;exact absurd h h1
  ·rename_i h1
   split at h
   ·cases h
   ·rename_i h2;exact ⟨aku.1 h1,aku.1 h2⟩
 ·rintro ⟨h1,h2⟩
  rw[if_neg (fun h=>h h1),if_neg (fun h=>h h2)]
theorem ae2:av Tryz.prog 29 (bq (fun c:aA=>[jh c]) gN (fun c=>iP (bM c))):=by
 refine vF Tryz.func29 ?_
 rintro (c:aA) hpre
 have ho:gN c:=hpre
 refine cK (agt) (c) (by exact (ai rfl (ai (ai rfl (fun _ _=>rfl)) (ai (ai rfl (fun _ _=>rfl)) (ai rfl (fun _ _=>rfl)))))) (ho) ?_
 refine bN (cB c=0) (fun h1=>?_) fun h1=>?_
 ·refine eN (iP (bM c)) ?_
  rw[bM,if_pos h1]
  exact rfl
 refine cK (ahT) (c) (by exact (ai rfl (ai (ai rfl (fun _ _=>rfl)) (ai (ai rfl (fun _ _=>rfl)) (ai rfl (fun _ _=>rfl)))))) (⟨h1,ho⟩) ?_
 refine cK (asC) (gF c) (by exact (ai rfl (ai (ai rfl (fun _ _=>rfl)) (ai (ai rfl (fun _ _=>rfl)) (ai (ai rfl (fun _ _=>rfl)) (ai rfl (fun _ _=>rfl))))))) (aa9 ⟨h1,ho⟩) ?_
 refine bN (bH (gF c)=0) (fun h2=>?_) fun h2=>?_
 ·refine eN (iP (bM c)) ?_
  rw[bM,if_neg (fun h=>h h1),if_pos h2]
  exact rfl
 ·refine eN (iP (bM c)) ?_
  rw[bM,if_neg (fun h=>h h1),if_neg (fun h=>h h2)]
  exact rfl
def zC:bC:=⟨0,[],[],[],[]⟩
def adj (c:aA):bC:=if bM c=0 then gF c else zC
def anz (c:aA):PV:=.tup [ctP (adj c),iP (bM c)]
def zCP:PV:=.agg [iP 0,.val (.slice none 0 0),.val (.slice none 0 0),.val (.slice none 0 0),.val (.slice none 0 0)]
def nk (c:aA):PV:=if bM c=0 then .tup [ctP (gF c),iP 0] else .tup [zCP,iP (bM c)]
theorem ar1:fQ zCP (ctP zC):=mU (aG (.refl _) (aG (.nil _) (aG (.nil _) (aG (.nil _) (nY (.nil _))))))
theorem an6 (c:aA):fQ (nk c) (anz c):=by
 unfold nk anz adj
 split
 ·rename_i h;rw[h];exact .refl _
 ·exact vo (aG ar1 (nY (.refl _)))
theorem akZ:av Tryz.prog 15 (bQ (fun c:aA=>[jh c]) gN anz):=by
 have h:av Tryz.prog 15 (bQ (fun c:aA=>[jh c]) gN nk):=by
  refine vF Tryz.func15 ?_
  rintro (c:aA) hpre
  have ho:gN c:=hpre
  refine cK (ae2) (c) (by exact (ai rfl (ai (ai rfl (fun _ _=>rfl)) (ai (ai rfl (fun _ _=>rfl)) (ai rfl (fun _ _=>rfl)))))) (ho) ?_
  refine bN (bM c=0) (fun h1=>?_) fun h1=>?_
  ·refine eF (nk c) ?_
   rw[nk,if_neg h1]
   exact (ai (ai rfl (ai rfl (ai rfl (ai rfl rfl)))) rfl)
  refine cK (ahT) (c) (by exact (ai rfl (ai (ai rfl (fun _ _=>rfl)) (ai (ai rfl (fun _ _=>rfl)) (ai rfl (fun _ _=>rfl)))))) (⟨(lN.1 h1).1,ho⟩) ?_
  refine eF (nk c) ?_
  rw[nk,if_pos h1]
  exact (ai (ai rfl (ai (ai rfl (fun _ _=>rfl)) (ai (ai rfl (fun _ _=>rfl)) (ai (ai rfl (fun _ _=>rfl)) (ai rfl (fun _ _=>rfl)))))) rfl)
 exact gW h fun c _=>an6 c
def aaM (b:Int) (l:List Int):List Int:=if b=0 then l else []
def adi (e:Int) (l:List Int):PV:=.tup [fE (aaM e l),iP e]
def gJ (e:Int) (l:List Int):PV:=if e=0 then .tup [fE l,iP 0] else .tup [.val (.slice none 0 0),iP e]
theorem afR (e:Int) (l:List Int):fQ (gJ e l) (adi e l):=by
 unfold gJ adi aaM
 split
 ·rename_i h;rw[h];exact .refl _
 ·exact vo (aG (.nil _) (nY (.refl _)))
theorem aol:av Tryz.prog 17 (bQ (fun c:aA=>[jh c]) gN (fun c=>adi (bM c) (dL c c.sts.length))):=by
 have h:av Tryz.prog 17 (bQ (fun c:aA=>[jh c]) gN (fun c=>gJ (bM c) (dL c c.sts.length))):=by
  refine vF Tryz.func17 ?_
  rintro (c:aA) hpre
  have ho:gN c:=hpre
  refine cK (ae2) (c) (by exact (ai rfl (ai (ai rfl (fun _ _=>rfl)) (ai (ai rfl (fun _ _=>rfl)) (ai rfl (fun _ _=>rfl)))))) (ho) ?_
  refine bN (bM c=0) (fun h1=>?_) fun h1=>?_
  ·refine eF (gJ (bM c) (dL c c.sts.length)) ?_
   rw[gJ,if_neg h1]
   exact (ai rfl rfl)
  have hc:kL c:=⟨(lN.1 h1).1,ho⟩
  have hs:=iZ hc.1
  have h4:c.sts.length≤1000000:=hs.2.2.2
  refine fR (c.sts.length) (fun k=>[(6,.s (iA k)),(5,isR (dL c k))]) (fun k=>[]) (fun k=>True) ?_ ?_ ?_ ?_
  ·exact (ai (ai (ai (fun _=>rfl) (iE (by omega))) rfl) rfl)
  ·exact trivial
  ·trivial
  intro (k:Nat) ⟨hk,_⟩
  have hl:=nN c k
  refine bL (k<c.sts.length) (fun g1=>?_) fun g1=>?_
  ·refine cK (oW) ((c,k)) (by exact (ai (ai rfl (ai (ai rfl (fun _ _=>rfl)) (ai (ai rfl (fun _ _=>rfl)) (ai rfl (fun _ _=>rfl))))) rfl)) (⟨hs,by show k≤1000000;omega⟩) ?_
   refine ai (mxL (n:=(dL c k).length+1) (by omega) (by decide)) (ai (fJ 1 rfl) ?_)
   refine nX (k) (ai (ai (ai (fun _=>rfl) (aH (by omega))) rfl) (ai rfl (ai rfl (ai ?_ ?_)))) trivial trivial
   ·rw[tK,aao];rfl
   ·rw[tK];exact dK _ _
  have ek:k=c.sts.length:=by omega
  refine eF (gJ (bM c) (dL c c.sts.length)) ?_
  rw[gJ,if_pos h1]
  refine (ai (ai ?_ ?_) rfl)
  all_goals rw[ek]
  exact fun _ _=>rfl
 exact gW h fun c _=>afR _ _
theorem amH:av Tryz.prog 19 (bQ (fun c:aA=>[jh c]) gN (fun c=>adi (bM c) (cZ c c.sts.length))):=by
 have h:av Tryz.prog 19 (bQ (fun c:aA=>[jh c]) gN (fun c=>gJ (bM c) (cZ c c.sts.length))):=by
  refine vF Tryz.func19 ?_
  rintro (c:aA) hpre
  have ho:gN c:=hpre
  refine cK (ae2) (c) (by exact (ai rfl (ai (ai rfl (fun _ _=>rfl)) (ai (ai rfl (fun _ _=>rfl)) (ai rfl (fun _ _=>rfl)))))) (ho) ?_
  refine bN (bM c=0) (fun h1=>?_) fun h1=>?_
  ·refine eF (gJ (bM c) (cZ c c.sts.length)) ?_
   rw[gJ,if_neg h1]
   exact (ai rfl rfl)
  refine cK (aff) (c) (by exact (ai rfl (ai (ai rfl (fun _ _=>rfl)) (ai (ai rfl (fun _ _=>rfl)) (ai rfl (fun _ _=>rfl)))))) (alz ⟨(lN.1 h1).1,ho⟩) ?_
  refine eF (gJ (bM c) (cZ c c.sts.length)) ?_
  rw[gJ,if_pos h1]
  exact (ai (ai rfl (fun _ _=>rfl)) rfl)
 exact gW h fun c _=>afR _ _
def sW (c:aA) (s:eZ):Int:=if ¬bM c=0 then bM c else uj (gF c) s
def rSt (a:aA×eZ):Prop:=kL a.1∧uj (gF a.1) a.2=0∧adZ a.2
theorem wE {c:aA} {s:eZ} (h:rSt (c,s)):(s.en.length:Int)=c.act∧s.inp.length=c.ins.length∧s.vl.length=(gF c).sgs.length∧((fC s).length:Int)=dx (gF c)∧c.sts.length≤s.vl.length:=by
 obtain ⟨hc,hr,_⟩:=h
 obtain ⟨h0,hsh⟩:=ahj hr
 have hl:=adr hsh
 obtain ⟨h1,h2,h3,h4,h5⟩:=hsh
 refine ⟨h1,h3,h4,hl,?_⟩
 have hp:=jB c c.act.toNat
 have hg:=jC c c.trs.length
 have h4:s.vl.length=(aX c c.act.toNat).length:=h4
 omega
theorem aaW (l:List Bool) (x:Bool):∀k,k<l.length+1→bI l.length (fun k=>[bP (l.getD k false)]) (aU 1 [bP x]) k=[bP ((l++[x]).getD k false)]:=fun k hk=>
 vP (a:=l) (b:=[x]) rfl (fun _ _=>rfl) (lt1 rfl) k (by rw[aao];exact hk)
theorem aaE {α:Type} (f:Nat→α) (k:Nat):(List.range (k+1)).map f=(List.range k).map f++[f k]:=by rw[auQ,anN];rfl
theorem kN {α:Type} (f:Nat→α) (k:Nat):((List.range k).map f).length=k:=by rw[aeu,at6]
def onS (c:aA) (s:eZ):List Bool:=s.vl.take c.sts.length
def vY (c:aA) (s:eZ) (k:Nat):Bool:=if (c.sts.getD k st0).wt=0 then true else (fC s).getD (tZ c k).toNat false
def aiE (c:aA) (s:eZ):List Bool:=(List.range c.sts.length).map (vY c s)
def wS (c:aA) (s:eZ):List Bool:=(fC s).take (aS c).toNat
def abB (a d:List Bool) (k:Nat):Bool:=a.getD k false&&d.getD k false
def amQ (c:aA) (s:eZ) (a d:List Bool) (k:Nat):List Bool:=wS c s++(List.range k).map (abB a d)
def afi (c:aA) (s:eZ) (a d:List Bool):List Bool:=amQ c s a d c.sts.length
theorem ajh {c:aA} {s:eZ} (h:rSt (c,s)):(wS c s).length=(aS c).toNat:=by
 obtain ⟨_,_,_,hl,_⟩:=wE h
 obtain ⟨⟨ha1,ha6⟩,hi16,hs24,ht32⟩:=dY h.1
 have hb:aS c=2*c.act+c.ins.length:=rfl
 have hln:dx (gF c)=aS c+(gF c).sgs.length:=rfl
 unfold wS;rw[arM];omega
theorem anT {c:aA} {s:eZ} (h:rSt (c,s)) (a d:List Bool) (k:Nat):(amQ c s a d k).length=(aS c).toNat+k:=by unfold amQ;rw[aao,ajh h,kN]
def anp (e:Int) (l:List Bool):PV:=.tup [kH (if e=0 then l else []),iP e]
def oq (e:Int) (l:List Bool):PV:=if e=0 then .tup [kH l,iP 0] else .tup [.val (.slice none 0 0),iP e]
theorem auy (e:Int) (l:List Bool):fQ (oq e l) (anp e l):=by
 unfold oq anp
 split
 ·rename_i h;rw[h];exact .refl _
 ·exact vo (aG (.nil _) (nY (.refl _)))
def amw (a:aA×eZ):Prop:=gN a.1∧afj a.2∧adZ a.2
theorem amj {c:aA} {s:eZ} (h:rSt (c,s)):(onS c s).length=c.sts.length:=by
 obtain ⟨_,_,_,_,h5⟩:=wE h
 unfold onS;rw[arM];omega
def q9 (c:aA) (a d:List Bool) (k:Nat):Bool:=d.getD k false&&(((c.sts.getD k st0).wt==0)||a.getD k false)
def adX (c:aA) (a d:List Bool):List Bool:=(List.range c.sts.length).map (q9 c a d)
def afk (c:aA) (s:eZ) (a d:List Bool):List Bool:=ac4 c a (yS c a (afi c s a d))
def bJ (c:aA) (s:eZ):Nat→List Bool×List Bool
 | 0=>(onS c s,aiE c s)
 | r+1=>(afk c s (bJ c s r).1 (bJ c s r).2,adX c (bJ c s r).1 (bJ c s r).2)
def qJ (c:aA) (s:eZ) (r:Nat):Bool:=decide (afk c s (bJ c s r).1 (bJ c s r).2=(bJ c s r).1)&&decide (adX c (bJ c s r).1 (bJ c s r).2=(bJ c s r).2)
def orN (o:Option Nat) (q:Bool) (m:Nat):Option Nat:=if o.isSome then o else if q then some m else none
def aat (c:aA) (s:eZ):Nat→Option Nat
 | 0=>none
 | m+1=>orN (aat c s m) (qJ c s m) m
theorem adz {c:aA} {s:eZ}:∀{m:Nat},(∀r,r<m→qJ c s r=false)→aat c s m=none
 | 0,_=>by rw[aat]
 | m+1,h=>by
  rw[aat,adz fun r hr=>h r (by omega),h m (by omega)];rfl
theorem ahz {c:aA} {s:eZ} {r:Nat} (h0:∀q,q<r→qJ c s q=false) (h:qJ c s r=true):∀{m:Nat},r<m→aat c s m=some r
 | 0,hm=>by omega
 | m+1,hm=>by
  rw[aat]
  by_cases e:r<m
  ·rw[ahz h0 h e];rfl
  ·obtain rfl:r=m:=by omega
   rw[adz h0,h];rfl
@[irreducible] def anJ (c:aA) (s:eZ):Option Nat:=aat c s 65
theorem amn (c:aA) (s:eZ):anJ c s=aat c s 65:=by unfold anJ;rfl
def za (c:aA) (s:eZ):List Bool:=match anJ c s with
 | some r=>(bJ c s r).1
 | none=>[]
theorem alT (c:aA) (a:List Bool) (l:List Int):(ac4 c a l).length=a.length:=by unfold ac4;rw[aah,xw]
theorem agL {c:aA} {s:eZ} (h:rSt (c,s)):∀r,(bJ c s r).1.length=c.sts.length∧(bJ c s r).2.length=c.sts.length
 | 0=>⟨amj h,kN _ _⟩
 | r+1=>⟨by show (ac4 c _ _).length=_;rw[alT];exact (agL h r).1,kN _ _⟩
theorem aqp {c:aA} {s:eZ} (h:rSt (c,s)) {a d:List Bool} (ha:a.length=c.sts.length):mH c a (afi c s a d)=0:=by
 have hl:(afi c s a d).length=(aS c).toNat+c.sts.length:=anT h a d c.sts.length
 have hc:kL c:=h.1
 obtain ⟨⟨ha1,ha6⟩,hi16,hs24,ht32⟩:=dY hc
 have hb:aS c=2*c.act+c.ins.length:=rfl
 have hv:kV c=2*c.act+c.ins.length+c.sts.length:=rfl
 have g0:oL c a=0:=by unfold oL;rw[if_neg (fun e=>e h.1.1),if_neg (fun e=>e ha)]
 unfold mH
 rw[if_neg (fun e=>e g0),if_neg]
 intro e
 apply e
 omega
theorem al3:av Tryz.prog 153 (bq (fun l:List (List UInt8)=>[ssA l]) (fun l=>l.length≤1000000) (fun l=>xg l)):=by
 refine vF Tryz.func153 ?_
 rintro (l:List (List UInt8)) hpre
 have hl:l.length≤1000000:=hpre
 intro b hb
 refine gV (fun h1=>?_) (fun h1=>?_)
 ·have h1:l.length=0:=hb h1
  refine eN (xg l) ?_
  rw[awK.1 h1]
  exact rfl
 ·refine ai (mxL (n:=0+l.length) (by omega) (by decide)) (ai (fun _ _=>rfl) ?_)
  refine ai (ai (fun _ k hk=>by rw[ab9 k hk];rfl) ?_) trivial
  refine (ai ?_ (fun _ _=>rfl))
  exact ajN _
def agu (c:aA) (s:List oP):List LV:=[.s (iA (aS c)),sgU s,.s (iA c.act),.s (.p false (xg c.ins)),.s (.p false (aaK c.sts)),.s (.p false (ada c.trs)),.s (aiX c),.s (ajl c),.s (aki c)]
def ctV (c:aA) (s:List oP) (p m:LV):List LV:=[.s (iA c.act),.s (.p false (xg c.ins)),sgU s,p,m]
def aaQ:PV:=.val (.string ByteArray.empty)
def aaO:PV:=.val (.slice none 0 0)
theorem vv {nm:List UInt8} {kd dl:Int} {ini:Bool} {on x:Ex} {f:PV} (h:fQ f (.seq x.args.length (jo x.args))):cu [sP nm,iP kd,iP on.op,iP on.idx,.seq on.args.length (jo on.args),iP x.op,iP x.idx,f,iP dl,bP ini] (sgK ⟨nm,kd,on,x,dl,ini⟩):=
 aG (.refl _) (aG (.refl _) (aG (.refl _) (aG (.refl _) (aG (.refl _) (aG (.refl _) (aG (.refl _) (aG h (aG (.refl _) (nY (.refl _))))))))))
theorem amf (x y:Ex):fQ (.seq 2 (aU 3 (ko x++ko y))) (.seq 2 (jo [x,y])):=iG fun k hk=>by
 rcases (show k=0∨k=1 by omega) with rfl | rfl
 ·exact r9 x
 ·exact r9 y
def auu (b:Bool) (c:aA):Prop:=kL c∧decide (bH (gF c)=0)=b
def avi (b:Bool) (res:aA→SV):xH:={ A:=aA,fix:=1,args:=fun _=>[.own 0 0],objs:=fun c=>[anE c iT],pre:=auu b,res:=res,objs':=fun c=>[anE c .any],inl:=[154,155,4000045,4000077,5000125] }
set_option maxHeartbeats 16000000 in
theorem adG:rX Tryz.prog 96 (avi true fun c=>.tup [.p false (ctP (gF c)),.p false (iP 0)]):=by
 refine vG Tryz.func96 ?_
 rintro (c:aA) hpre
 obtain ⟨hc,hB⟩:=hpre
 have hc:kL c:=hc
 have hB:decide (bH (gF c)=0)=true:=hB
 have hs:=iZ hc.1
 obtain ⟨⟨ha1,ha6⟩,hi16,hs24,ht32⟩:=dY hc
 have hb:aS c=2*c.act+c.ins.length:=rfl
 have hon:∀k,(bO c k).length≤c.trs.length:=fun k=>lq c _ _ _
 have hof:∀k,(cO c k).length≤c.trs.length:=fun k=>lq c _ _ _
 have hal:∀x,(dO c x c.sts.length).length≤c.sts.length:=fun x=>sQ c x _
 have htm:=lD c c.sts.length
 have hml:=nN c c.sts.length
 have hlp:∀k,afg (c,k):=fun k=>⟨hc.2,by show c.trs.length≤1000000;omega⟩
 refine dR (.one 0 (.one 1 (.one 2 (.one 3 (.one 4 (.one 5 (.one 6 (.one 7 (.one 8 (.one 9 (.alt 10 (.one 11 (.one 12 (.one 13 .done))) (.alt 12 (.one 10 (.one 11 (.one 13 .done))) .stop)))))))))))) ?_
 refine ai ?_ (ai ?_ trivial)
 all_goals
  refine cK (al3) (c.ins) (by exact (ai rfl (fun _ _=>rfl))) ((by show c.ins.length≤1000000;omega)) ?_
  refine qo mixed iC Tryz.func154 rfl rfl ?_
  refine ai rfl ?_
  refine fR (c.sts.length) (fun k=>[(16,.s (iA k))]) (fun k=>[⟨0,106,agu c (eY c k)⟩]) (fun k=>True) ?_ ?_ ?_ ?_
  ·exact (ai (ai (fun _=>rfl) (iE (by omega))) rfl)
  ·exact (ai (ai (ai (ai nof rfl) rfl) (ai rfl (ai (ai (ai nof rfl) rfl) (ai (ai (ai nof (ai rfl (fun _ _=>rfl))) rfl) (ai (ai (ai nof (ai rfl (fun _ _=>rfl))) rfl) (ai (ai (ai nof (ai rfl (fun _ _=>rfl))) rfl) (ai (ai (ai nof (ai rfl (fun _ _=>rfl))) rfl) (ai (ai (ai nof (ai rfl (fun _ _=>rfl))) rfl) (ai (ai nof (ai rfl (fun _ _=>rfl))) rfl))))))))) trivial)
  ·trivial
  intro (k:Nat) ⟨hk,_⟩
  have hl:=vN c k
  refine bL (k<c.sts.length) (fun g=>?_) fun g=>?_
  ·refine ei _ (ai (ahm) (ei ((c,k)) (ei [0] (ai (a4 (ai (fun _=>Or.inl rfl) (ai nof (Or.inl rfl)))) (ai (by exact (ai (ai rfl rfl) (ai rfl (ai rfl trivial)))) (ai (by exact (ai rfl (ai trivial (ai trivial (ai trivial (ai trivial (ai trivial (ai (ai rfl (fun _ _=>rfl)) (ai trivial (ai trivial (ai rfl (fun _ _=>rfl)))))))))))) (ai (hlp k) ?_)))))))
   refine ei _ (ai (ah9) (ei ((c,k)) (ei [0] (ai (a4 (ai (fun _=>Or.inl rfl) (ai nof (Or.inl rfl)))) (ai (by exact (ai (ai rfl rfl) (ai rfl (ai rfl trivial)))) (ai (by exact (ai rfl (ai trivial (ai trivial (ai trivial (ai trivial (ai trivial (ai (ai rfl (fun _ _=>rfl)) (ai trivial (ai trivial (ai rfl (fun _ _=>rfl)))))))))))) (ai (hlp k) ?_)))))))
   refine cK (qw) (bO c k) (by exact (ai rfl (fun _ _=>rfl))) ((by have:=hon k;show (bO c k).length≤1000000;omega)) ?_
   refine cK (qw) (cO c k) (by exact (ai rfl (fun _ _=>rfl))) ((by have:=hof k;show (cO c k).length≤1000000;omega)) ?_
   refine ah (p:=0<(bO c k).length) (by exact aB (show (0:Int)<(((bO c k).length:Nat):Int)↔_ by omega)) (fun g1=>?_) (fun g1=>?_)
   ·refine ah (p:=0<(cO c k).length) (by exact aB (show (0:Int)<(((cO c k).length:Nat):Int)↔_ by omega)) (fun g2=>?_) (fun g2=>?_)
    ·refine dR (.seq [0,1,2,3,4,5,6,7,8]) ?_
     refine cK (alu) (aF (bO c k)) (by exact (ai rfl (ai rfl (ai rfl (fun _ _=>rfl))))) (trivial) ?_
     refine cK (abb) ((2,aU 3 (ko (aF (cO c k))++ko (mE (aF (bO c k)))))) (by exact (ai rfl (fun _ _=>rfl))) (trivial) ?_
     have e:p9 c k=uF (aF (cO c k)) (mE (aF (bO c k))):=if_pos ⟨g1,g2⟩
     have hLe:cu [sP ([120]++dec k),iP 1,iP (aF (bO c k)).op,iP (aF (bO c k)).idx,.seq (aF (bO c k)).args.length (jo (aF (bO c k)).args),iP 3,iP 0,.seq 2 (aU 3 (ko (aF (cO c k))++ko (mE (aF (bO c k))))),iP 0,bP ((k:Int)==0)] (sgK (mF c k)):=by
      unfold mF
      rw[e]
      exact vv (x:=uF (aF (cO c k)) (mE (aF (bO c k)))) (amf _ _)
     refine gI (pR) (⟨c,(eY c k).length,sD (eY c k),[120],k,aaQ,iP 1,iP (aF (bO c k)).op,iP (aF (bO c k)).idx,.seq (aF (bO c k)).args.length (jo (aF (bO c k)).args),iP 3,iP 0,.seq 2 (aU 3 (ko (aF (cO c k))++ko (mE (aF (bO c k))))),iP 0,bP ((k:Int)==0)⟩) [0,3] (by exact (ai (ai rfl rfl) (ai rfl (ai rfl (ai rfl (ai rfl (ai rfl (ai rfl (ai (ai rfl (fun _ _=>rfl)) (ai rfl (ai rfl (ai (ai rfl (fun _ _=>rfl)) (ai rfl rfl))))))))))))) (by exact (ai (ai rfl (ai rfl (ai rfl (ai rfl (ai (ai rfl (fun _ _=>rfl)) (ai (ai rfl (fun _ _=>rfl)) (ai (ai rfl (fun _ _=>rfl)) (ai (ai rfl (fun _ _=>rfl)) (ai (ai rfl (fun _ _=>rfl)) (ai rfl (fun _ _=>rfl))))))))))) (ai rfl (ai rfl (ai rfl (fun _ _=>rfl)))))) (⟨by show (eY c k).length≤1000;omega,by show k<100;omega,by show 1≤10;omega⟩) ?_
     refine nX (k) (ai (ai (fun _=>rfl) (aH (by omega))) rfl) (ai (ai (ai (ai nof rfl) rfl) (ai (ai rfl (ai rfl (ai ?_ ?_))) (ai (ai (ai nof rfl) rfl) (ai (ai (ai nof (ai rfl (fun _ _=>rfl))) rfl) (ai (ai (ai nof (ai rfl (fun _ _=>rfl))) rfl) (ai (ai (ai nof (ai rfl (fun _ _=>rfl))) rfl) (ai (ai (ai nof (ai rfl (fun _ _=>rfl))) rfl) (ai (ai (ai nof (ai rfl (fun _ _=>rfl))) rfl) (ai (ai nof (ai rfl (fun _ _=>rfl))) rfl))))))))) trivial) trivial
     ·rw[bW,aao];rfl
     ·rw[bW]
      exact bS rfl (fun _ _=>.of rfl) hLe
    ·have e:p9 c k=aF (cO c k):=if_neg (fun h=>g2 h.2)
     have hLe:cu [sP ([120]++dec k),iP 1,iP (aF (bO c k)).op,iP (aF (bO c k)).idx,.seq (aF (bO c k)).args.length (jo (aF (bO c k)).args),iP (aF (cO c k)).op,iP (aF (cO c k)).idx,.seq (aF (cO c k)).args.length (jo (aF (cO c k)).args),iP 0,bP ((k:Int)==0)] (sgK (mF c k)):=by
      unfold mF
      rw[e]
      exact vv (.refl _)
     refine gI (pR) (⟨c,(eY c k).length,sD (eY c k),[120],k,aaQ,iP 1,iP (aF (bO c k)).op,iP (aF (bO c k)).idx,.seq (aF (bO c k)).args.length (jo (aF (bO c k)).args),iP (aF (cO c k)).op,iP (aF (cO c k)).idx,.seq (aF (cO c k)).args.length (jo (aF (cO c k)).args),iP 0,bP ((k:Int)==0)⟩) [0,3] (by exact (ai (ai rfl rfl) (ai rfl (ai rfl (ai rfl (ai rfl (ai rfl (ai rfl (ai (ai rfl (fun _ _=>rfl)) (ai rfl (ai rfl (ai (ai rfl (fun _ _=>rfl)) (ai rfl rfl))))))))))))) (by exact (ai (ai rfl (ai rfl (ai rfl (ai rfl (ai (ai rfl (fun _ _=>rfl)) (ai (ai rfl (fun _ _=>rfl)) (ai (ai rfl (fun _ _=>rfl)) (ai (ai rfl (fun _ _=>rfl)) (ai (ai rfl (fun _ _=>rfl)) (ai rfl (fun _ _=>rfl))))))))))) (ai rfl (ai rfl (ai rfl (fun _ _=>rfl)))))) (⟨by show (eY c k).length≤1000;omega,by show k<100;omega,by show 1≤10;omega⟩) ?_
     refine nX (k) (ai (ai (fun _=>rfl) (aH (by omega))) rfl) (ai (ai (ai (ai nof rfl) rfl) (ai (ai rfl (ai rfl (ai ?_ ?_))) (ai (ai (ai nof rfl) rfl) (ai (ai (ai nof (ai rfl (fun _ _=>rfl))) rfl) (ai (ai (ai nof (ai rfl (fun _ _=>rfl))) rfl) (ai (ai (ai nof (ai rfl (fun _ _=>rfl))) rfl) (ai (ai (ai nof (ai rfl (fun _ _=>rfl))) rfl) (ai (ai (ai nof (ai rfl (fun _ _=>rfl))) rfl) (ai (ai nof (ai rfl (fun _ _=>rfl))) rfl))))))))) trivial) trivial
     ·rw[bW,aao];rfl
     ·rw[bW]
      exact bS rfl (fun _ _=>.of rfl) hLe
   ·have e:p9 c k=aF (cO c k):=if_neg (fun h=>g1 h.1)
    have hLe:cu [sP ([120]++dec k),iP 1,iP (aF (bO c k)).op,iP (aF (bO c k)).idx,.seq (aF (bO c k)).args.length (jo (aF (bO c k)).args),iP (aF (cO c k)).op,iP (aF (cO c k)).idx,.seq (aF (cO c k)).args.length (jo (aF (cO c k)).args),iP 0,bP ((k:Int)==0)] (sgK (mF c k)):=by
     unfold mF
     rw[e]
     exact vv (.refl _)
    refine gI (pR) (⟨c,(eY c k).length,sD (eY c k),[120],k,aaQ,iP 1,iP (aF (bO c k)).op,iP (aF (bO c k)).idx,.seq (aF (bO c k)).args.length (jo (aF (bO c k)).args),iP (aF (cO c k)).op,iP (aF (cO c k)).idx,.seq (aF (cO c k)).args.length (jo (aF (cO c k)).args),iP 0,bP ((k:Int)==0)⟩) [0,3] (by exact (ai (ai rfl rfl) (ai rfl (ai rfl (ai rfl (ai rfl (ai rfl (ai rfl (ai (ai rfl (fun _ _=>rfl)) (ai rfl (ai rfl (ai (ai rfl (fun _ _=>rfl)) (ai rfl rfl))))))))))))) (by exact (ai (ai rfl (ai rfl (ai rfl (ai rfl (ai (ai rfl (fun _ _=>rfl)) (ai (ai rfl (fun _ _=>rfl)) (ai (ai rfl (fun _ _=>rfl)) (ai (ai rfl (fun _ _=>rfl)) (ai (ai rfl (fun _ _=>rfl)) (ai rfl (fun _ _=>rfl))))))))))) (ai rfl (ai rfl (ai rfl (fun _ _=>rfl)))))) (⟨by show (eY c k).length≤1000;omega,by show k<100;omega,by show 1≤10;omega⟩) ?_
    refine nX (k) (ai (ai (fun _=>rfl) (aH (by omega))) rfl) (ai (ai (ai (ai nof rfl) rfl) (ai (ai rfl (ai rfl (ai ?_ ?_))) (ai (ai (ai nof rfl) rfl) (ai (ai (ai nof (ai rfl (fun _ _=>rfl))) rfl) (ai (ai (ai nof (ai rfl (fun _ _=>rfl))) rfl) (ai (ai (ai nof (ai rfl (fun _ _=>rfl))) rfl) (ai (ai (ai nof (ai rfl (fun _ _=>rfl))) rfl) (ai (ai (ai nof (ai rfl (fun _ _=>rfl))) rfl) (ai (ai nof (ai rfl (fun _ _=>rfl))) rfl))))))))) trivial) trivial
    ·rw[bW,aao];rfl
    ·rw[bW]
     exact bS rfl (fun _ _=>.of rfl) hLe
  have e0:dn c 0=eY c k:=by rw[show k=c.sts.length by omega];rfl
  clear g hl
  refine fR (c.sts.length) (fun j=>[(59,.s (iA j))]) (fun j=>[⟨0,106,agu c (dn c j)⟩]) (fun j=>True) ?_ ?_ ?_ ?_
  ·exact (ai (ai (fun _=>rfl) (iE (by omega))) rfl)
  ·refine (ai (ai (ai (ai nof rfl) rfl) (ai (ai rfl (ai rfl (ai ?_ ?_))) (ai (ai (ai nof rfl) rfl) (ai (ai (ai nof (ai rfl (fun _ _=>rfl))) rfl) (ai (ai (ai nof (ai rfl (fun _ _=>rfl))) rfl) (ai (ai (ai nof (ai rfl (fun _ _=>rfl))) rfl) (ai (ai (ai nof (ai rfl (fun _ _=>rfl))) rfl) (ai (ai (ai nof (ai rfl (fun _ _=>rfl))) rfl) (ai (ai nof (ai rfl (fun _ _=>rfl))) rfl))))))))) trivial)
   ·rw[e0]
   ·rw[e0];exact fun _ _=>.of rfl
  ·trivial
  intro (j:Nat) ⟨hj,_⟩
  have hl:=qP c j
  have htj:=lD c j
  refine bL (j<c.sts.length) (fun g=>?_) fun g=>?_
  ·refine iX (j) (c.sts.length) ?_
   refine ah (p:=0<(c.sts.getD j st0).wt) (aB Iff.rfl) (fun g1=>?_) (fun g1=>?_)
   ·have e1:dn c (j+1)=dn c j++[acH c j]:=by rw[dn,if_pos g1]
    have em:=sS c (n:=c.sts.length) g
    refine dR (.one 0 (.one 1 (.one 2 (.one 3 (.one 4 (.one 5 (.one 6 (.one 7 (.one 8 (.one 10 (.one 11 (.one 9 (.one 12 (.wr 13 .done)))))))))))))) ?_
    refine iX (j) ((dL c c.sts.length).length) ?_
    refine cK (jD) ((dL c c.sts.length).getD j 0) (by exact (iE (by simp only[zz,reduceCtorEq]))) (trivial) ?_
    refine gI (pR) (⟨c,(dn c j).length,sD (dn c j),[116],j,aaQ,iP 2,iP 1,iP ((dL c c.sts.length).getD j 0),aaO,iP 0,iP 0,aaO,iP (c.sts.getD j st0).wt,bP false⟩) [0,4] (by exact (ai (ai rfl rfl) (ai rfl (ai rfl (ai rfl (ai rfl (ai rfl (ai rfl (ai rfl (ai rfl (ai rfl (ai rfl (ai (iE (by simp only[zz,reduceCtorEq])) rfl))))))))))))) (by exact (ai (ai rfl (ai rfl (ai rfl (ai rfl (ai (ai rfl (fun _ _=>rfl)) (ai (ai rfl (fun _ _=>rfl)) (ai (ai rfl (fun _ _=>rfl)) (ai (ai rfl (fun _ _=>rfl)) (ai (ai rfl (fun _ _=>rfl)) (ai rfl (fun _ _=>rfl))))))))))) (ai rfl (ai rfl (ai rfl (fun _ _=>rfl)))))) (⟨by show (dn c j).length≤1000;omega,by show j<100;omega,by show 1≤10;omega⟩) ?_
    refine nX (j) (ai (ai (fun _=>rfl) (aH (by omega))) rfl) (ai (ai (ai (ai nof rfl) rfl) (ai (ai rfl (ai rfl (ai ?_ ?_))) (ai (ai (ai nof rfl) rfl) (ai (ai (ai nof (ai rfl (fun _ _=>rfl))) rfl) (ai (ai (ai nof (ai rfl (fun _ _=>rfl))) rfl) (ai (ai (ai nof (ai rfl (fun _ _=>rfl))) rfl) (ai (ai (ai nof (ai rfl (fun _ _=>rfl))) rfl) (ai (ai (ai nof (ai rfl (fun _ _=>rfl))) rfl) (ai (ai nof (ai rfl (fun _ _=>rfl))) rfl))))))))) trivial) trivial
    ·rw[e1,aao];rfl
    ·rw[e1]
     exact bS rfl (fun _ _=>.of rfl) (by unfold acH;rw[←em];exact ac1)
   ·have e1:dn c (j+1)=dn c j:=by rw[dn,if_neg g1]
    refine nX (j) (ai (ai (fun _=>rfl) (aH (by omega))) rfl) (ai (ai (ai (ai nof rfl) rfl) (ai (ai rfl (ai rfl (ai ?_ ?_))) (ai (ai (ai nof rfl) rfl) (ai (ai (ai nof (ai rfl (fun _ _=>rfl))) rfl) (ai (ai (ai nof (ai rfl (fun _ _=>rfl))) rfl) (ai (ai (ai nof (ai rfl (fun _ _=>rfl))) rfl) (ai (ai (ai nof (ai rfl (fun _ _=>rfl))) rfl) (ai (ai (ai nof (ai rfl (fun _ _=>rfl))) rfl) (ai (ai nof (ai rfl (fun _ _=>rfl))) rfl))))))))) trivial) trivial
    all_goals rw[e1]
    exact fun _ _=>.of rfl
  have e0:fP c 0=dn c j:=by rw[show j=c.sts.length by omega];exact ape _
  clear g hl htj
  refine fR (c.trs.length) (fun i=>[(38,.s (iA i))]) (fun i=>[⟨0,106,agu c (fP c i)⟩]) (fun i=>True) ?_ ?_ ?_ ?_
  ·exact (ai (ai (fun _=>rfl) (iE (by omega))) rfl)
  ·refine (ai (ai (ai (ai nof rfl) rfl) (ai (ai rfl (ai rfl (ai ?_ ?_))) (ai (ai (ai nof rfl) rfl) (ai (ai (ai nof (ai rfl (fun _ _=>rfl))) rfl) (ai (ai (ai nof (ai rfl (fun _ _=>rfl))) rfl) (ai (ai (ai nof (ai rfl (fun _ _=>rfl))) rfl) (ai (ai (ai nof (ai rfl (fun _ _=>rfl))) rfl) (ai (ai (ai nof (ai rfl (fun _ _=>rfl))) rfl) (ai (ai nof (ai rfl (fun _ _=>rfl))) rfl))))))))) trivial)
   ·rw[e0]
   ·rw[e0];exact fun _ _=>.of rfl
  ·trivial
  intro (i:Nat) ⟨hi,_⟩
  have hl:=jC c i
  refine bL (i<c.trs.length) (fun g=>?_) fun g=>?_
  ·have hcl:aeD c i=true:=apU (of_decide_eq_true hB) g
   refine ei _ (ai (ad5) (ei ((c,i)) (ei [0] (ai (a4 (ai (fun _=>Or.inl rfl) (ai nof (Or.inl rfl)))) (ai (by exact (ai (ai rfl rfl) rfl)) (ai (by exact (ai rfl (ai rfl (ai trivial (ai trivial (ai trivial (ai (ai rfl (fun _ _=>rfl)) (ai (ai rfl (fun _ _=>rfl)) (ai (ai rfl (fun _ _=>rfl)) (ai (ai rfl (fun _ _=>rfl)) (ai rfl (fun _ _=>rfl)))))))))))) (ai (⟨⟨hc,g⟩,hcl⟩) ?_)))))))
   refine dR (.one 0 (.one 1 (.one 2 (.one 3 (.one 4 (.one 5 (.wr 6 .done))))))) ?_
   refine gI (pR) (⟨c,(fP c i).length,sD (fP c i),[122],i,aaQ,iP 0,iP (mI c i).op,iP (mI c i).idx,.seq (mI c i).args.length (jo (mI c i).args),iP 0,iP 0,aaO,iP 0,bP false⟩) [0,5] (by exact (ai (ai rfl rfl) (ai rfl (ai rfl (ai rfl (ai rfl (ai rfl (ai rfl (ai (ai rfl (fun _ _=>rfl)) (ai rfl (ai rfl (ai rfl (ai rfl rfl))))))))))))) (by exact (ai (ai rfl (ai rfl (ai rfl (ai rfl (ai (ai rfl (fun _ _=>rfl)) (ai (ai rfl (fun _ _=>rfl)) (ai (ai rfl (fun _ _=>rfl)) (ai (ai rfl (fun _ _=>rfl)) (ai (ai rfl (fun _ _=>rfl)) (ai rfl (fun _ _=>rfl))))))))))) (ai rfl (ai rfl (ai rfl (fun _ _=>rfl)))))) (⟨by show (fP c i).length≤1000;omega,by show i<100;omega,by show 1≤10;omega⟩) ?_
   refine nX (i) (ai (ai (fun _=>rfl) (aH (by omega))) rfl) (ai (ai (ai (ai nof rfl) rfl) (ai (ai rfl (ai rfl (ai ?_ ?_))) (ai (ai (ai nof rfl) rfl) (ai (ai (ai nof (ai rfl (fun _ _=>rfl))) rfl) (ai (ai (ai nof (ai rfl (fun _ _=>rfl))) rfl) (ai (ai (ai nof (ai rfl (fun _ _=>rfl))) rfl) (ai (ai (ai nof (ai rfl (fun _ _=>rfl))) rfl) (ai (ai (ai nof (ai rfl (fun _ _=>rfl))) rfl) (ai (ai nof (ai rfl (fun _ _=>rfl))) rfl))))))))) trivial) trivial
   ·rw[lQ,aao];rfl
   ·rw[lQ]
    exact bS rfl (fun _ _=>.of rfl) (adP (x:=mI c i))
  have e0:aX c 0=fP c i:=by rw[show i=c.trs.length by omega];rfl
  clear g hl
  have hG:=jC c c.trs.length
  refine fR (c.act.toNat) (fun a=>[(70,.s (iA a))]) (fun a=>[⟨2,32,ctV c (aX c a) (isW (eP c a)) (isW (jR c a))⟩]) (fun a=>True) ?_ ?_ ?_ ?_
  ·exact (ai (ai (fun _=>rfl) (iE (by omega))) rfl)
  ·refine (ai (ai (ai (ai nof rfl) rfl) (ai (ai (ai nof (ai rfl (fun _ _=>rfl))) rfl) (ai (ai rfl (ai rfl (ai ?_ ?_))) (ai rfl rfl)))) trivial)
   ·rw[e0]
   ·rw[e0];exact fun _ _=>.of rfl
  ·trivial
  intro (a:Nat) ⟨hk,_⟩
  have hP:=jB c a
  have hpl:=kX c a
  have hmil:=oF c a
  refine ah (p:=a<c.act.toNat) (by exact aB (show ((a:Nat):Int)<c.act↔_ by omega)) (fun g=>?_) (fun g=>?_)
  ·have hpn:oV c a=aS c+((fP c c.trs.length).length:Int)+2*(a:Int):=rfl
   have hpe:IntKind.i64.wrap (aS c+((aX c a).length:Int))=oV c a:=by rw[dD (by omega) (by omega)];omega
   have hpm:IntKind.i64.wrap (aS c+(((aX c a).length+1:Nat):Int))=oV c a+1:=by rw[dD (by omega) (by omega)];omega
   have hw1:IntKind.i64.wrap ((a:Int)+1)=((a+1:Nat):Int):=aH (by omega)
   have hx:(strOf six).extract ((a:Nat):Int).toNat (IntKind.i64.wrap ((a:Int)+1)).toNat=strOf [UInt8.ofNat (97+a)]:=by
    rw[hw1,ad9,ad9,tY,aaV (by omega)]
   refine ai (ai (aaT _) (ai (by rw[hw1];show (a:Int)≤_;omega) (by rw[hw1];show ((a+1:Nat):Int)≤6;omega))) ?_
   refine ei (mD.unroll 3) ?_
   refine ai (ai (by decide) (by decide)) ?_
   refine ai rfl ?_
   refine ai (by show ((((strOf six).extract ((a:Nat):Int).toNat (IntKind.i64.wrap ((a:Int)+1)).toNat).size+1:Nat):Int)≤9223372036854775807;rw[hx];show ((2:Nat):Int)≤9223372036854775807;decide) ?_
   refine ei _ (ai (xR) (ei ((c,((a:Int),true))) (ei [0] (ai (a4 (ai (fun _=>Or.inl rfl) (ai nof (Or.inl rfl)))) (ai (by exact (ai (ai rfl rfl) (ai rfl rfl))) (ai (by exact (ai rfl (ai trivial (ai trivial (ai trivial (ai trivial (ai (ai rfl (fun _ _=>rfl)) (ai trivial (ai (ai rfl (fun _ _=>rfl)) (ai trivial trivial)))))))))) (ai (⟨hc.2,by show c.sts.length≤1000000;omega⟩) ?_)))))))
   refine cK (qw) (dO c ((a:Int),true) c.sts.length) (by exact (ai rfl (fun _ _=>rfl))) ((by have:=hal ((a:Int),true);show (dO c ((a:Int),true) c.sts.length).length≤1000000;omega)) ?_
   refine dR (.seq [0,1,2,3,4,5,6,7,8,9]) ?_
   refine ai (by show ((((strOf six).extract ((a:Nat):Int).toNat (IntKind.i64.wrap ((a:Int)+1)).toNat).size+1:Nat):Int)≤9223372036854775807;rw[hx];show ((2:Nat):Int)≤9223372036854775807;decide) ?_
   refine ai (mxL (n:=(eP c a).length+1) (by omega) (by decide)) (ai (fJ 1 rfl) ?_)
   refine ai (mxL (n:=(aX c a).length+1) (by omega) (by decide)) (ai (lt1 rfl) ?_)
   refine ai (ai (by decide) (by decide)) ?_
   refine ai rfl ?_
   refine ai (by show ((((strOf six).extract ((a:Nat):Int).toNat (IntKind.i64.wrap ((a:Int)+1)).toNat).size+1:Nat):Int)≤9223372036854775807;rw[hx];show ((2:Nat):Int)≤9223372036854775807;decide) ?_
   refine ei _ (ai (xR) (ei ((c,((a:Int),false))) (ei [0] (ai (a4 (ai (fun _=>Or.inl rfl) (ai nof (Or.inl rfl)))) (ai (by exact (ai (ai rfl rfl) (ai rfl rfl))) (ai (by exact (ai rfl (ai trivial (ai trivial (ai trivial (ai trivial (ai (ai rfl (fun _ _=>rfl)) (ai trivial (ai (ai rfl (fun _ _=>rfl)) (ai trivial trivial)))))))))) (ai (⟨hc.2,by show c.sts.length≤1000000;omega⟩) ?_)))))))
   refine cK (qw) (dO c ((a:Int),false) c.sts.length) (by exact (ai rfl (fun _ _=>rfl))) ((by have:=hal ((a:Int),false);show (dO c ((a:Int),false) c.sts.length).length≤1000000;omega)) ?_
   refine dR (.seq [0,1,2,3,4,5,6,7,8,9]) ?_
   refine ai (mxL (n:=(jR c a).length+1) (by omega) (by decide)) (ai (fJ 1 rfl) ?_)
   refine ai (mxL (n:=((aX c a).length+1)+1) (by omega) (by decide)) (ai (lt1 rfl) ?_)
   refine nX (a) (ai (ai (fun _=>rfl) (aH (by omega))) rfl) (ai (ai (ai (ai nof rfl) rfl) (ai (ai (ai nof (ai rfl (fun _ _=>rfl))) rfl) (ai (ai rfl (ai rfl (ai ?_ ?_))) (ai (ai rfl (ai rfl (ai ?_ ?_))) (ai rfl (ai rfl (ai ?_ ?_))))))) trivial) trivial
   ·have:=jB c (a+1)
    show (aX c a).length+1+1=(aX c (a+1)).length
    omega
   ·rw[aX]
    refine bS (l:=aX c a++[oH c a true]) (x:=oH c a false) (by rw[aao];rfl) (fun q hq=>?_) ?_
    ·exact bS (l:=aX c a) (x:=oH c a true) rfl (fun _ _=>.of rfl) (sw (by show (strOf six).extract _ _++strOf [112]=_;rw[hx];rfl)) q (by rw[aao] at hq;exact hq)
    ·exact sw (by show (strOf six).extract _ _++strOf [109]=_;rw[hx];rfl)
   ·rw[hpl,kX]
   ·show ∀k,k<(eP c a).length+1→bI (eP c a).length (fun k=>[iP ((eP c a).getD k 0)]) (aU 1 [iP (IntKind.i64.wrap (aS c+((aX c a).length:Int)))]) k=[iP ((eP c (a+1)).getD k 0)]
    rw[qI,hpe];exact dK _ _
   ·rw[hmil,oF]
   ·show ∀k,k<(jR c a).length+1→bI (jR c a).length (fun k=>[iP ((jR c a).getD k 0)]) (aU 1 [iP (IntKind.i64.wrap (aS c+(((aX c a).length+1:Nat):Int)))]) k=[iP ((jR c (a+1)).getD k 0)]
    rw[yZ,hpm];exact dK _ _
  have ea:a=c.act.toNat:=by omega
  refine ei _ (ai (adN) (ei (gF c) (ei [] (ai (a4 (ai (fun _=>Or.inl rfl) (ai nof (Or.inl rfl)))) (ai ?_ (ai (by exact trivial) (ai (aa9 hc) ?_)))))))
  ·refine (ai (iE rfl) (ai (ai rfl (fun _ _=>rfl)) (ai (ai ?_ ?_) (ai (ai ?_ ?_) (ai ?_ ?_)))))
   all_goals rw[ea]
   all_goals (first | rfl | exact fun _ _=>rfl)
  refine bN (bH (gF c)=0) (fun q=>?_) fun q=>?_
  ·exact absurd (of_decide_eq_true hB) q
  refine ei [0] (ai (ai rfl (ai rfl rfl)) (ai ?_ ?_))
  ·refine (ai (ai (iE rfl) (ai (ai rfl (fun _ _=>rfl)) (ai (ai ?_ ?_) (ai (ai ?_ ?_) (ai ?_ ?_))))) rfl)
   all_goals rw[ea]
   all_goals (first | rfl | exact fun _ _=>rfl)
  ·exact (ai rfl (ai rfl (ai trivial (ai rfl (ai (ai rfl (fun _ _=>rfl)) (ai (ai rfl (fun _ _=>rfl)) (ai (ai rfl (fun _ _=>rfl)) (ai (ai rfl (fun _ _=>rfl)) (ai (ai rfl (fun _ _=>rfl)) (ai rfl (fun _ _=>rfl)))))))))))
set_option maxHeartbeats 16000000 in
theorem abP:rX Tryz.prog 96 (avi false fun c=>.tup [.p false (.agg [iP 0,aaO,aaO,aaO,aaO]),.p false (iP 12)]):=by
 refine vG Tryz.func96 ?_
 rintro (c:aA) hpre
 obtain ⟨hc,hB⟩:=hpre
 have hc:kL c:=hc
 have hB:decide (bH (gF c)=0)=false:=hB
 have hs:=iZ hc.1
 obtain ⟨⟨ha1,ha6⟩,hi16,hs24,ht32⟩:=dY hc
 have hb:aS c=2*c.act+c.ins.length:=rfl
 have hon:∀k,(bO c k).length≤c.trs.length:=fun k=>lq c _ _ _
 have hof:∀k,(cO c k).length≤c.trs.length:=fun k=>lq c _ _ _
 have hal:∀x,(dO c x c.sts.length).length≤c.sts.length:=fun x=>sQ c x _
 have htm:=lD c c.sts.length
 have hml:=nN c c.sts.length
 have hlp:∀k,afg (c,k):=fun k=>⟨hc.2,by show c.trs.length≤1000000;omega⟩
 refine dR (.one 0 (.one 1 (.one 2 (.one 3 (.one 4 (.one 5 (.one 6 (.one 7 (.one 8 (.one 9 (.alt 10 (.one 11 (.one 12 (.one 13 .done))) (.alt 12 (.one 10 (.one 11 (.one 13 .done))) .stop)))))))))))) ?_
 refine ai ?_ (ai ?_ trivial)
 all_goals
  refine cK (al3) (c.ins) (by exact (ai rfl (fun _ _=>rfl))) ((by show c.ins.length≤1000000;omega)) ?_
  refine qo mixed iC Tryz.func154 rfl rfl ?_
  refine ai rfl ?_
  refine fR (c.sts.length) (fun k=>[(16,.s (iA k))]) (fun k=>[⟨0,106,agu c (eY c k)⟩]) (fun k=>True) ?_ ?_ ?_ ?_
  ·exact (ai (ai (fun _=>rfl) (iE (by omega))) rfl)
  ·exact (ai (ai (ai (ai nof rfl) rfl) (ai rfl (ai (ai (ai nof rfl) rfl) (ai (ai (ai nof (ai rfl (fun _ _=>rfl))) rfl) (ai (ai (ai nof (ai rfl (fun _ _=>rfl))) rfl) (ai (ai (ai nof (ai rfl (fun _ _=>rfl))) rfl) (ai (ai (ai nof (ai rfl (fun _ _=>rfl))) rfl) (ai (ai (ai nof (ai rfl (fun _ _=>rfl))) rfl) (ai (ai nof (ai rfl (fun _ _=>rfl))) rfl))))))))) trivial)
  ·trivial
  intro (k:Nat) ⟨hk,_⟩
  have hl:=vN c k
  refine bL (k<c.sts.length) (fun g=>?_) fun g=>?_
  ·refine ei _ (ai (ahm) (ei ((c,k)) (ei [0] (ai (a4 (ai (fun _=>Or.inl rfl) (ai nof (Or.inl rfl)))) (ai (by exact (ai (ai rfl rfl) (ai rfl (ai rfl trivial)))) (ai (by exact (ai rfl (ai trivial (ai trivial (ai trivial (ai trivial (ai trivial (ai (ai rfl (fun _ _=>rfl)) (ai trivial (ai trivial (ai rfl (fun _ _=>rfl)))))))))))) (ai (hlp k) ?_)))))))
   refine ei _ (ai (ah9) (ei ((c,k)) (ei [0] (ai (a4 (ai (fun _=>Or.inl rfl) (ai nof (Or.inl rfl)))) (ai (by exact (ai (ai rfl rfl) (ai rfl (ai rfl trivial)))) (ai (by exact (ai rfl (ai trivial (ai trivial (ai trivial (ai trivial (ai trivial (ai (ai rfl (fun _ _=>rfl)) (ai trivial (ai trivial (ai rfl (fun _ _=>rfl)))))))))))) (ai (hlp k) ?_)))))))
   refine cK (qw) (bO c k) (by exact (ai rfl (fun _ _=>rfl))) ((by have:=hon k;show (bO c k).length≤1000000;omega)) ?_
   refine cK (qw) (cO c k) (by exact (ai rfl (fun _ _=>rfl))) ((by have:=hof k;show (cO c k).length≤1000000;omega)) ?_
   refine ah (p:=0<(bO c k).length) (by exact aB (show (0:Int)<(((bO c k).length:Nat):Int)↔_ by omega)) (fun g1=>?_) (fun g1=>?_)
   ·refine ah (p:=0<(cO c k).length) (by exact aB (show (0:Int)<(((cO c k).length:Nat):Int)↔_ by omega)) (fun g2=>?_) (fun g2=>?_)
    ·refine dR (.seq [0,1,2,3,4,5,6,7,8]) ?_
     refine cK (alu) (aF (bO c k)) (by exact (ai rfl (ai rfl (ai rfl (fun _ _=>rfl))))) (trivial) ?_
     refine cK (abb) ((2,aU 3 (ko (aF (cO c k))++ko (mE (aF (bO c k)))))) (by exact (ai rfl (fun _ _=>rfl))) (trivial) ?_
     have e:p9 c k=uF (aF (cO c k)) (mE (aF (bO c k))):=if_pos ⟨g1,g2⟩
     have hLe:cu [sP ([120]++dec k),iP 1,iP (aF (bO c k)).op,iP (aF (bO c k)).idx,.seq (aF (bO c k)).args.length (jo (aF (bO c k)).args),iP 3,iP 0,.seq 2 (aU 3 (ko (aF (cO c k))++ko (mE (aF (bO c k))))),iP 0,bP ((k:Int)==0)] (sgK (mF c k)):=by
      unfold mF
      rw[e]
      exact vv (x:=uF (aF (cO c k)) (mE (aF (bO c k)))) (amf _ _)
     refine gI (pR) (⟨c,(eY c k).length,sD (eY c k),[120],k,aaQ,iP 1,iP (aF (bO c k)).op,iP (aF (bO c k)).idx,.seq (aF (bO c k)).args.length (jo (aF (bO c k)).args),iP 3,iP 0,.seq 2 (aU 3 (ko (aF (cO c k))++ko (mE (aF (bO c k))))),iP 0,bP ((k:Int)==0)⟩) [0,3] (by exact (ai (ai rfl rfl) (ai rfl (ai rfl (ai rfl (ai rfl (ai rfl (ai rfl (ai (ai rfl (fun _ _=>rfl)) (ai rfl (ai rfl (ai (ai rfl (fun _ _=>rfl)) (ai rfl rfl))))))))))))) (by exact (ai (ai rfl (ai rfl (ai rfl (ai rfl (ai (ai rfl (fun _ _=>rfl)) (ai (ai rfl (fun _ _=>rfl)) (ai (ai rfl (fun _ _=>rfl)) (ai (ai rfl (fun _ _=>rfl)) (ai (ai rfl (fun _ _=>rfl)) (ai rfl (fun _ _=>rfl))))))))))) (ai rfl (ai rfl (ai rfl (fun _ _=>rfl)))))) (⟨by show (eY c k).length≤1000;omega,by show k<100;omega,by show 1≤10;omega⟩) ?_
     refine nX (k) (ai (ai (fun _=>rfl) (aH (by omega))) rfl) (ai (ai (ai (ai nof rfl) rfl) (ai (ai rfl (ai rfl (ai ?_ ?_))) (ai (ai (ai nof rfl) rfl) (ai (ai (ai nof (ai rfl (fun _ _=>rfl))) rfl) (ai (ai (ai nof (ai rfl (fun _ _=>rfl))) rfl) (ai (ai (ai nof (ai rfl (fun _ _=>rfl))) rfl) (ai (ai (ai nof (ai rfl (fun _ _=>rfl))) rfl) (ai (ai (ai nof (ai rfl (fun _ _=>rfl))) rfl) (ai (ai nof (ai rfl (fun _ _=>rfl))) rfl))))))))) trivial) trivial
     ·rw[bW,aao];rfl
     ·rw[bW]
      exact bS rfl (fun _ _=>.of rfl) hLe
    ·have e:p9 c k=aF (cO c k):=if_neg (fun h=>g2 h.2)
     have hLe:cu [sP ([120]++dec k),iP 1,iP (aF (bO c k)).op,iP (aF (bO c k)).idx,.seq (aF (bO c k)).args.length (jo (aF (bO c k)).args),iP (aF (cO c k)).op,iP (aF (cO c k)).idx,.seq (aF (cO c k)).args.length (jo (aF (cO c k)).args),iP 0,bP ((k:Int)==0)] (sgK (mF c k)):=by
      unfold mF
      rw[e]
      exact vv (.refl _)
     refine gI (pR) (⟨c,(eY c k).length,sD (eY c k),[120],k,aaQ,iP 1,iP (aF (bO c k)).op,iP (aF (bO c k)).idx,.seq (aF (bO c k)).args.length (jo (aF (bO c k)).args),iP (aF (cO c k)).op,iP (aF (cO c k)).idx,.seq (aF (cO c k)).args.length (jo (aF (cO c k)).args),iP 0,bP ((k:Int)==0)⟩) [0,3] (by exact (ai (ai rfl rfl) (ai rfl (ai rfl (ai rfl (ai rfl (ai rfl (ai rfl (ai (ai rfl (fun _ _=>rfl)) (ai rfl (ai rfl (ai (ai rfl (fun _ _=>rfl)) (ai rfl rfl))))))))))))) (by exact (ai (ai rfl (ai rfl (ai rfl (ai rfl (ai (ai rfl (fun _ _=>rfl)) (ai (ai rfl (fun _ _=>rfl)) (ai (ai rfl (fun _ _=>rfl)) (ai (ai rfl (fun _ _=>rfl)) (ai (ai rfl (fun _ _=>rfl)) (ai rfl (fun _ _=>rfl))))))))))) (ai rfl (ai rfl (ai rfl (fun _ _=>rfl)))))) (⟨by show (eY c k).length≤1000;omega,by show k<100;omega,by show 1≤10;omega⟩) ?_
     refine nX (k) (ai (ai (fun _=>rfl) (aH (by omega))) rfl) (ai (ai (ai (ai nof rfl) rfl) (ai (ai rfl (ai rfl (ai ?_ ?_))) (ai (ai (ai nof rfl) rfl) (ai (ai (ai nof (ai rfl (fun _ _=>rfl))) rfl) (ai (ai (ai nof (ai rfl (fun _ _=>rfl))) rfl) (ai (ai (ai nof (ai rfl (fun _ _=>rfl))) rfl) (ai (ai (ai nof (ai rfl (fun _ _=>rfl))) rfl) (ai (ai (ai nof (ai rfl (fun _ _=>rfl))) rfl) (ai (ai nof (ai rfl (fun _ _=>rfl))) rfl))))))))) trivial) trivial
     ·rw[bW,aao];rfl
     ·rw[bW]
      exact bS rfl (fun _ _=>.of rfl) hLe
   ·have e:p9 c k=aF (cO c k):=if_neg (fun h=>g1 h.1)
    have hLe:cu [sP ([120]++dec k),iP 1,iP (aF (bO c k)).op,iP (aF (bO c k)).idx,.seq (aF (bO c k)).args.length (jo (aF (bO c k)).args),iP (aF (cO c k)).op,iP (aF (cO c k)).idx,.seq (aF (cO c k)).args.length (jo (aF (cO c k)).args),iP 0,bP ((k:Int)==0)] (sgK (mF c k)):=by
     unfold mF
     rw[e]
     exact vv (.refl _)
    refine gI (pR) (⟨c,(eY c k).length,sD (eY c k),[120],k,aaQ,iP 1,iP (aF (bO c k)).op,iP (aF (bO c k)).idx,.seq (aF (bO c k)).args.length (jo (aF (bO c k)).args),iP (aF (cO c k)).op,iP (aF (cO c k)).idx,.seq (aF (cO c k)).args.length (jo (aF (cO c k)).args),iP 0,bP ((k:Int)==0)⟩) [0,3] (by exact (ai (ai rfl rfl) (ai rfl (ai rfl (ai rfl (ai rfl (ai rfl (ai rfl (ai (ai rfl (fun _ _=>rfl)) (ai rfl (ai rfl (ai (ai rfl (fun _ _=>rfl)) (ai rfl rfl))))))))))))) (by exact (ai (ai rfl (ai rfl (ai rfl (ai rfl (ai (ai rfl (fun _ _=>rfl)) (ai (ai rfl (fun _ _=>rfl)) (ai (ai rfl (fun _ _=>rfl)) (ai (ai rfl (fun _ _=>rfl)) (ai (ai rfl (fun _ _=>rfl)) (ai rfl (fun _ _=>rfl))))))))))) (ai rfl (ai rfl (ai rfl (fun _ _=>rfl)))))) (⟨by show (eY c k).length≤1000;omega,by show k<100;omega,by show 1≤10;omega⟩) ?_
    refine nX (k) (ai (ai (fun _=>rfl) (aH (by omega))) rfl) (ai (ai (ai (ai nof rfl) rfl) (ai (ai rfl (ai rfl (ai ?_ ?_))) (ai (ai (ai nof rfl) rfl) (ai (ai (ai nof (ai rfl (fun _ _=>rfl))) rfl) (ai (ai (ai nof (ai rfl (fun _ _=>rfl))) rfl) (ai (ai (ai nof (ai rfl (fun _ _=>rfl))) rfl) (ai (ai (ai nof (ai rfl (fun _ _=>rfl))) rfl) (ai (ai (ai nof (ai rfl (fun _ _=>rfl))) rfl) (ai (ai nof (ai rfl (fun _ _=>rfl))) rfl))))))))) trivial) trivial
    ·rw[bW,aao];rfl
    ·rw[bW]
     exact bS rfl (fun _ _=>.of rfl) hLe
  have e0:dn c 0=eY c k:=by rw[show k=c.sts.length by omega];rfl
  clear g hl
  refine fR (c.sts.length) (fun j=>[(59,.s (iA j))]) (fun j=>[⟨0,106,agu c (dn c j)⟩]) (fun j=>True) ?_ ?_ ?_ ?_
  ·exact (ai (ai (fun _=>rfl) (iE (by omega))) rfl)
  ·refine (ai (ai (ai (ai nof rfl) rfl) (ai (ai rfl (ai rfl (ai ?_ ?_))) (ai (ai (ai nof rfl) rfl) (ai (ai (ai nof (ai rfl (fun _ _=>rfl))) rfl) (ai (ai (ai nof (ai rfl (fun _ _=>rfl))) rfl) (ai (ai (ai nof (ai rfl (fun _ _=>rfl))) rfl) (ai (ai (ai nof (ai rfl (fun _ _=>rfl))) rfl) (ai (ai (ai nof (ai rfl (fun _ _=>rfl))) rfl) (ai (ai nof (ai rfl (fun _ _=>rfl))) rfl))))))))) trivial)
   ·rw[e0]
   ·rw[e0];exact fun _ _=>.of rfl
  ·trivial
  intro (j:Nat) ⟨hj,_⟩
  have hl:=qP c j
  have htj:=lD c j
  refine bL (j<c.sts.length) (fun g=>?_) fun g=>?_
  ·refine iX (j) (c.sts.length) ?_
   refine ah (p:=0<(c.sts.getD j st0).wt) (aB Iff.rfl) (fun g1=>?_) (fun g1=>?_)
   ·have e1:dn c (j+1)=dn c j++[acH c j]:=by rw[dn,if_pos g1]
    have em:=sS c (n:=c.sts.length) g
    refine dR (.one 0 (.one 1 (.one 2 (.one 3 (.one 4 (.one 5 (.one 6 (.one 7 (.one 8 (.one 10 (.one 11 (.one 9 (.one 12 (.wr 13 .done)))))))))))))) ?_
    refine iX (j) ((dL c c.sts.length).length) ?_
    refine cK (jD) ((dL c c.sts.length).getD j 0) (by exact (iE (by simp only[zz,reduceCtorEq]))) (trivial) ?_
    refine gI (pR) (⟨c,(dn c j).length,sD (dn c j),[116],j,aaQ,iP 2,iP 1,iP ((dL c c.sts.length).getD j 0),aaO,iP 0,iP 0,aaO,iP (c.sts.getD j st0).wt,bP false⟩) [0,4] (by exact (ai (ai rfl rfl) (ai rfl (ai rfl (ai rfl (ai rfl (ai rfl (ai rfl (ai rfl (ai rfl (ai rfl (ai rfl (ai (iE (by simp only[zz,reduceCtorEq])) rfl))))))))))))) (by exact (ai (ai rfl (ai rfl (ai rfl (ai rfl (ai (ai rfl (fun _ _=>rfl)) (ai (ai rfl (fun _ _=>rfl)) (ai (ai rfl (fun _ _=>rfl)) (ai (ai rfl (fun _ _=>rfl)) (ai (ai rfl (fun _ _=>rfl)) (ai rfl (fun _ _=>rfl))))))))))) (ai rfl (ai rfl (ai rfl (fun _ _=>rfl)))))) (⟨by show (dn c j).length≤1000;omega,by show j<100;omega,by show 1≤10;omega⟩) ?_
    refine nX (j) (ai (ai (fun _=>rfl) (aH (by omega))) rfl) (ai (ai (ai (ai nof rfl) rfl) (ai (ai rfl (ai rfl (ai ?_ ?_))) (ai (ai (ai nof rfl) rfl) (ai (ai (ai nof (ai rfl (fun _ _=>rfl))) rfl) (ai (ai (ai nof (ai rfl (fun _ _=>rfl))) rfl) (ai (ai (ai nof (ai rfl (fun _ _=>rfl))) rfl) (ai (ai (ai nof (ai rfl (fun _ _=>rfl))) rfl) (ai (ai (ai nof (ai rfl (fun _ _=>rfl))) rfl) (ai (ai nof (ai rfl (fun _ _=>rfl))) rfl))))))))) trivial) trivial
    ·rw[e1,aao];rfl
    ·rw[e1]
     exact bS rfl (fun _ _=>.of rfl) (by unfold acH;rw[←em];exact ac1)
   ·have e1:dn c (j+1)=dn c j:=by rw[dn,if_neg g1]
    refine nX (j) (ai (ai (fun _=>rfl) (aH (by omega))) rfl) (ai (ai (ai (ai nof rfl) rfl) (ai (ai rfl (ai rfl (ai ?_ ?_))) (ai (ai (ai nof rfl) rfl) (ai (ai (ai nof (ai rfl (fun _ _=>rfl))) rfl) (ai (ai (ai nof (ai rfl (fun _ _=>rfl))) rfl) (ai (ai (ai nof (ai rfl (fun _ _=>rfl))) rfl) (ai (ai (ai nof (ai rfl (fun _ _=>rfl))) rfl) (ai (ai (ai nof (ai rfl (fun _ _=>rfl))) rfl) (ai (ai nof (ai rfl (fun _ _=>rfl))) rfl))))))))) trivial) trivial
    all_goals rw[e1]
    exact fun _ _=>.of rfl
  have e0:fP c 0=dn c j:=by rw[show j=c.sts.length by omega];exact ape _
  clear g hl htj
  refine fR (c.trs.length) (fun i=>[(38,.s (iA i))]) (fun i=>[⟨0,106,agu c (fP c i)⟩]) (fun i=>True) ?_ ?_ ?_ ?_
  ·exact (ai (ai (fun _=>rfl) (iE (by omega))) rfl)
  ·refine (ai (ai (ai (ai nof rfl) rfl) (ai (ai rfl (ai rfl (ai ?_ ?_))) (ai (ai (ai nof rfl) rfl) (ai (ai (ai nof (ai rfl (fun _ _=>rfl))) rfl) (ai (ai (ai nof (ai rfl (fun _ _=>rfl))) rfl) (ai (ai (ai nof (ai rfl (fun _ _=>rfl))) rfl) (ai (ai (ai nof (ai rfl (fun _ _=>rfl))) rfl) (ai (ai (ai nof (ai rfl (fun _ _=>rfl))) rfl) (ai (ai nof (ai rfl (fun _ _=>rfl))) rfl))))))))) trivial)
   ·rw[e0]
   ·rw[e0];exact fun _ _=>.of rfl
  ·trivial
  intro (i:Nat) ⟨hi,_⟩
  have hl:=jC c i
  refine bL (i<c.trs.length) (fun g=>?_) fun g=>?_
  ·by_cases hcl:aeD c i=true
   ·refine ei _ (ai (ad5) (ei ((c,i)) (ei [0] (ai (a4 (ai (fun _=>Or.inl rfl) (ai nof (Or.inl rfl)))) (ai (by exact (ai (ai rfl rfl) rfl)) (ai (by exact (ai rfl (ai rfl (ai trivial (ai trivial (ai trivial (ai (ai rfl (fun _ _=>rfl)) (ai (ai rfl (fun _ _=>rfl)) (ai (ai rfl (fun _ _=>rfl)) (ai (ai rfl (fun _ _=>rfl)) (ai rfl (fun _ _=>rfl)))))))))))) (ai (⟨⟨hc,g⟩,hcl⟩) ?_)))))))
    refine dR (.one 0 (.one 1 (.one 2 (.one 3 (.one 4 (.one 5 (.wr 6 .done))))))) ?_
    refine gI (pR) (⟨c,(fP c i).length,sD (fP c i),[122],i,aaQ,iP 0,iP (mI c i).op,iP (mI c i).idx,.seq (mI c i).args.length (jo (mI c i).args),iP 0,iP 0,aaO,iP 0,bP false⟩) [0,5] (by exact (ai (ai rfl rfl) (ai rfl (ai rfl (ai rfl (ai rfl (ai rfl (ai rfl (ai (ai rfl (fun _ _=>rfl)) (ai rfl (ai rfl (ai rfl (ai rfl rfl))))))))))))) (by exact (ai (ai rfl (ai rfl (ai rfl (ai rfl (ai (ai rfl (fun _ _=>rfl)) (ai (ai rfl (fun _ _=>rfl)) (ai (ai rfl (fun _ _=>rfl)) (ai (ai rfl (fun _ _=>rfl)) (ai (ai rfl (fun _ _=>rfl)) (ai rfl (fun _ _=>rfl))))))))))) (ai rfl (ai rfl (ai rfl (fun _ _=>rfl)))))) (⟨by show (fP c i).length≤1000;omega,by show i<100;omega,by show 1≤10;omega⟩) ?_
    refine nX (i) (ai (ai (fun _=>rfl) (aH (by omega))) rfl) (ai (ai (ai (ai nof rfl) rfl) (ai (ai rfl (ai rfl (ai ?_ ?_))) (ai (ai (ai nof rfl) rfl) (ai (ai (ai nof (ai rfl (fun _ _=>rfl))) rfl) (ai (ai (ai nof (ai rfl (fun _ _=>rfl))) rfl) (ai (ai (ai nof (ai rfl (fun _ _=>rfl))) rfl) (ai (ai (ai nof (ai rfl (fun _ _=>rfl))) rfl) (ai (ai (ai nof (ai rfl (fun _ _=>rfl))) rfl) (ai (ai nof (ai rfl (fun _ _=>rfl))) rfl))))))))) trivial) trivial
    ·rw[lQ,aao];rfl
    ·rw[lQ]
     exact bS rfl (fun _ _=>.of rfl) (adP (x:=mI c i))
   ·have hcf:aeD c i=false:=by simpa using hcl
    refine ei _ (ai (ao3) (ei ((c,i)) (ei [0] (ai (a4 (ai (fun _=>Or.inl rfl) (ai nof (Or.inl rfl)))) (ai (by exact (ai (ai rfl rfl) rfl)) (ai (by exact (ai rfl (ai rfl (ai trivial (ai trivial (ai trivial (ai (ai rfl (fun _ _=>rfl)) (ai (ai rfl (fun _ _=>rfl)) (ai (ai rfl (fun _ _=>rfl)) (ai (ai rfl (fun _ _=>rfl)) (ai rfl (fun _ _=>rfl)))))))))))) (ai (⟨⟨hc,g⟩,hcf⟩) ?_)))))))
    refine ei [0] (ai (ai rfl (ai rfl rfl)) (ai ?_ ?_))
    ·exact (ai (ai rfl (ai rfl (ai rfl (ai rfl rfl)))) rfl)
    ·exact (ai rfl (ai rfl (ai trivial (ai rfl (ai (ai rfl (fun _ _=>rfl)) (ai (ai rfl (fun _ _=>rfl)) (ai (ai rfl (fun _ _=>rfl)) (ai (ai rfl (fun _ _=>rfl)) (ai (ai rfl (fun _ _=>rfl)) (ai rfl (fun _ _=>rfl)))))))))))
  have e0:aX c 0=fP c i:=by rw[show i=c.trs.length by omega];rfl
  clear g hl
  have hG:=jC c c.trs.length
  refine fR (c.act.toNat) (fun a=>[(70,.s (iA a))]) (fun a=>[⟨2,32,ctV c (aX c a) (isW (eP c a)) (isW (jR c a))⟩]) (fun a=>True) ?_ ?_ ?_ ?_
  ·exact (ai (ai (fun _=>rfl) (iE (by omega))) rfl)
  ·refine (ai (ai (ai (ai nof rfl) rfl) (ai (ai (ai nof (ai rfl (fun _ _=>rfl))) rfl) (ai (ai rfl (ai rfl (ai ?_ ?_))) (ai rfl rfl)))) trivial)
   ·rw[e0]
   ·rw[e0];exact fun _ _=>.of rfl
  ·trivial
  intro (a:Nat) ⟨hk,_⟩
  have hP:=jB c a
  have hpl:=kX c a
  have hmil:=oF c a
  refine ah (p:=a<c.act.toNat) (by exact aB (show ((a:Nat):Int)<c.act↔_ by omega)) (fun g=>?_) (fun g=>?_)
  ·have hpn:oV c a=aS c+((fP c c.trs.length).length:Int)+2*(a:Int):=rfl
   have hpe:IntKind.i64.wrap (aS c+((aX c a).length:Int))=oV c a:=by rw[dD (by omega) (by omega)];omega
   have hpm:IntKind.i64.wrap (aS c+(((aX c a).length+1:Nat):Int))=oV c a+1:=by rw[dD (by omega) (by omega)];omega
   have hw1:IntKind.i64.wrap ((a:Int)+1)=((a+1:Nat):Int):=aH (by omega)
   have hx:(strOf six).extract ((a:Nat):Int).toNat (IntKind.i64.wrap ((a:Int)+1)).toNat=strOf [UInt8.ofNat (97+a)]:=by
    rw[hw1,ad9,ad9,tY,aaV (by omega)]
   refine ai (ai (aaT _) (ai (by rw[hw1];show (a:Int)≤_;omega) (by rw[hw1];show ((a+1:Nat):Int)≤6;omega))) ?_
   refine ei (mD.unroll 3) ?_
   refine ai (ai (by decide) (by decide)) ?_
   refine ai rfl ?_
   refine ai (by show ((((strOf six).extract ((a:Nat):Int).toNat (IntKind.i64.wrap ((a:Int)+1)).toNat).size+1:Nat):Int)≤9223372036854775807;rw[hx];show ((2:Nat):Int)≤9223372036854775807;decide) ?_
   refine ei _ (ai (xR) (ei ((c,((a:Int),true))) (ei [0] (ai (a4 (ai (fun _=>Or.inl rfl) (ai nof (Or.inl rfl)))) (ai (by exact (ai (ai rfl rfl) (ai rfl rfl))) (ai (by exact (ai rfl (ai trivial (ai trivial (ai trivial (ai trivial (ai (ai rfl (fun _ _=>rfl)) (ai trivial (ai (ai rfl (fun _ _=>rfl)) (ai trivial trivial)))))))))) (ai (⟨hc.2,by show c.sts.length≤1000000;omega⟩) ?_)))))))
   refine cK (qw) (dO c ((a:Int),true) c.sts.length) (by exact (ai rfl (fun _ _=>rfl))) ((by have:=hal ((a:Int),true);show (dO c ((a:Int),true) c.sts.length).length≤1000000;omega)) ?_
   refine dR (.seq [0,1,2,3,4,5,6,7,8,9]) ?_
   refine ai (by show ((((strOf six).extract ((a:Nat):Int).toNat (IntKind.i64.wrap ((a:Int)+1)).toNat).size+1:Nat):Int)≤9223372036854775807;rw[hx];show ((2:Nat):Int)≤9223372036854775807;decide) ?_
   refine ai (mxL (n:=(eP c a).length+1) (by omega) (by decide)) (ai (fJ 1 rfl) ?_)
   refine ai (mxL (n:=(aX c a).length+1) (by omega) (by decide)) (ai (lt1 rfl) ?_)
   refine ai (ai (by decide) (by decide)) ?_
   refine ai rfl ?_
   refine ai (by show ((((strOf six).extract ((a:Nat):Int).toNat (IntKind.i64.wrap ((a:Int)+1)).toNat).size+1:Nat):Int)≤9223372036854775807;rw[hx];show ((2:Nat):Int)≤9223372036854775807;decide) ?_
   refine ei _ (ai (xR) (ei ((c,((a:Int),false))) (ei [0] (ai (a4 (ai (fun _=>Or.inl rfl) (ai nof (Or.inl rfl)))) (ai (by exact (ai (ai rfl rfl) (ai rfl rfl))) (ai (by exact (ai rfl (ai trivial (ai trivial (ai trivial (ai trivial (ai (ai rfl (fun _ _=>rfl)) (ai trivial (ai (ai rfl (fun _ _=>rfl)) (ai trivial trivial)))))))))) (ai (⟨hc.2,by show c.sts.length≤1000000;omega⟩) ?_)))))))
   refine cK (qw) (dO c ((a:Int),false) c.sts.length) (by exact (ai rfl (fun _ _=>rfl))) ((by have:=hal ((a:Int),false);show (dO c ((a:Int),false) c.sts.length).length≤1000000;omega)) ?_
   refine dR (.seq [0,1,2,3,4,5,6,7,8,9]) ?_
   refine ai (mxL (n:=(jR c a).length+1) (by omega) (by decide)) (ai (fJ 1 rfl) ?_)
   refine ai (mxL (n:=((aX c a).length+1)+1) (by omega) (by decide)) (ai (lt1 rfl) ?_)
   refine nX (a) (ai (ai (fun _=>rfl) (aH (by omega))) rfl) (ai (ai (ai (ai nof rfl) rfl) (ai (ai (ai nof (ai rfl (fun _ _=>rfl))) rfl) (ai (ai rfl (ai rfl (ai ?_ ?_))) (ai (ai rfl (ai rfl (ai ?_ ?_))) (ai rfl (ai rfl (ai ?_ ?_))))))) trivial) trivial
   ·have:=jB c (a+1)
    show (aX c a).length+1+1=(aX c (a+1)).length
    omega
   ·rw[aX]
    refine bS (l:=aX c a++[oH c a true]) (x:=oH c a false) (by rw[aao];rfl) (fun q hq=>?_) ?_
    ·exact bS (l:=aX c a) (x:=oH c a true) rfl (fun _ _=>.of rfl) (sw (by show (strOf six).extract _ _++strOf [112]=_;rw[hx];rfl)) q (by rw[aao] at hq;exact hq)
    ·exact sw (by show (strOf six).extract _ _++strOf [109]=_;rw[hx];rfl)
   ·rw[hpl,kX]
   ·show ∀k,k<(eP c a).length+1→bI (eP c a).length (fun k=>[iP ((eP c a).getD k 0)]) (aU 1 [iP (IntKind.i64.wrap (aS c+((aX c a).length:Int)))]) k=[iP ((eP c (a+1)).getD k 0)]
    rw[qI,hpe];exact dK _ _
   ·rw[hmil,oF]
   ·show ∀k,k<(jR c a).length+1→bI (jR c a).length (fun k=>[iP ((jR c a).getD k 0)]) (aU 1 [iP (IntKind.i64.wrap (aS c+(((aX c a).length+1:Nat):Int)))]) k=[iP ((jR c (a+1)).getD k 0)]
    rw[yZ,hpm];exact dK _ _
  have ea:a=c.act.toNat:=by omega
  refine ei _ (ai (adN) (ei (gF c) (ei [] (ai (a4 (ai (fun _=>Or.inl rfl) (ai nof (Or.inl rfl)))) (ai ?_ (ai (by exact trivial) (ai (aa9 hc) ?_)))))))
  ·refine (ai (iE rfl) (ai (ai rfl (fun _ _=>rfl)) (ai (ai ?_ ?_) (ai (ai ?_ ?_) (ai ?_ ?_)))))
   all_goals rw[ea]
   all_goals (first | rfl | exact fun _ _=>rfl)
  refine bN (bH (gF c)=0) (fun q=>?_) fun q=>?_
  ·refine ei [0] (ai (ai rfl (ai rfl rfl)) (ai ?_ ?_))
   ·exact (ai (ai rfl (ai rfl (ai rfl (ai rfl rfl)))) rfl)
   ·exact (ai rfl (ai rfl (ai trivial (ai rfl (ai (ai rfl (fun _ _=>rfl)) (ai (ai rfl (fun _ _=>rfl)) (ai (ai rfl (fun _ _=>rfl)) (ai (ai rfl (fun _ _=>rfl)) (ai (ai rfl (fun _ _=>rfl)) (ai rfl (fun _ _=>rfl)))))))))))
  exact absurd q (of_decide_eq_false hB)
theorem ad8:av Tryz.prog 13 (bQ (fun c:aA=>[jh c]) gN anz):=by
 have h:av Tryz.prog 13 (bQ (fun c:aA=>[jh c]) gN nk):=by
  refine vI [51,95,96,5000029] Tryz.func13 ?_
  rintro (c:aA) hpre
  have ho:gN c:=hpre
  refine qo mixed iC Tryz.func51 rfl rfl ?_
  refine ai rfl ?_
  refine cK (ac7) (c) (by exact (ai rfl (ai (ai rfl (fun _ _=>rfl)) (ai (ai rfl (fun _ _=>rfl)) (ai rfl (fun _ _=>rfl)))))) (ho) ?_
  refine bN (cB c=0) (fun h1=>?_) fun h1=>?_
  ·have e:bM c=cB c:=if_pos h1
   have h2:¬bM c=0:=by rw[e];exact h1
   refine eF (nk c) ?_
   rw[nk,if_neg h2,e]
   exact (ai (ai rfl (ai rfl (ai rfl (ai rfl rfl)))) rfl)
  have hc:kL c:=⟨h1,ho⟩
  obtain ⟨⟨ha1,ha6⟩,hi16,hs24,ht32⟩:=dY hc
  have hb:aS c=2*c.act+c.ins.length:=rfl
  have hwf:IntKind.i64.wrap (IntKind.i64.wrap (2*c.act)+(c.ins.length:Int))=aS c:=by
   rw[dD (n:=2*c.act) (by omega) (by omega),dD (by omega) (by omega)];rfl
  refine gI (abq) (c) [4] (by exact (ai rfl rfl)) (by exact (ai rfl (ai (iE (by omega)) (ai rfl (ai rfl (ai (ai rfl (fun _ _=>rfl)) (ai (ai rfl (fun _ _=>rfl)) (ai (ai rfl (fun _ _=>rfl)) (ai rfl (ai rfl rfl)))))))))) (hc) ?_
  by_cases hB:bH (gF c)=0
  ·have e0:bM c=0:=lN.2 ⟨h1,hB⟩
   refine gI (adG) (c) [4] (by exact (ai rfl rfl)) (by exact (ai rfl (ai rfl (ai rfl (ai rfl (ai (ai rfl (fun _ _=>rfl)) (ai (ai rfl (fun _ _=>rfl)) (ai (ai rfl (fun _ _=>rfl)) (ai (ai rfl (fun _ _=>rfl)) (ai (ai rfl (fun _ _=>rfl)) (ai rfl (fun _ _=>rfl)))))))))))) (⟨hc,decide_eq_true hB⟩) ?_
   refine dR (.seq [0,1,2,3,4,5]) ?_
   refine eF (nk c) ?_
   rw[nk,if_pos e0]
   exact (ai (ai rfl (ai (ai rfl (fun _ _=>rfl)) (ai (ai rfl (fun _ _=>rfl)) (ai (ai rfl (fun _ _=>rfl)) (ai rfl (fun _ _=>rfl)))))) rfl)
  ·have e:bM c=12:=by unfold bM;rw[if_neg (fun h=>h h1),if_pos hB]
   have h2:¬bM c=0:=by rw[e];decide
   refine gI (abP) (c) [4] (by exact (ai rfl rfl)) (by exact (ai rfl (ai rfl (ai rfl (ai rfl (ai (ai rfl (fun _ _=>rfl)) (ai (ai rfl (fun _ _=>rfl)) (ai (ai rfl (fun _ _=>rfl)) (ai (ai rfl (fun _ _=>rfl)) (ai (ai rfl (fun _ _=>rfl)) (ai rfl (fun _ _=>rfl)))))))))))) (⟨hc,decide_eq_false hB⟩) ?_
   refine dR (.seq [0,1,2,3,4,5]) ?_
   refine eF (nk c) ?_
   rw[nk,if_neg h2,e]
   exact (ai (ai rfl (ai rfl (ai rfl (ai rfl rfl)))) rfl)
 exact gW h fun c _=>an6 c
def rH (c:aA) (s:eZ):Int:=if ¬sW c s=0 then sW c s else if (anJ c s).isSome then 0 else 21
theorem ahW:av Tryz.prog 16 (bQ (fun c:aA=>[jh c]) gN (fun c=>adi (bM c) (dL c c.sts.length))):=by
 have h:av Tryz.prog 16 (bQ (fun c:aA=>[jh c]) gN (fun c=>gJ (bM c) (dL c c.sts.length))):=by
  refine vI [51,95,96,5000029] Tryz.func16 ?_
  rintro (c:aA) hpre
  have ho:gN c:=hpre
  refine qo mixed iC Tryz.func51 rfl rfl ?_
  refine ai rfl ?_
  refine cK (ac7) (c) (by exact (ai rfl (ai (ai rfl (fun _ _=>rfl)) (ai (ai rfl (fun _ _=>rfl)) (ai rfl (fun _ _=>rfl)))))) (ho) ?_
  refine bN (cB c=0) (fun h1=>?_) fun h1=>?_
  ·have e:bM c=cB c:=if_pos h1
   have h2:¬bM c=0:=by rw[e];exact h1
   refine bT (by exact bR (p:=True) ⟨fun _=>trivial,fun _=>h1⟩ |>.2 trivial) ?_
   refine eF (gJ (bM c) (dL c c.sts.length)) ?_
   rw[gJ,if_neg h2,e]
   exact (ai rfl rfl)
  have hc:kL c:=⟨h1,ho⟩
  obtain ⟨⟨ha1,ha6⟩,hi16,hs24,ht32⟩:=dY hc
  have hb:aS c=2*c.act+c.ins.length:=rfl
  have hwf:IntKind.i64.wrap (IntKind.i64.wrap (2*c.act)+(c.ins.length:Int))=aS c:=by
   rw[dD (n:=2*c.act) (by omega) (by omega),dD (by omega) (by omega)];rfl
  refine gI (abq) (c) [3] (by exact (ai rfl rfl)) (by exact (ai rfl (ai (iE (by omega)) (ai rfl (ai rfl (ai (ai rfl (fun _ _=>rfl)) (ai (ai rfl (fun _ _=>rfl)) (ai (ai rfl (fun _ _=>rfl)) (ai rfl (ai rfl rfl)))))))))) (hc) ?_
  by_cases hB:bH (gF c)=0
  ·have e0:bM c=0:=lN.2 ⟨h1,hB⟩
   refine gI (adG) (c) [3] (by exact (ai rfl rfl)) (by exact (ai rfl (ai rfl (ai rfl (ai rfl (ai (ai rfl (fun _ _=>rfl)) (ai (ai rfl (fun _ _=>rfl)) (ai (ai rfl (fun _ _=>rfl)) (ai (ai rfl (fun _ _=>rfl)) (ai (ai rfl (fun _ _=>rfl)) (ai rfl (fun _ _=>rfl)))))))))))) (⟨hc,decide_eq_true hB⟩) ?_
   refine dR (.seq [0,1,2,3,4,5]) ?_
   refine eF (gJ (bM c) (dL c c.sts.length)) ?_
   rw[gJ,if_pos e0]
   exact (ai (ai rfl (fun _ _=>rfl)) rfl)
  ·have e:bM c=12:=by unfold bM;rw[if_neg (fun h=>h h1),if_pos hB]
   have h2:¬bM c=0:=by rw[e];decide
   refine gI (abP) (c) [3] (by exact (ai rfl rfl)) (by exact (ai rfl (ai rfl (ai rfl (ai rfl (ai (ai rfl (fun _ _=>rfl)) (ai (ai rfl (fun _ _=>rfl)) (ai (ai rfl (fun _ _=>rfl)) (ai (ai rfl (fun _ _=>rfl)) (ai (ai rfl (fun _ _=>rfl)) (ai rfl (fun _ _=>rfl)))))))))))) (⟨hc,decide_eq_false hB⟩) ?_
   refine dR (.seq [0,1,2,3,4,5]) ?_
   refine eF (gJ (bM c) (dL c c.sts.length)) ?_
   rw[gJ,if_neg h2,e]
   exact (ai rfl rfl)
 exact gW h fun c _=>afR _ _
theorem afZ:av Tryz.prog 18 (bQ (fun c:aA=>[jh c]) gN (fun c=>adi (bM c) (cZ c c.sts.length))):=by
 have h:av Tryz.prog 18 (bQ (fun c:aA=>[jh c]) gN (fun c=>gJ (bM c) (cZ c c.sts.length))):=by
  refine vI [51,95,96,5000029] Tryz.func18 ?_
  rintro (c:aA) hpre
  have ho:gN c:=hpre
  refine qo mixed iC Tryz.func51 rfl rfl ?_
  refine ai rfl ?_
  refine cK (ac7) (c) (by exact (ai rfl (ai (ai rfl (fun _ _=>rfl)) (ai (ai rfl (fun _ _=>rfl)) (ai rfl (fun _ _=>rfl)))))) (ho) ?_
  refine bN (cB c=0) (fun h1=>?_) fun h1=>?_
  ·have e:bM c=cB c:=if_pos h1
   have h2:¬bM c=0:=by rw[e];exact h1
   refine bT (by exact bR (p:=True) ⟨fun _=>trivial,fun _=>h1⟩ |>.2 trivial) ?_
   refine eF (gJ (bM c) (cZ c c.sts.length)) ?_
   rw[gJ,if_neg h2,e]
   exact (ai rfl rfl)
  have hc:kL c:=⟨h1,ho⟩
  obtain ⟨⟨ha1,ha6⟩,hi16,hs24,ht32⟩:=dY hc
  have hb:aS c=2*c.act+c.ins.length:=rfl
  have hwf:IntKind.i64.wrap (IntKind.i64.wrap (2*c.act)+(c.ins.length:Int))=aS c:=by
   rw[dD (n:=2*c.act) (by omega) (by omega),dD (by omega) (by omega)];rfl
  refine gI (abq) (c) [3] (by exact (ai rfl rfl)) (by exact (ai rfl (ai (iE (by omega)) (ai rfl (ai rfl (ai (ai rfl (fun _ _=>rfl)) (ai (ai rfl (fun _ _=>rfl)) (ai (ai rfl (fun _ _=>rfl)) (ai rfl (ai rfl rfl)))))))))) (hc) ?_
  by_cases hB:bH (gF c)=0
  ·have e0:bM c=0:=lN.2 ⟨h1,hB⟩
   refine gI (adG) (c) [3] (by exact (ai rfl rfl)) (by exact (ai rfl (ai rfl (ai rfl (ai rfl (ai (ai rfl (fun _ _=>rfl)) (ai (ai rfl (fun _ _=>rfl)) (ai (ai rfl (fun _ _=>rfl)) (ai (ai rfl (fun _ _=>rfl)) (ai (ai rfl (fun _ _=>rfl)) (ai rfl (fun _ _=>rfl)))))))))))) (⟨hc,decide_eq_true hB⟩) ?_
   refine dR (.seq [0,1,2,3,4,5]) ?_
   refine eF (gJ (bM c) (cZ c c.sts.length)) ?_
   rw[gJ,if_pos e0]
   exact (ai (ai rfl (fun _ _=>rfl)) rfl)
  ·have e:bM c=12:=by unfold bM;rw[if_neg (fun h=>h h1),if_pos hB]
   have h2:¬bM c=0:=by rw[e];decide
   refine gI (abP) (c) [3] (by exact (ai rfl rfl)) (by exact (ai rfl (ai rfl (ai rfl (ai rfl (ai (ai rfl (fun _ _=>rfl)) (ai (ai rfl (fun _ _=>rfl)) (ai (ai rfl (fun _ _=>rfl)) (ai (ai rfl (fun _ _=>rfl)) (ai (ai rfl (fun _ _=>rfl)) (ai rfl (fun _ _=>rfl)))))))))))) (⟨hc,decide_eq_false hB⟩) ?_
   refine dR (.seq [0,1,2,3,4,5]) ?_
   refine eF (gJ (bM c) (cZ c c.sts.length)) ?_
   rw[gJ,if_neg h2,e]
   exact (ai rfl rfl)
 exact gW h fun c _=>afR _ _
structure VaA where
 o:List Bool
 a:List Bool
 d:List Bool
def avW (x:VaA):Prop:=0<x.o.length∧x.o.length≤1000∧x.a.length≤1000∧x.d.length=x.a.length
def vaK (x:VaA) (k:Nat):List Bool:=x.o++(List.range k).map (abB x.a x.d)
theorem xZ (x:VaA) (k:Nat):(vaK x k).length=x.o.length+k:=by unfold vaK;rw[aao,kN]
theorem ajn (x:VaA) (k:Nat):vaK x (k+1)=vaK x k++[abB x.a x.d k]:=by unfold vaK;rw[aaE,auY]
theorem aqC:av Tryz.prog 63 (bq (fun x:VaA=>[rY x.o,rY x.a,rY x.d]) avW (fun x=>kH (vaK x x.a.length))):=by
 refine vI [61] Tryz.func63 ?_
 rintro (x:VaA) hpre
 obtain ⟨h0,h1,h2,h3⟩:=hpre
 have h0:0<x.o.length:=h0
 have h1:x.o.length≤1000:=h1
 have h2:x.a.length≤1000:=h2
 have h3:x.d.length=x.a.length:=h3
 refine qo mixed iC Tryz.func61 rfl rfl ?_
 refine ai rfl ?_
 intro b hb
 refine gV (fun hb0=>?_) (fun hb0=>?_)
 ·have hb1:x.o.length=0:=hb hb0
  exact absurd hb1 (by omega)
 refine ai (mxL (n:=0+x.o.length) (by omega) (by decide)) (ai (fun _ _=>rfl) ?_)
 refine fR (x.a.length) (fun k=>[(14,.s (iA k)),(7,bsR (vaK x k))]) (fun k=>[]) (fun k=>True) ?_ ?_ ?_ ?_
 ·refine (ai (ai (ai (fun _=>rfl) (iE (by omega))) rfl) (ai rfl (ai rfl (ai ?_ ?_))))
  ·show 0+x.o.length=(vaK x 0).length
   rw[xZ];omega
  ·intro q hq
   have hq:q<0+x.o.length:=hq
   show bI 0 (aU 1 []) (fun k=>[bP (x.o.getD k false)]) q=[bP ((vaK x 0).getD q false)]
   rw[ab9 q hq]
   show [bP (x.o.getD q false)]=[bP ((x.o++[]).getD q false)]
   rw[ape]
 ·exact trivial
 ·trivial
 intro (k:Nat) ⟨hk,_⟩
 have hlk:=xZ x k
 refine bL (k<x.a.length) (fun g=>?_) fun g=>?_
 ·refine iX (k) (x.a.length) ?_
  refine aC (b:=x.a.getD k false) rfl (fun q=>?_) (fun q=>?_)
  ·refine iX (k) (x.d.length) ?_
   refine ai (mxL (n:=(vaK x k).length+1) (by omega) (by decide)) (ai (fJ 1 rfl) ?_)
   refine nX (k) (ai (ai (ai (fun _=>rfl) (aH (by omega))) rfl) (ai rfl (ai rfl (ai ?_ ?_)))) trivial trivial
   ·rw[xZ,xZ];rfl
   ·rw[ajn,show abB x.a x.d k=x.d.getD k false by unfold abB;rw[q,ac9]];exact aaW _ _
  ·refine ai (mxL (n:=(vaK x k).length+1) (by omega) (by decide)) (ai (fJ 1 rfl) ?_)
   refine nX (k) (ai (ai (ai (fun _=>rfl) (aH (by omega))) rfl) (ai rfl (ai rfl (ai ?_ ?_)))) trivial trivial
   ·rw[xZ,xZ];rfl
   ·rw[ajn,show abB x.a x.d k=false by unfold abB;rw[q,aoc]];exact aaW _ _
 ·obtain rfl:k=x.a.length:=by omega
  refine eN _ ?_
  exact (ai rfl (fun _ _=>rfl))
def axp (c:aA):Ob:=.cells 106 [iA (aS c),.any,.any,.any,.any,.any,.any,.any,.any]
theorem an1:av Tryz.prog 60 { A:=aA×eZ,args:=fun a=>[.own 0 0,rQ (gF a.1),yR a.2],objs:=fun a=>[axp a.1],pre:=fun a=>rSt a∧afj a.2,res:=fun a=>.tup [kH (wS a.1 a.2),iP 0],objs':=fun _=>[],fresh:=true,ro:=1 }:=by
 refine vF Tryz.func60 ?_
 rintro ⟨c,s⟩ hpre
 obtain ⟨hr,hsl⟩:=hpre
 have hr:rSt (c,s):=hr
 obtain ⟨_,_,_,hl,_⟩:=wE hr
 have hc:kL c:=hr.1
 obtain ⟨⟨ha1,ha6⟩,hi16,hs24,ht32⟩:=dY hc
 have hb:aS c=2*c.act+c.ins.length:=rfl
 have hln:dx (gF c)=aS c+(gF c).sgs.length:=rfl
 have htl:∀k,k≤(aS c).toNat→((fC s).take k).length=k:=fun k hk=>by rw[arM];omega
 refine fR ((aS c).toNat) (fun k=>[(17,.s (iA k)),(8,bsR ((fC s).take k))]) (fun k=>[]) (fun k=>True) ?_ ?_ ?_ ?_
 ·exact (ai (ai (ai (fun _=>rfl) (iE (by omega))) rfl) rfl)
 ·exact trivial
 ·trivial
 intro (k:Nat) ⟨hk,_⟩
 have hlk:=htl k hk
 refine ah (p:=k<(aS c).toNat) (by exact aB (show ((k:Nat):Int)<aS c↔_ by omega)) (fun g=>?_) (fun g=>?_)
 ·refine cK (apM) ((gF c,s,k)) (by exact (ai (ai rfl (ai (ai rfl (fun _ _=>rfl)) (ai (ai rfl (fun _ _=>rfl)) (ai (ai rfl (fun _ _=>rfl)) (ai rfl (fun _ _=>rfl)))))) (ai (ai (ai rfl (fun _ _=>rfl)) (ai (ai rfl (fun _ _=>rfl)) (ai (ai rfl (fun _ _=>rfl)) (ai (ai rfl (fun _ _=>rfl)) (ai rfl (fun _ _=>rfl)))))) rfl))) (⟨aa9 hc,hsl,hr.2.2,hr.2.1,by show ((k:Nat):Int)<dx (gF c);omega⟩) ?_
  refine ai (mxL (n:=((fC s).take k).length+1) (by omega) (by decide)) (ai (fJ 1 rfl) ?_)
  refine nX (k) (ai (ai (ai (fun _=>rfl) (aH (by omega))) rfl) (ai rfl (ai rfl (ai ?_ ?_)))) trivial trivial
  ·rw[htl k (by omega),htl (k+1) (by omega)]
  ·rw[aO false (by omega)];exact aaW _ _
 ·have ek:k=(aS c).toNat:=by omega
  refine eN (.tup [kH (wS c s),iP 0]) ?_
  rw[show wS c s=(fC s).take k by rw[ek];rfl]
  exact (ai (ai rfl (fun _ _=>rfl)) rfl)
def awZ (c:aA):Ob:=.cells 106 [iA (aS c),.any,.any,.any,.any,.any,.any,ajl c,.any]
theorem arb:av Tryz.prog 62 { A:=aA×eZ,args:=fun a=>[.own 0 0,yR a.2],objs:=fun a=>[awZ a.1],pre:=rSt,res:=fun a=>kH (aiE a.1 a.2),objs':=fun _=>[],fresh:=true,ro:=1 }:=by
 refine vF Tryz.func62 ?_
 rintro ⟨c,s⟩ hpre
 have hr:rSt (c,s):=hpre
 obtain ⟨he,hin,hvl,hl,_⟩:=wE hr
 have hc:kL c:=hr.1
 have hs:=iZ hc.1
 obtain ⟨⟨ha1,ha6⟩,hi16,hs24,ht32⟩:=dY hc
 have hb:aS c=2*c.act+c.ins.length:=rfl
 have hp:=jB c c.act.toNat
 have hg:=jC c c.trs.length
 have hsg:(gF c).sgs.length=(aX c c.act.toNat).length:=rfl
 have hcl:=o7 c c.sts.length
 have hev:=wC s.en
 refine fR (c.sts.length) (fun k=>[(13,.s (iA k)),(5,bsR ((List.range k).map (vY c s)))]) (fun k=>[]) (fun k=>True) ?_ ?_ ?_ ?_
 ·exact (ai (ai (ai (fun _=>rfl) (iE (by omega))) rfl) rfl)
 ·exact trivial
 ·trivial
 intro (k:Nat) ⟨hk,_⟩
 have hlk:=kN (vY c s) k
 refine ah (p:=k<c.sts.length) (by exact aB (show ((k:Nat):Int)<(((cZ c c.sts.length).length:Nat):Int)↔_ by omega)) (fun g=>?_) (fun g=>?_)
 ·have hck:=zw c c.sts.length k g
  have htk:=lD c k
  have hti:gT c k≤gT c c.sts.length:=by
   have:∀d,gT c k≤gT c (k+d):=fun d=>by
    induction d with
    | zero=>exact acn _
    | succ d ih=>rw[←axE,gT];split<;>omega
   have:=this (c.sts.length-k)
   rwa [show k+(c.sts.length-k)=c.sts.length by omega] at this
  refine iX (k) ((cZ c c.sts.length).length) ?_
  refine dR (.seq [0,1,2,3,4,5,6,7,8,9,10,11,12,13,14,15,16,17,18]) ?_
  refine ah (p:=(c.sts.getD k st0).wt=0) (by exact um (by show (cZ c c.sts.length).getD k 0=-1099511627776↔_;rw[hck];exact aav hs)) (fun g3=>?_) (fun g3=>?_)
  ·refine ai (mxL (n:=((List.range k).map (vY c s)).length+1) (by omega) (by decide)) (ai (fJ 1 rfl) ?_)
   refine nX (k) (ai (ai (ai (fun _=>rfl) (aH (by omega))) rfl) (ai rfl (ai rfl (ai ?_ ?_)))) trivial trivial
   ·rw[kN,kN]
   ·rw[aaE,show vY c s k=true by unfold vY;rw[if_pos g3]];exact aaW _ _
  ·have hcv:tZ c k=aS c+c.sts.length+gT c k:=if_neg g3
   have hmx:IntKind.i64.wrap ((cZ c c.sts.length).getD k 0-aS c)=((c.sts.length+gT c k:Nat):Int):=by rw[hck,hcv,dD (by omega) (by omega)];omega
   refine ai (ai (by show 0≤IntKind.i64.wrap ((cZ c c.sts.length).getD k 0-aS c);rw[hmx];omega) (by show IntKind.i64.wrap ((cZ c c.sts.length).getD k 0-aS c)<((s.vl.length:Nat):Int);rw[hmx];omega)) ?_
   refine ai rfl ?_
   have hv:(fC s).getD (tZ c k).toNat false=s.vl.getD (c.sts.length+gT c k) false:=by
    unfold fC
    rw[show (tZ c k).toNat=(iH s.en++s.inp).length+(c.sts.length+gT c k) by rw[aao];omega]
    exact afW rfl
   refine ai (mxL (n:=((List.range k).map (vY c s)).length+1) (by omega) (by decide)) (ai (fJ 1 rfl) ?_)
   refine nX (k) (ai (ai (ai (fun _=>rfl) (aH (by omega))) rfl) (ai rfl (ai rfl (ai ?_ ?_)))) trivial trivial
   ·rw[kN,kN]
   ·rw[aaE,show vY c s k=(s.vl.getD (IntKind.i64.wrap ((cZ c c.sts.length).getD k 0-aS c)).toNat false) by rw[hmx,ad9];unfold vY;rw[if_neg g3,hv]];exact aaW _ _
 ·have ek:k=c.sts.length:=by omega
  refine eN (kH (aiE c s)) ?_
  rw[show aiE c s=(List.range k).map (vY c s) by rw[ek];rfl]
  exact (ai rfl (fun _ _=>rfl))
theorem aqu (c:aA) (s:eZ) (a d:List Bool) (h:a.length=c.sts.length):vaK ⟨wS c s,a,d⟩ a.length=afi c s a d:=by rw[h];rfl
theorem aqN {u u':PV} (h:fQ u u'):cu [u] [u']:=by
 refine ⟨rfl,fun k s s' hs hs'=>?_⟩
 match k with
 | 0=>cases hs;cases hs';exact h
 | k+1=>simp at hs
def av7:Spec:=bq (fun a:List (Int)×List (Int)=>[isA a.1,isA a.2]) (fun a=>a.1.length≤1000000) (fun a=>bP (decide (a.1=a.2)))
theorem atO:av Tryz.prog 50 av7:=by
 refine vF Tryz.func50 ?_
 rintro (a:List (Int)×List (Int)) hpre
 have hl:a.1.length≤1000000:=hpre
 refine bN (a.1.length=a.2.length) (fun h1=>?_) fun h1=>?_
 ·refine eN (bP (decide (a.1=a.2))) ?_
  rw[decide_eq_false (fun h=>h1 (congrArg List.length h))]
  exact rfl
 refine fR (a.1.length) (fun k=>[(13,.s (iA k))]) (fun k=>[]) (fun k=>a.1.take k=a.2.take k) (by exact (ai (ai (fun _=>rfl) (iE (by omega))) rfl)) (by exact trivial) ?_ ?_
 ·rfl
 intro (k:Nat) ⟨hk,hall⟩
 refine bL (k<a.1.length) (fun h4=>?_) fun h4=>?_
 ·refine dR (.seq [0,1,2,3,4,5,6,7,8]) ?_
  refine iX (k) (a.1.length) ?_
  refine iX (k) (a.2.length) ?_
  refine aW (p:=a.1.getD k 0=a.2.getD k 0) (by exact bne_iff_ne) (fun h5=>?_) (fun h5=>?_)
  ·refine eN (bP (decide (a.1=a.2))) ?_
   rw[decide_eq_false (fun h=>h5 (by rw[h]))]
   exact rfl
  refine nX (k) (ai (ai (fun _=>rfl) (aH (by omega))) rfl) trivial ?_
  exact afv 0 h4 (by omega) hall h5
 ·obtain rfl:k=a.1.length:=by omega
  rw[acr,h1,acr] at hall
  refine eN (bP (decide (a.1=a.2))) ?_
  rw[decide_eq_true hall]
  exact rfl
def awe:Spec:=bq (fun a:List (Bool)×List (Bool)=>[rY a.1,rY a.2]) (fun a=>a.1.length≤1000000) (fun a=>bP (decide (a.1=a.2)))
theorem agx:av Tryz.prog 33 awe:=by
 refine vF Tryz.func33 ?_
 rintro (a:List (Bool)×List (Bool)) hpre
 have hl:a.1.length≤1000000:=hpre
 refine bN (a.1.length=a.2.length) (fun h1=>?_) fun h1=>?_
 ·refine eN (bP (decide (a.1=a.2))) ?_
  rw[decide_eq_false (fun h=>h1 (congrArg List.length h))]
  exact rfl
 refine fR (a.1.length) (fun k=>[(13,.s (iA k))]) (fun k=>[]) (fun k=>a.1.take k=a.2.take k) (by exact (ai (ai (fun _=>rfl) (iE (by omega))) rfl)) (by exact trivial) ?_ ?_
 ·rfl
 intro (k:Nat) ⟨hk,hall⟩
 refine bL (k<a.1.length) (fun h4=>?_) fun h4=>?_
 ·refine dR (.seq [0,1,2,3,4,5,6,7,8]) ?_
  refine iX (k) (a.1.length) ?_
  refine iX (k) (a.2.length) ?_
  refine aW (p:=a.1.getD k false=a.2.getD k false) (by exact bne_iff_ne) (fun h5=>?_) (fun h5=>?_)
  ·refine eN (bP (decide (a.1=a.2))) ?_
   rw[decide_eq_false (fun h=>h5 (by rw[h]))]
   exact rfl
  refine nX (k) (ai (ai (fun _=>rfl) (aH (by omega))) rfl) trivial ?_
  exact afv false h4 (by omega) hall h5
 ·obtain rfl:k=a.1.length:=by omega
  rw[acr,h1,acr] at hall
  refine eN (bP (decide (a.1=a.2))) ?_
  rw[decide_eq_true hall]
  exact rfl
theorem akk (f:Nat→List PV) (k:Nat) {g:Nat→List PV} (hg:g 0=f k):∀j,j<k+1→bI k f g j=f j:=by
 intro j hj
 unfold bI
 by_cases h:j<k
 ·rw[if_pos h]
 ·obtain rfl:j=k:=by omega
  rw[if_neg h,auO,hg]
def akJ (c:aA):Prop:=c.sts.length≤1000000∧c.trs.length≤1000000
def stF (c:aA) (k:Nat):List PV:=stK (c.sts.getD k st0)
def trF (c:aA) (k:Nat):List PV:=trK (c.trs.getD k aY)
theorem ag3:av Tryz.prog 14 (bQ (fun c:aA=>[jh c]) akJ (fun c=>chP c)):=by
 refine vF Tryz.func14 ?_
 rintro (c:aA) hpre
 obtain ⟨hs,ht⟩:=hpre
 have hs:c.sts.length≤1000000:=hs
 have ht:c.trs.length≤1000000:=ht
 refine fR (c.sts.length) (fun k=>[(16,.s (iA k))]) (fun k=>[⟨2,39,[.s (iA c.act),.s (.p false (xg c.ins)),.rw 98 2 k (stF c),.s iT]⟩]) (fun k=>True) ?_ ?_ ?_ ?_
 ·exact (ai (ai (fun _=>rfl) (iE (by omega))) rfl)
 ·exact (ai (ai (ai (ai nof rfl) rfl) (ai (ai (ai nof (ai rfl (fun _ _=>rfl))) rfl) (ai rfl (ai (ai nof rfl) rfl)))) trivial)
 ·trivial
 intro (k:Nat) ⟨hk,_⟩
 refine bL (k<c.sts.length) (fun h1=>?_) fun h1=>?_
 ·refine iX (k) (c.sts.length) ?_
  refine ai (mxL (n:=k+1) (by omega) (by decide)) (ai (lt1 rfl) ?_)
  refine nX (k) (ai (ai (fun _=>rfl) (aH (by omega))) rfl) (ai (ai (ai (ai nof rfl) rfl) (ai (ai (ai nof (ai rfl (fun _ _=>rfl))) rfl) (ai (ai rfl (ai rfl (ai rfl ?_))) (ai (ai nof rfl) rfl)))) trivial) trivial
  exact akk (stF c) k rfl
 obtain rfl:k=c.sts.length:=by omega
 refine fR (c.trs.length) (fun k=>[(34,.s (iA k))]) (fun k=>[⟨2,39,[.s (iA c.act),.s (.p false (xg c.ins)),.rw 98 2 c.sts.length (stF c),.rw 101 5 k (trF c)]⟩]) (fun k=>True) ?_ ?_ ?_ ?_
 ·exact (ai (ai (fun _=>rfl) (iE (by omega))) rfl)
 ·exact (ai (ai (ai (ai nof rfl) rfl) (ai (ai (ai nof (ai rfl (fun _ _=>rfl))) rfl) (ai (ai rfl (ai rfl (ai rfl (fun _ _=>rfl)))) rfl))) trivial)
 ·trivial
 intro (k:Nat) ⟨hk,_⟩
 refine bL (k<c.trs.length) (fun h1=>?_) fun h1=>?_
 ·refine iX (k) (c.trs.length) ?_
  refine ai (mxL (n:=k+1) (by omega) (by decide)) (ai (lt1 rfl) ?_)
  refine nX (k) (ai (ai (fun _=>rfl) (aH (by omega))) rfl) (ai (ai (ai (ai nof rfl) rfl) (ai (ai (ai nof (ai rfl (fun _ _=>rfl))) rfl) (ai (ai rfl (ai rfl (ai rfl (fun _ _=>rfl)))) (ai rfl (ai rfl (ai rfl ?_)))))) trivial) trivial
  exact akk (trF c) k rfl
 obtain rfl:k=c.trs.length:=by omega
 refine eF (chP c) ?_
 rw[show chP c=.agg [iP c.act,xg c.ins,.seq c.sts.length (stF c),.seq c.trs.length (trF c)] from rfl]
 exact (ai rfl (ai (ai rfl (fun _ _=>rfl)) (ai (ai rfl (fun _ _=>rfl)) (ai rfl (fun _ _=>rfl)))))
def apH (c:aA):Prop:=akJ c∧c.ins.length≤1000000∧(∀x∈c.sts,x.st.length≤1000000)∧∀t∈c.trs,t.fr.length≤1000000∧t.to.length≤1000000∧eO t.wh=true
def lG (c:aA) (a d:List Bool):Nat→List Bool
 | 0=>d
 | k+1=>(lG c a d k).set k (q9 c a d k)
theorem nM (c:aA) (a d:List Bool):∀k,(lG c a d k).length=d.length
 | 0=>rfl
 | k+1=>by rw[lG,aob,nM c a d k]
theorem akf (c:aA) (a d:List Bool):∀n q,q<d.length→(lG c a d n).getD q false=if q<n then q9 c a d q else d.getD q false
 | 0,q,_=>by rw[if_neg (aee q)];rfl
 | n+1,q,h=>by
  have hl:=nM c a d n
  rw[lG,aai,axC]
  by_cases e:n=q
  ·subst e
   rw[if_pos rfl,if_pos (by omega),if_pos (by omega)];rfl
  ·rw[if_neg e,←aai,akf c a d n q h]
   by_cases e2:q<n
   ·rw[if_pos e2,if_pos (by omega)]
   ·rw[if_neg e2,if_neg (by omega)]
theorem aqi {c:aA} {a d:List Bool} (h:d.length=c.sts.length):lG c a d c.sts.length=adX c a d:=by
 have hl:=nM c a d c.sts.length
 have hr:(adX c a d).length=c.sts.length:=kN _ _
 refine List.ext_getElem (by omega) fun q h1 h2=>?_
 have h3:=akf c a d c.sts.length q (by omega)
 rw[if_pos (by omega)] at h3
 have h4:(adX c a d).getD q false=q9 c a d q:=afH (by omega)
 rw[aai,aau h1] at h3
 rw[aai,aau h2] at h4
 exact h3.trans h4.symm
set_option maxHeartbeats 8000000 in
theorem arz:av Tryz.prog 26 (bQ (fun a:aA×eZ=>[jh a.1,yR a.2]) amw (fun a=>anp (rH a.1 a.2) (za a.1 a.2))):=by
 have h:av Tryz.prog 26 (bQ (fun a:aA×eZ=>[jh a.1,yR a.2]) amw (fun a=>oq (rH a.1 a.2) (za a.1 a.2))):=by
  refine vI [59,51,95,96,61,5000029,1000010,1000011] Tryz.func26 ?_
  rintro ⟨c,s⟩ hpre
  obtain ⟨ho,hsl,hsm⟩:=hpre
  have ho:gN c:=ho
  refine qo mixed iC Tryz.func59 rfl rfl ?_
  refine ai rfl ?_
  refine qo mixed iC Tryz.func51 rfl rfl ?_
  refine ai rfl ?_
  refine cK (ac7) (c) (by exact (ai rfl (ai (ai rfl (fun _ _=>rfl)) (ai (ai rfl (fun _ _=>rfl)) (ai rfl (fun _ _=>rfl)))))) (ho) ?_
  refine bN (cB c=0) (fun h1=>?_) fun h1=>?_
  ·have e:bM c=cB c:=if_pos h1
   have h2:¬bM c=0:=by rw[e];exact h1
   refine bT (by exact bR (p:=True) ⟨fun _=>trivial,fun _=>h1⟩ |>.2 trivial) ?_
   refine dR (.seq [0,1,2,3,4]) ?_
   refine bT (by exact bR (p:=True) ⟨fun _=>trivial,fun _=>h1⟩ |>.2 trivial) ?_
   have e:sW c s=cB c:=by unfold sW;rw[if_pos h2,e]
   have h2:¬sW c s=0:=by rw[e];exact h1
   have e2:rH c s=sW c s:=if_pos h2
   refine eF (oq (rH c s) (za c s)) ?_
   rw[e2,oq,if_neg h2,e]
   exact (ai rfl rfl)
  have hc:kL c:=⟨h1,ho⟩
  obtain ⟨⟨ha1,ha6⟩,hi16,hs24,ht32⟩:=dY hc
  have hb:aS c=2*c.act+c.ins.length:=rfl
  have hwf:IntKind.i64.wrap (IntKind.i64.wrap (2*c.act)+(c.ins.length:Int))=aS c:=by
   rw[dD (n:=2*c.act) (by omega) (by omega),dD (by omega) (by omega)];rfl
  refine gI (abq) (c) [7] (by exact (ai rfl rfl)) (by exact (ai rfl (ai (iE (by simp only[zz,reduceCtorEq];omega)) (ai rfl (ai rfl (ai (ai rfl (fun _ _=>rfl)) (ai (ai rfl (fun _ _=>rfl)) (ai (ai rfl (fun _ _=>rfl)) (ai rfl (ai rfl rfl)))))))))) (hc) ?_
  by_cases hB:bH (gF c)=0
  ·have e0:bM c=0:=lN.2 ⟨h1,hB⟩
   refine gI (adG) (c) [7] (by exact (ai rfl rfl)) (by exact (ai rfl (ai rfl (ai rfl (ai rfl (ai (ai rfl (fun _ _=>rfl)) (ai (ai rfl (fun _ _=>rfl)) (ai (ai rfl (fun _ _=>rfl)) (ai (ai rfl (fun _ _=>rfl)) (ai (ai rfl (fun _ _=>rfl)) (ai rfl (fun _ _=>rfl)))))))))))) (⟨hc,decide_eq_true hB⟩) ?_
   refine dR (.seq [0,1,2,3,4,5]) ?_
   refine dR (.seq [0,1,2,3,4,5,6,7]) ?_
   refine cK (ahL) ((gF c,s)) (by exact (ai (ai rfl (ai (ai rfl (fun _ _=>rfl)) (ai (ai rfl (fun _ _=>rfl)) (ai (ai rfl (fun _ _=>rfl)) (ai rfl (fun _ _=>rfl)))))) (ai (ai rfl (fun _ _=>rfl)) (ai (ai rfl (fun _ _=>rfl)) (ai (ai rfl (fun _ _=>rfl)) (ai (ai rfl (fun _ _=>rfl)) (ai rfl (fun _ _=>rfl)))))))) (⟨aa9 hc,hsl⟩) ?_
   have e:sW c s=uj (gF c) s:=by unfold sW;rw[if_neg (fun h=>h e0)]
   refine aW (p:=uj (gF c) s=0) (bR (by dsimp only;omega)) (fun h3=>?_) (fun h3=>?_)
   ·have h2:¬sW c s=0:=by rw[e];exact h3
    have e2:rH c s=sW c s:=if_pos h2
    refine eF (oq (rH c s) (za c s)) ?_
    rw[e2,oq,if_neg h2,e]
    exact (ai rfl rfl)
   have hr:rSt (c,s):=⟨hc,h3,hsm⟩
   have e0:sW c s=0:=by rw[e];exact h3
   have h5:=(wE hr).2.2.2.2
   have hs0:0<c.sts.length:=(lY hc.1).2.2.1.1
   have hvl:s.vl.length≤100000:=hsm.2.2
   have hl:(onS c s).length=c.sts.length:=amj hr
   have hol:=ajh hr
   refine ei _ (ai (an1) (ei ((c,s)) (ei [7] (ai (a4 (ai (fun _=>Or.inl rfl) (ai nof (Or.inl rfl)))) (ai (by exact (ai (ai rfl rfl) (ai (ai rfl (ai (ai rfl (fun _ _=>rfl)) (ai (ai rfl (fun _ _=>rfl)) (ai (ai rfl (fun _ _=>rfl)) (ai rfl (fun _ _=>rfl)))))) (ai (ai rfl (fun _ _=>rfl)) (ai (ai rfl (fun _ _=>rfl)) (ai (ai rfl (fun _ _=>rfl)) (ai (ai rfl (fun _ _=>rfl)) (ai rfl (fun _ _=>rfl))))))))) (ai (by exact (ai rfl (ai rfl (ai trivial (ai trivial (ai trivial (ai trivial (ai trivial (ai trivial (ai trivial trivial)))))))))) (ai (⟨hr,hsl⟩) ?_)))))))
   refine dR (.one 0 (.one 1 (.one 2 (.one 3 (.one 4 (.one 5 (.one 7 (.altw 6 (.one 8 (.one 9 (.one 10 (.one 11 .done)))) (.alt 8 (.wr 6 (.one 9 (.one 10 (.one 11 .done)))) .stop))))))))) ?_
   refine ai (ai (Int.le_refl _) (ai (aaT _) (by show ((c.sts.length:Nat):Int)≤((s.vl.length:Nat):Int);omega))) ?_
   refine ai (fun _ _=>rfl) ?_
   refine ai ?_ (ai ?_ trivial)
   all_goals
    refine qo mixed iC Tryz.func61 rfl rfl ?_
    refine ai rfl ?_
    intro b hb
    refine gV (fun hb0=>?_) (fun hb0=>?_)
    ·have hb1:c.sts.length-0=0:=hb hb0
     exact absurd hb1 (by omega)
    refine ai (mxL (n:=0+(c.sts.length-0)) (by omega) (by decide)) (ai (fun _ _=>rfl) ?_)
    refine ei _ (ai (arb) (ei ((c,s)) (ei [7] (ai (a4 (ai (fun _=>Or.inl rfl) (ai nof (Or.inl rfl)))) (ai (by exact (ai (ai rfl rfl) (ai (ai rfl (fun _ _=>rfl)) (ai (ai rfl (fun _ _=>rfl)) (ai (ai rfl (fun _ _=>rfl)) (ai (ai rfl (fun _ _=>rfl)) (ai rfl (fun _ _=>rfl)))))))) (ai (by exact (ai rfl (ai rfl (ai trivial (ai trivial (ai trivial (ai trivial (ai trivial (ai trivial (ai (ai rfl (fun _ _=>rfl)) trivial)))))))))) (ai (hr) ?_)))))))
    refine fR (65) (fun r=>[(48,.s (iA r)),(10,.s (rY (bJ c s r).1)),(11,.s (rY (bJ c s r).2))]) (fun r=>[]) (fun r=>∀q,q<r→qJ c s q=false) ?_ ?_ ?_ ?_
    ·refine (ai (ai (ai (fun _=>rfl) (iE (by omega))) rfl) (ai (ai (ai nof (ai ?_ ?_)) rfl) (ai (ai (fun _=>rfl) (ai rfl (fun _ _=>rfl))) rfl)))
     ·show 0+(c.sts.length-0)=(onS c s).length
      omega
     ·intro k hk
      have hk:k<0+(c.sts.length-0):=hk
      refine (ab9 k hk).trans ?_
      show [bP (s.vl.getD (0+k) false)]=[bP ((onS c s).getD k false)]
      rw[ajN]
      unfold onS
      rw[aai,aai,avp,if_pos (by omega)]
    ·exact trivial
    ·exact fun q hq=>absurd hq (aee _)
    intro (r:Nat) ⟨hrr,hall⟩
    have hl1:=(agL hr r).1
    have hl2:=(agL hr r).2
    refine bL (r<65) (fun g=>?_) fun g=>?_
    ·refine dR (.seq [0,1,2,3,4,5,6,7,8,9,10,11,12,13]) ?_
     refine cK (aqC) (⟨wS c s,(bJ c s r).1,(bJ c s r).2⟩) (by exact (ai (ai rfl (fun _ _=>rfl)) (ai (ai rfl (fun _ _=>rfl)) (ai rfl (fun _ _=>rfl))))) (⟨by show 0<(wS c s).length;omega,by show (wS c s).length≤1000;omega,by show ((bJ c s r).1).length≤1000;omega,by show ((bJ c s r).2).length=((bJ c s r).1).length;omega⟩) ?_
     have hgv:=aqp hr (a:=(bJ c s r).1) (d:=(bJ c s r).2) hl1
     have ev:=aqu c s (bJ c s r).1 (bJ c s r).2 hl1
     have ef:xQ c (bJ c s r).1 (vaK ⟨wS c s,(bJ c s r).1,(bJ c s r).2⟩ (bJ c s r).1.length)=.tup [kH (afk c s (bJ c s r).1 (bJ c s r).2),fE (yS c (bJ c s r).1 (afi c s (bJ c s r).1 (bJ c s r).2)),iP 0]:=by
      rw[ev,anb];unfold akh;rw[if_pos hgv];rfl
     refine cK ((mM atP (c,(bJ c s r).1,vaK ⟨wS c s,(bJ c s r).1,(bJ c s r).2⟩ (bJ c s r).1.length) ho ef)) (()) (by exact (ai (ai rfl (ai (ai rfl (fun _ _=>rfl)) (ai (ai rfl (fun _ _=>rfl)) (ai rfl (fun _ _=>rfl))))) (ai (ai rfl (fun _ _=>rfl)) (ai rfl (fun _ _=>rfl))))) (trivial) ?_
     refine qo mixed iC Tryz.func61 rfl rfl ?_
     refine ai rfl ?_
     intro b2 hb2
     refine gV (fun hb3=>?_) (fun hb3=>?_)
     ·have hb4:((bJ c s r).2).length=0:=hb2 hb3
      exact absurd hb4 (by omega)
     refine ai (mxL (n:=0+((bJ c s r).2).length) (by omega) (by decide)) (ai (fun _ _=>rfl) ?_)
     refine fR (c.sts.length) (fun k=>[(69,.s (iA k)),(15,bsR (lG c (bJ c s r).1 (bJ c s r).2 k))]) (fun k=>[]) (fun k=>True) ?_ ?_ ?_ ?_
     ·refine (ai (ai (ai (fun _=>rfl) (iE (by omega))) rfl) (ai rfl (ai rfl (ai ?_ (fun _ _=>rfl)))))
      exact ajN _
     ·exact trivial
     ·trivial
     intro (k:Nat) ⟨hk,_⟩
     have hlm:=nM c (bJ c s r).1 (bJ c s r).2 k
     refine ah (p:=k<c.sts.length) (aB (by dsimp only;omega)) (fun g2=>?_) (fun g2=>?_)
     ·refine iX (k) (c.sts.length) ?_
      refine iX (k) (((bJ c s r).2).length) ?_
      refine aC (b:=((bJ c s r).2).getD k false) rfl (fun q1=>?_) (fun q1=>?_)
      ·refine aC (b:=(c.sts.getD k st0).wt==0) rfl (fun q2=>?_) (fun q2=>?_)
       ·refine ai (ai (aaT _) (by show ((k:Nat):Int)<((lG c (bJ c s r).1 (bJ c s r).2 k).length:Int);omega)) ?_
        refine ai (ai (by show ((k:Nat):Int).toNat<(lG c (bJ c s r).1 (bJ c s r).2 k).length;omega) (acn _)) ?_
        have el:q9 c (bJ c s r).1 (bJ c s r).2 k=true:=by unfold q9;rw[q1,q2,aen,ac9]
        refine nX (k) (ai (ai (ai (fun _=>rfl) (aH (by omega))) rfl) (ai rfl (ai rfl (ai ?_ ?_)))) trivial trivial
        ·rw[nM,nM]
        ·intro q hq
         show iY (fun w=>[bP ((lG c (bJ c s r).1 (bJ c s r).2 k).getD w false)]) k 0 [bP (true)] q=[bP (((lG c (bJ c s r).1 (bJ c s r).2 k).set k (q9 c (bJ c s r).1 (bJ c s r).2 k)).getD q false)]
         rw[el]
         exact jI (by omega) _ q
       ·refine iX (k) (((bJ c s r).1).length) ?_
        refine ai (ai (aaT _) (by show ((k:Nat):Int)<((lG c (bJ c s r).1 (bJ c s r).2 k).length:Int);omega)) ?_
        refine ai (ai (by show ((k:Nat):Int).toNat<(lG c (bJ c s r).1 (bJ c s r).2 k).length;omega) (acn _)) ?_
        have el:q9 c (bJ c s r).1 (bJ c s r).2 k=((bJ c s r).1).getD k false:=by unfold q9;rw[q1,q2,arK,ac9]
        refine nX (k) (ai (ai (ai (fun _=>rfl) (aH (by omega))) rfl) (ai rfl (ai rfl (ai ?_ ?_)))) trivial trivial
        ·rw[nM,nM]
        ·intro q hq
         show iY (fun w=>[bP ((lG c (bJ c s r).1 (bJ c s r).2 k).getD w false)]) k 0 [bP (((bJ c s r).1).getD k false)] q=[bP (((lG c (bJ c s r).1 (bJ c s r).2 k).set k (q9 c (bJ c s r).1 (bJ c s r).2 k)).getD q false)]
         rw[el]
         exact jI (by omega) _ q
      ·refine ai (ai (aaT _) (by show ((k:Nat):Int)<((lG c (bJ c s r).1 (bJ c s r).2 k).length:Int);omega)) ?_
       refine ai (ai (by show ((k:Nat):Int).toNat<(lG c (bJ c s r).1 (bJ c s r).2 k).length;omega) (acn _)) ?_
       have el:q9 c (bJ c s r).1 (bJ c s r).2 k=false:=by unfold q9;rw[q1,aoc]
       refine nX (k) (ai (ai (ai (fun _=>rfl) (aH (by omega))) rfl) (ai rfl (ai rfl (ai ?_ ?_)))) trivial trivial
       ·rw[nM,nM]
       ·intro q hq
        show iY (fun w=>[bP ((lG c (bJ c s r).1 (bJ c s r).2 k).getD w false)]) k 0 [bP (false)] q=[bP (((lG c (bJ c s r).1 (bJ c s r).2 k).set k (q9 c (bJ c s r).1 (bJ c s r).2 k)).getD q false)]
        rw[el]
        exact jI (by omega) _ q
     have ek:k=c.sts.length:=by omega
     have eL:lG c (bJ c s r).1 (bJ c s r).2 k=adX c (bJ c s r).1 (bJ c s r).2:=by rw[ek];exact aqi hl2
     have e3:(bJ c s (r+1)).2=lG c (bJ c s r).1 (bJ c s r).2 k:=eL.symm
     refine cK (agx) ((afk c s (bJ c s r).1 (bJ c s r).2,(bJ c s r).1)) (by exact (ai (ai rfl (fun _ _=>rfl)) (ai rfl (fun _ _=>rfl)))) ((by show (ac4 c _ _).length≤1000000;rw[alT];omega)) ?_
     refine aC (b:=decide (afk c s (bJ c s r).1 (bJ c s r).2=(bJ c s r).1)) rfl (fun q1=>?_) (fun q1=>?_)
     ·refine cK (agx) ((lG c (bJ c s r).1 (bJ c s r).2 k,(bJ c s r).2)) (by exact (ai (ai rfl (fun _ _=>rfl)) (ai rfl (fun _ _=>rfl)))) ((by show (lG c (bJ c s r).1 (bJ c s r).2 k).length≤1000000;omega)) ?_
      refine aC (b:=decide (lG c (bJ c s r).1 (bJ c s r).2 k=(bJ c s r).2)) rfl (fun q2=>?_) (fun q2=>?_)
      ·have hq:qJ c s r=true:=by unfold qJ;rw[←eL,q1,q2];rfl
       have e1:=(amn c s).trans (ahz hall hq g)
       have e2:rH c s=0:=by unfold rH;rw[if_neg (fun h=>h e0),e1];rfl
       have ea:za c s=(bJ c s r).1:=by unfold za;rw[e1]
       refine eF (oq (rH c s) (za c s)) ?_
       rw[e2,oq,if_pos (show (0:Int)=0 from rfl),ea]
       exact (ai (ai rfl (fun _ _=>rfl)) rfl)
      ·have hq:qJ c s r=false:=by unfold qJ;rw[←eL];rw[q2,ar0]
       refine nX (r) (ai (ai (ai (fun _=>rfl) (aH (by omega))) rfl) (ai (ai (ai nof (ai rfl (fun _ _=>rfl))) rfl) (ai (ai nof (ai ?_ ?_)) rfl))) trivial ?_
       ·rw[e3]
       ·rw[e3];exact fun _ _=>rfl
       intro q hq2
       by_cases e:q=r
       ·rw[e];exact hq
       ·exact hall q (by omega)
     ·have hq:qJ c s r=false:=by unfold qJ;rw[←eL];rw[q1,aoc]
      refine nX (r) (ai (ai (ai (fun _=>rfl) (aH (by omega))) rfl) (ai (ai (ai nof (ai rfl (fun _ _=>rfl))) rfl) (ai (ai nof (ai ?_ ?_)) rfl))) trivial ?_
      ·rw[e3]
      ·rw[e3];exact fun _ _=>rfl
      intro q hq2
      by_cases e:q=r
      ·rw[e];exact hq
      ·exact hall q (by omega)
    ·have e1:=(amn c s).trans (adz (c:=c) (s:=s) (m:=65) fun q hq=>hall q (by omega))
     have e2:rH c s=21:=by unfold rH;rw[if_neg (fun h=>h e0),e1];rfl
     refine eF (oq (rH c s) (za c s)) ?_
     rw[e2,oq,if_neg (show ¬(21:Int)=0 by decide)]
     exact (ai rfl rfl)
  ·have e:bM c=12:=by unfold bM;rw[if_neg (fun h=>h h1),if_pos hB]
   have h2:¬bM c=0:=by rw[e];decide
   refine gI (abP) (c) [7] (by exact (ai rfl rfl)) (by exact (ai rfl (ai rfl (ai rfl (ai rfl (ai (ai rfl (fun _ _=>rfl)) (ai (ai rfl (fun _ _=>rfl)) (ai (ai rfl (fun _ _=>rfl)) (ai (ai rfl (fun _ _=>rfl)) (ai (ai rfl (fun _ _=>rfl)) (ai rfl (fun _ _=>rfl)))))))))))) (⟨hc,decide_eq_false hB⟩) ?_
   refine dR (.seq [0,1,2,3,4,5]) ?_
   refine dR (.seq [0,1,2,3,4]) ?_
   have e:sW c s=12:=by unfold sW;rw[if_pos h2,e]
   have h2:¬sW c s=0:=by rw[e];decide
   have e2:rH c s=sW c s:=if_pos h2
   refine eF (oq (rH c s) (za c s)) ?_
   rw[e2,oq,if_neg h2,e]
   exact (ai rfl rfl)
 exact gW h fun a _=>auy _ _
def boV (l:List Bool):List Value:=l.map Value.bool
theorem gX (l:List Bool):(boV l).length=l.length:=by unfold boV;simp
theorem aeX {l:List Bool} {k:Nat} (hk:k<l.length):gu (boV l) k=[bP (l.getD k false)]:=by
 unfold gu boV
 rw[aai,akE,aau hk,aai,aau hk];rfl
theorem oG (l:List Bool):∀v∈boV l,v.oneCell'=true:=fun v hv=>by
 obtain ⟨c,_,rfl⟩:=aum.1 hv
 rfl
def avV:tQ:={ A:=List Bool,args:=fun l=>[rY l],pre:=fun l=>0<l.length∧l.length≤1000000,T:=4,vals:=boV }
theorem aa8:aa2 Tryz.prog 61 avV:=by
 refine apG (Tb:=tab) mixed iC Tryz.func61 rfl rfl ?_
 intro (l:List Bool) hpre
 have h0:0<l.length:=hpre.1
 have h1:l.length≤1000000:=hpre.2
 refine ai rfl ?_
 intro b hb
 refine gV (fun hb0=>?_) (fun hb0=>?_)
 ·have hb1:l.length=0:=hb hb0
  exact absurd hb1 (by omega)
 refine ai (mxL (n:=0+l.length) (by omega) (by decide)) (ai (fun _ _=>rfl) ?_)
 refine ai rfl (ai rfl (ai (by show 0+l.length=(boV l).length;rw[gX];omega) ?_))
 intro k hk
 have hk:k<0+l.length:=hk
 refine Eq.trans (ab9 k hk) ?_
 exact (aeX (show k<l.length by omega)).symm
def aw9:tQ:={ A:=eZ,args:=fun s=>[yR s],pre:=adZ,T:=4,vals:=fun s=>boV (fC s) }
theorem xU:aa2 Tryz.prog 78 aw9:=by
 refine apG (Tb:=tab) mixed iC Tryz.func78 rfl rfl ?_
 intro (s:eZ) hpre
 refine ai rfl ?_
 obtain ⟨h1,h2,h3⟩:=hpre
 have h1:s.en.length≤100000:=h1
 have h2:s.inp.length≤100000:=h2
 have h3:s.vl.length≤100000:=h3
 refine fR (s.en.length) (fun k=>[(9,.s (iA k)),(3,bsR (iH (s.en.take k)))]) (fun k=>[]) (fun k=>True) ?_ ?_ ?_ ?_
 ·exact (ai (ai (ai (fun _=>rfl) (iE (by omega))) rfl) rfl)
 ·exact trivial
 ·trivial
 intro (k:Nat) ⟨hk,_⟩
 have hl:(iH (s.en.take k)).length≤200000:=by rw[wC,arM];omega
 refine bL (k<s.en.length) (fun g1=>?_) fun g1=>?_
 ·refine iX (k) (s.en.length) ?_
  have e:=afs g1
  refine ai (mxL (n:=(iH (s.en.take k)).length+2) (by omega) (by decide)) (ai len2 ?_)
  refine nX (k) (ai (ai (ai (fun _=>rfl) (aH (by omega))) rfl) (ai rfl (ai rfl (ai ?_ ?_)))) trivial trivial
  ·rw[e,aao];rfl
  ·rw[e];exact fun q hq=>vP (a:=iH (s.en.take k)) (b:=ai1 (s.en.getD k 0)) rfl (fun _ _=>rfl) (arO _ _) q (by rw[aao];exact hq)
 obtain rfl:k=s.en.length:=by omega
 have et:s.en.take s.en.length=s.en:=acr
 refine dR (.one 0 (.one 1 (.one 2 (.one 4 (.rd 5 [3] (.one 3 (.one 6 (.one 7 .done)))))))) ?_
 refine ai (mxL (n:=(iH (s.en.take s.en.length)).length+s.inp.length) (by omega) (by decide)) (ai (fun _ _=>rfl) ?_)
 refine ai (mxL (n:=(iH (s.en.take s.en.length)).length+s.inp.length+s.vl.length) (by omega) (by decide)) (ai (fun _ _=>rfl) ?_)
 have eV:fC s=(iH (s.en.take s.en.length)++s.inp)++s.vl:=by rw[et];rfl
 refine ai rfl (ai rfl (ai ?_ ?_))
 ·show (iH (s.en.take s.en.length)).length+s.inp.length+s.vl.length=(boV (fC s)).length
  rw[gX,eV,aao,aao]
 ·intro q hq
  have hq:q<(iH (s.en.take s.en.length)).length+s.inp.length+s.vl.length:=hq
  have hq2:q<(fC s).length:=by rw[eV,aao,aao];exact hq
  refine Eq.trans ?_ (aeX hq2).symm
  rw[eV]
  exact vP (a:=iH (s.en.take s.en.length)++s.inp) (b:=s.vl) (aao).symm (vP (a:=iH (s.en.take s.en.length)) (b:=s.inp) rfl (fun _ _=>rfl) (fun _ _=>rfl)) (fun _ _=>rfl) q (by rw[←eV];exact hq2)
def bsW (l:List Bool):LV:=.rw 4 1 l.length (fun k=>[bP (l.getD k false)])
def aM (c:bC) (s:eZ):Nat→List Bool×List Bool
 | 0=>(s.vl,fC s)
 | k+1=>if (c.sgs.getD k ak).kd=0 then ((aM c s k).1.set k (d9 (c.sgs.getD k ak).on (aM c s k).2).1,(aM c s k).2.set ((bU c).toNat+k) (d9 (c.sgs.getD k ak).on (aM c s k).2).1) else aM c s k
def uh (c:bC) (s:eZ):eZ:={ s with vl:=(aM c s c.sgs.length).1 }
theorem sI (c:bC) (s:eZ):∀k,(aM c s k).1.length=s.vl.length∧(aM c s k).2.length=(fC s).length
 | 0=>⟨rfl,rfl⟩
 | k+1=>by
  have:=sI c s k
  unfold aM
  split
  ·exact ⟨by rw[aob];exact this.1,by rw[aob];exact this.2⟩
  ·exact this
def awD (a:bC×eZ):Prop:=kQ a.1∧sU a.1 a.2∧0<a.1.sgs.length∧a.1.sgs.length≤1000∧a.1.ins.length≤1000∧∀x∈a.1.sgs,x.on.size≤1000000
theorem fI (l:List Bool) {n:Nat} (hn:n=(boV l).length):∀k,k<n→gu (boV l) k=[bP (l.getD k false)]:=fun k hk=>aeX (by rw[gX] at hn;omega)
end Go.Sx.Pe
