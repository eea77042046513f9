/- CompileReads, part 6 of its proof: declarations that the last part uses. -/
import Derived.Test.YtagbjlbohahcaaaGreatDoorR5
set_option maxHeartbeats 1000000
set_option maxRecDepth 4000
set_option linter.unusedSimpArgs false
set_option linter.unusedVariables false
set_option linter.unusedSectionVars false
namespace Go.Sx.Pe
open Go Go.Proofs Go.Sx.Pn
set_option maxHeartbeats 8000000 in
theorem wJ:tH Tryz.prog 95 { A:=aB,fix:=1,args:=fun _=>[.own 0 0],objs:=fun c=>[aqI c jd jd jd jd],pre:=jP,res:=fun _=>.tup [],objs':=fun c=>[aqI c jd (.row 1) (.row 2) (.row 3),isRow (fD c c.sts.length),isRow (bZ c c.sts.length),isRow (om c c.trs.length)] }:=by
 refine vG Tryz.func95 ?_
 rintro c hpre
 have hc:jP c:=hpre
 obtain ⟨⟨ha1,ha6⟩,hi16,hs24,ht32⟩:=dA hc
 have hw0:=aoR hc
 have hb:aJ c=2*c.act+c.ins.length:=rfl
 refine fR (c.sts.length) (fun k=>[(18,.s (iA k))]) (fun k=>[⟨0,106,aqw c (isW (fD c k)) (.s jd) (.s jd)⟩,⟨1,3,[.s (iA (aJ c+k))]⟩]) (fun k=>True) ?_ ?_ ?_ ?_
 ·exact (ai (ai (fun _=>rfl) (iE (by omega))) rfl)
 ·exact (ai (ai (ai (ai nof rfl) rfl) (ai (ai (ai nof rfl) rfl) (ai (ai (ai nof rfl) rfl) (ai (ai (ai nof (ai rfl (fun _ _=>rfl))) rfl) (ai (ai (ai nof (ai rfl (fun _ _=>rfl))) rfl) (ai (ai (ai nof (ai rfl (fun _ _=>rfl))) rfl) (ai rfl (ai (ai (ai nof rfl) rfl) (ai (ai nof rfl) rfl))))))))) (ai (ai (ai nof (iE (by omega))) rfl) trivial))
 ·trivial
 intro (k:Nat) ⟨hk,_⟩
 have hl:=q8 c k
 refine bL (k<c.sts.length) (fun g=>?_) fun g=>?_
 ·refine dR (.one 0 (.one 1 (.one 2 (.one 3 (.one 5 (.alt 4 (.wr 6 (.one 7 (.one 8 (.one 9 (.one 10 (.one 11 .done)))))) (.altw 6 (.one 4 (.one 7 (.one 8 (.one 9 (.one 10 (.one 11 .done)))))) .stop))))))) ?_
  refine ai ?_ (ai ?_ trivial)
  ·refine ei _ (ai (zh) (ei (aJ c+k) (ei [1] (ai (ai rfl (ai rfl (ai rfl (ai rfl (ai nof (ai nof (Or.inl rfl))))))) (ai (by exact (ai rfl rfl)) (ai (by exact (ai rfl rfl)) (ai (⟨by show 0≤aJ c+(k:Int);omega,by show aJ c+(k:Int)≤1000000000;omega⟩) ?_)))))))
   refine ai (mxL (n:=(fD c k).length+1) (by omega) (by decide)) (ai (dW 1 rfl) ?_)
   refine nX (k) (ai (ai (fun _=>rfl) (aG (by omega))) rfl) (ai (ai (ai (ai nof rfl) rfl) (ai (ai (ai nof rfl) rfl) (ai (ai (ai nof rfl) rfl) (ai (ai (ai nof (ai rfl (fun _ _=>rfl))) rfl) (ai (ai (ai nof (ai rfl (fun _ _=>rfl))) rfl) (ai (ai (ai nof (ai rfl (fun _ _=>rfl))) rfl) (ai (ai rfl (ai rfl (ai ?_ ?_))) (ai (ai (ai nof rfl) rfl) (ai (ai nof rfl) rfl))))))))) (ai (ai (ai nof (iE (by simp only[zz,reduceCtorEq];omega))) rfl) trivial)) trivial
   ·rw[aaF,aaJ];rfl
   ·rw[aaF];exact dS _ _
  ·refine ei _ (ai (zh) (ei (aJ c+k) (ei [1] (ai (ai rfl (ai rfl (ai rfl (ai rfl (ai nof (ai nof (Or.inl rfl))))))) (ai (by exact (ai rfl rfl)) (ai (by exact (ai rfl rfl)) (ai (⟨by show 0≤aJ c+(k:Int);omega,by show aJ c+(k:Int)≤1000000000;omega⟩) ?_)))))))
   refine ai (mxL (n:=(fD c k).length+1) (by omega) (by decide)) (ai (dW 1 rfl) ?_)
   refine nX (k) (ai (ai (fun _=>rfl) (aG (by omega))) rfl) (ai (ai (ai (ai nof rfl) rfl) (ai (ai (ai nof rfl) rfl) (ai (ai (ai nof rfl) rfl) (ai (ai (ai nof (ai rfl (fun _ _=>rfl))) rfl) (ai (ai (ai nof (ai rfl (fun _ _=>rfl))) rfl) (ai (ai (ai nof (ai rfl (fun _ _=>rfl))) rfl) (ai (ai rfl (ai rfl (ai ?_ ?_))) (ai (ai (ai nof rfl) rfl) (ai (ai nof rfl) rfl))))))))) (ai (ai (ai nof (iE (by simp only[zz,reduceCtorEq];omega))) rfl) trivial)) trivial
   ·rw[aaF,aaJ];rfl
   ·rw[aaF];exact dS _ _
 have ek:k=c.sts.length:=by omega
 clear g hl
 refine fR (c.sts.length) (fun j=>[(38,.s (iA j))]) (fun j=>[⟨0,106,aqw c (isW (fD c c.sts.length)) (isW (bZ c j)) (.s jd)⟩,⟨1,3,[.s (iA (aJ c+c.sts.length+fK c j))]⟩]) (fun j=>True) ?_ ?_ ?_ ?_
 ·exact (ai (ai (fun _=>rfl) (iE (by omega))) rfl)
 ·refine (ai (ai (ai (ai nof rfl) rfl) (ai (ai (ai nof rfl) rfl) (ai (ai (ai nof rfl) rfl) (ai (ai (ai nof (ai rfl (fun _ _=>rfl))) rfl) (ai (ai (ai nof (ai rfl (fun _ _=>rfl))) rfl) (ai (ai (ai nof (ai rfl (fun _ _=>rfl))) rfl) (ai (ai rfl (ai rfl (ai ?_ ?_))) (ai rfl (ai (ai nof rfl) rfl))))))))) (ai (ai (ai nof ?_) rfl) trivial))
  ·rw[ek]
  ·rw[ek];exact fun _ _=>rfl
  ·show aJ c+(k:Int)=aJ c+c.sts.length+((0:Nat):Int)
   omega
 ·trivial
 intro (j:Nat) ⟨hj,_⟩
 have hl:=p9 c j
 have ht:=lq c j
 refine bL (j<c.sts.length) (fun g=>?_) fun g=>?_
 ·refine iX (j) (c.sts.length) ?_
  have hw:=hw0 _ (abu (bD st0 g))
  refine ah (p:=0<(c.sts.getD j st0).wt) (aA Iff.rfl) (fun g2=>?_) (fun g2=>?_)
  ·have e1:bZ c (j+1)=bZ c j++[aJ c+c.sts.length+fK c j]:=by rw[bZ];unfold sI;rw[if_neg (by omega)]
   have e2:fK c (j+1)=fK c j+1:=by rw[fK,if_pos g2]
   refine dR (.one 0 (.one 1 (.one 2 (.one 3 (.one 5 (.alt 4 (.wr 6 (.one 7 (.one 8 (.one 9 (.one 10 (.one 11 .done)))))) (.altw 6 (.one 4 (.one 7 (.one 8 (.one 9 (.one 10 (.one 11 .done)))))) .stop))))))) ?_
   refine ai ?_ (ai ?_ trivial)
   ·refine ei _ (ai (zh) (ei (aJ c+c.sts.length+fK c j) (ei [1] (ai (ai rfl (ai rfl (ai rfl (ai rfl (ai nof (ai nof (Or.inl rfl))))))) (ai (by exact (ai rfl rfl)) (ai (by exact (ai rfl rfl)) (ai (⟨by show 0≤aJ c+(c.sts.length:Int)+(fK c j:Int);omega,by show aJ c+(c.sts.length:Int)+(fK c j:Int)≤1000000000;omega⟩) ?_)))))))
    refine ai (mxL (n:=(bZ c j).length+1) (by omega) (by decide)) (ai (dW 1 rfl) ?_)
    refine nX (j) (ai (ai (fun _=>rfl) (aG (by omega))) rfl) (ai (ai (ai (ai nof rfl) rfl) (ai (ai (ai nof rfl) rfl) (ai (ai (ai nof rfl) rfl) (ai (ai (ai nof (ai rfl (fun _ _=>rfl))) rfl) (ai (ai (ai nof (ai rfl (fun _ _=>rfl))) rfl) (ai (ai (ai nof (ai rfl (fun _ _=>rfl))) rfl) (ai (ai rfl (ai rfl (ai rfl (fun _ _=>rfl)))) (ai (ai rfl (ai rfl (ai ?_ ?_))) (ai (ai nof rfl) rfl))))))))) (ai (ai (ai nof (iE (by simp only[zz,reduceCtorEq];omega))) rfl) trivial)) trivial
    ·rw[e1,aaJ];rfl
    ·rw[e1];exact dS _ _
   ·refine ei _ (ai (zh) (ei (aJ c+c.sts.length+fK c j) (ei [1] (ai (ai rfl (ai rfl (ai rfl (ai rfl (ai nof (ai nof (Or.inl rfl))))))) (ai (by exact (ai rfl rfl)) (ai (by exact (ai rfl rfl)) (ai (⟨by show 0≤aJ c+(c.sts.length:Int)+(fK c j:Int);omega,by show aJ c+(c.sts.length:Int)+(fK c j:Int)≤1000000000;omega⟩) ?_)))))))
    refine ai (mxL (n:=(bZ c j).length+1) (by omega) (by decide)) (ai (dW 1 rfl) ?_)
    refine nX (j) (ai (ai (fun _=>rfl) (aG (by omega))) rfl) (ai (ai (ai (ai nof rfl) rfl) (ai (ai (ai nof rfl) rfl) (ai (ai (ai nof rfl) rfl) (ai (ai (ai nof (ai rfl (fun _ _=>rfl))) rfl) (ai (ai (ai nof (ai rfl (fun _ _=>rfl))) rfl) (ai (ai (ai nof (ai rfl (fun _ _=>rfl))) rfl) (ai (ai rfl (ai rfl (ai rfl (fun _ _=>rfl)))) (ai (ai rfl (ai rfl (ai ?_ ?_))) (ai (ai nof rfl) rfl))))))))) (ai (ai (ai nof (iE (by simp only[zz,reduceCtorEq];omega))) rfl) trivial)) trivial
    ·rw[e1,aaJ];rfl
    ·rw[e1];exact dS _ _
  ·have e1:bZ c (j+1)=bZ c j++[-1099511627776]:=by rw[bZ];unfold sI;rw[if_pos (by omega)]
   have e2:fK c (j+1)=fK c j:=by rw[fK,if_neg g2,axo]
   refine ai (mxL (n:=(bZ c j).length+1) (by omega) (by decide)) (ai (dW 1 rfl) ?_)
   refine nX (j) (ai (ai (fun _=>rfl) (aG (by omega))) rfl) (ai (ai (ai (ai nof rfl) rfl) (ai (ai (ai nof rfl) rfl) (ai (ai (ai nof rfl) rfl) (ai (ai (ai nof (ai rfl (fun _ _=>rfl))) rfl) (ai (ai (ai nof (ai rfl (fun _ _=>rfl))) rfl) (ai (ai (ai nof (ai rfl (fun _ _=>rfl))) rfl) (ai (ai rfl (ai rfl (ai rfl (fun _ _=>rfl)))) (ai (ai rfl (ai rfl (ai ?_ ?_))) (ai (ai nof rfl) rfl))))))))) (ai (ai (ai nof (iE (by omega))) rfl) trivial)) trivial
   ·rw[e1,aaJ];rfl
   ·rw[e1];exact dS _ _
 have ej:j=c.sts.length:=by omega
 clear g hl ht
 have hgn:∀q:Nat,lZ c q=aJ c+c.sts.length+fK c c.sts.length+q:=fun q=>by unfold lZ;omega
 have htm:=lq c c.sts.length
 refine fR (c.trs.length) (fun q=>[(72,.s (iA q))]) (fun q=>[⟨0,106,aqw c (isW (fD c c.sts.length)) (isW (bZ c c.sts.length)) (isW (om c q))⟩,⟨1,3,[.s (iA (lZ c q))]⟩]) (fun q=>True) ?_ ?_ ?_ ?_
 ·exact (ai (ai (fun _=>rfl) (iE (by omega))) rfl)
 ·refine (ai (ai (ai (ai nof rfl) rfl) (ai (ai (ai nof rfl) rfl) (ai (ai (ai nof rfl) rfl) (ai (ai (ai nof (ai rfl (fun _ _=>rfl))) rfl) (ai (ai (ai nof (ai rfl (fun _ _=>rfl))) rfl) (ai (ai (ai nof (ai rfl (fun _ _=>rfl))) rfl) (ai (ai rfl (ai rfl (ai rfl (fun _ _=>rfl)))) (ai (ai rfl (ai rfl (ai ?_ ?_))) rfl)))))))) (ai (ai (ai nof ?_) rfl) trivial))
  ·rw[ej]
  ·rw[ej];exact fun _ _=>rfl
  ·rw[hgn,ej];show _=_+((0:Nat):Int);omega
 ·trivial
 intro (q:Nat) ⟨hq,_⟩
 have hl:=tZ c q
 refine bL (q<c.trs.length) (fun g=>?_) fun g=>?_
 ·refine dR (.one 0 (.one 1 (.one 2 (.one 3 (.one 5 (.alt 4 (.wr 6 (.one 7 (.one 8 (.one 9 (.one 10 (.one 11 .done)))))) (.altw 6 (.one 4 (.one 7 (.one 8 (.one 9 (.one 10 (.one 11 .done)))))) .stop))))))) ?_
  refine ai ?_ (ai ?_ trivial)
  ·refine ei _ (ai (zh) (ei (lZ c q) (ei [1] (ai (ai rfl (ai rfl (ai rfl (ai rfl (ai nof (ai nof (Or.inl rfl))))))) (ai (by exact (ai rfl rfl)) (ai (by exact (ai rfl rfl)) (ai (⟨by show 0≤lZ c q;rw[hgn];omega,by show lZ c q≤1000000000;rw[hgn];omega⟩) ?_)))))))
   refine ai (mxL (n:=(om c q).length+1) (by omega) (by decide)) (ai (dW 1 rfl) ?_)
   refine nX (q) (ai (ai (fun _=>rfl) (aG (by omega))) rfl) (ai (ai (ai (ai nof rfl) rfl) (ai (ai (ai nof rfl) rfl) (ai (ai (ai nof rfl) rfl) (ai (ai (ai nof (ai rfl (fun _ _=>rfl))) rfl) (ai (ai (ai nof (ai rfl (fun _ _=>rfl))) rfl) (ai (ai (ai nof (ai rfl (fun _ _=>rfl))) rfl) (ai (ai rfl (ai rfl (ai rfl (fun _ _=>rfl)))) (ai (ai rfl (ai rfl (ai rfl (fun _ _=>rfl)))) (ai rfl (ai rfl (ai ?_ ?_))))))))))) (ai (ai (ai nof ?_) rfl) trivial)) trivial
   ·rw[aaS,aaJ];rfl
   ·rw[aaS];exact dS _ _
   ·have h1:=hgn q
    have h2:=hgn (q+1)
    show lZ c q+1=lZ c (q+1)
    omega
  ·refine ei _ (ai (zh) (ei (lZ c q) (ei [1] (ai (ai rfl (ai rfl (ai rfl (ai rfl (ai nof (ai nof (Or.inl rfl))))))) (ai (by exact (ai rfl rfl)) (ai (by exact (ai rfl rfl)) (ai (⟨by show 0≤lZ c q;rw[hgn];omega,by show lZ c q≤1000000000;rw[hgn];omega⟩) ?_)))))))
   refine ai (mxL (n:=(om c q).length+1) (by omega) (by decide)) (ai (dW 1 rfl) ?_)
   refine nX (q) (ai (ai (fun _=>rfl) (aG (by omega))) rfl) (ai (ai (ai (ai nof rfl) rfl) (ai (ai (ai nof rfl) rfl) (ai (ai (ai nof rfl) rfl) (ai (ai (ai nof (ai rfl (fun _ _=>rfl))) rfl) (ai (ai (ai nof (ai rfl (fun _ _=>rfl))) rfl) (ai (ai (ai nof (ai rfl (fun _ _=>rfl))) rfl) (ai (ai rfl (ai rfl (ai rfl (fun _ _=>rfl)))) (ai (ai rfl (ai rfl (ai rfl (fun _ _=>rfl)))) (ai rfl (ai rfl (ai ?_ ?_))))))))))) (ai (ai (ai nof ?_) rfl) trivial)) trivial
   ·rw[aaS,aaJ];rfl
   ·rw[aaS];exact dS _ _
   ·have h1:=hgn q
    have h2:=hgn (q+1)
    show lZ c q+1=lZ c (q+1)
    omega
 have eq:q=c.trs.length:=by omega
 refine ei [0,5,6,7] (ai (ai rfl (ai rfl rfl)) (ai trivial ?_))
 refine (ai (ai rfl (ai rfl (ai rfl (ai rfl (ai (ai rfl (fun _ _=>rfl)) (ai (ai rfl (fun _ _=>rfl)) (ai (ai rfl (fun _ _=>rfl)) (ai rfl (ai rfl rfl))))))))) (ai (ai rfl (ai rfl (ai rfl (fun _ _=>rfl)))) (ai (ai rfl (ai rfl (ai rfl (fun _ _=>rfl)))) (ai rfl (ai rfl (ai ?_ ?_))))))
 all_goals rw[eq]
 all_goals exact fun _ _=>rfl
structure amE where
 c:aB
 n:Nat
 f:Nat→List PV
 lt:List UInt8
 k:Nat
 nm:PV
 kd:PV
 o1:PV
 o2:PV
 o3:PV
 f1:PV
 f2:PV
 f3:PV
 dl:PV
 ini:PV
def amE.r (a:amE) (nm:PV):List PV:=[nm,a.kd,a.o1,a.o2,a.o3,a.f1,a.f2,a.f3,a.dl,a.ini]
def atv (a:amE):Prop:=a.n≤1000∧a.k<100∧a.lt.length≤10
def aww:yQ:={ A:=amE,fix:=1,args:=fun a=>[.own 0 0,sA a.lt,iA a.k,.p false (.agg (a.r a.nm))],objs:=fun a=>[anD a.c (.row 1),.row 92 10 a.n a.f],pre:=atv,res:=fun _=>.any,objs':=fun a=>[anD a.c (.row 1),.row 92 10 (a.n+1) (aY a.n a.f (aT 10 (a.r (sP (a.lt++dec a.k)))))] }
theorem qp:tH Tryz.prog 155 aww:=by
 refine vG Tryz.func155 ?_
 rintro ⟨c,n,f,lt,k,nm,kd,o1,o2,o3,f1,f2,f3,dl,ini⟩ hpre
 obtain ⟨hn,hk,hlt⟩:=hpre
 have hn:n≤1000:=hn
 have hk:k<100:=hk
 have hlt:lt.length≤10:=hlt
 refine cK (apU) (k) (by exact rfl) (hk) ?_
 have hd:=adF k (by omega)
 refine ai (by show ((((strOf lt).size+(strOf (dec k)).size:Nat)):Int)≤9223372036854775807;rw[cO,cO];omega) ?_
 refine dR (.seq [0,1,2,3,4,5,6,7,8,9,10]) ?_
 refine ai (mxL (n:=n+1) (by omega) (by decide)) (ai (lt1 rfl) ?_)
 refine dR (.seq [0,1,2,3,4,5,6,7,8,9,10,11]) ?_
 refine ei [0,4] (ai (ai rfl (ai rfl rfl)) (ai trivial ?_))
 exact (ai (ai rfl (ai rfl (ai rfl (ai rfl (ai (ai rfl (fun _ _=>rfl)) (ai (ai rfl (fun _ _=>rfl)) (ai (ai rfl (fun _ _=>rfl)) (ai (ai rfl (fun _ _=>rfl)) (ai (ai rfl (fun _ _=>rfl)) (ai rfl (fun _ _=>rfl))))))))))) (ai rfl (ai rfl (ai rfl (fun _ _=>rfl)))))
def auk (n:Nat):Spec:=bO (fun x:Ex=>[jK x,.fn 280 []]) (fun x=>x.size≤1000000∧x.size≤n) (fun x=>qM x)
def avZ (n:Nat):Spec:=bO (fun x:Ex=>[jK x,.fn 280 []]) (fun x=>x.size≤1000000∧x.size≤n) (fun x=>.agg [iP x.op,iP x.idx,.seq x.args.length (vQ x.args)])
theorem aqk (n:Nat) (ih:av Tryz.prog 278 (auk n)):av Tryz.prog 278 (avZ (n+1)):=by
 refine vI [280] Tryz.func278 ?_
 rintro (x:Ex) hpre
 obtain ⟨hs,hn⟩:=hpre
 have hs:x.size≤1000000:=hs
 have hn:x.size≤n+1:=hn
 have hsz:=x.size_eq
 have hal:=pK x.args
 refine fR (x.args.length) (fun k=>[(16,.s (iA k))]) (fun k=>[⟨2,90,[.s (iA x.op),.s (iA x.idx),exU (x.args.take k)]⟩]) (fun k=>True) ?_ ?_ ?_ ?_
 ·exact (ai (ai (fun _=>rfl) (iE (by omega))) rfl)
 ·exact (ai (ai (ai (ai nof rfl) rfl) (ai (ai (ai nof rfl) rfl) rfl)) trivial)
 ·trivial
 intro (k:Nat) ⟨hk,_⟩
 have hl:(x.args.take k).length=k:=by rw[al5];omega
 refine bL (k<x.args.length) (fun h2=>?_) fun h2=>?_
 ·refine iX (k) (x.args.length) ?_
  refine dR (.seq [0,1,2,3,4,5,6,7,8]) ?_
  have hm:=abu (bD bK h2)
  have hms:=jy hm
  refine cK (ih) (x.args.getD k bK) (by exact (ai (ai (iE (by simp only[zz,reduceCtorEq])) (ai (iE (by simp only[zz,reduceCtorEq])) (ai rfl (xX _)))) (ai rfl trivial))) (⟨by show (x.args.getD k bK).size≤1000000;omega,by show (x.args.getD k bK).size≤n;omega⟩) ?_
  have e:x.args.take (k+1)=x.args.take k++[x.args.getD k bK]:=aR bK h2
  refine ai (mxL (n:=(x.args.take k).length+1) (by omega) (by decide)) (ai (lt1 rfl) ?_)
  refine nX (k) (ai (ai (fun _=>rfl) (aG (by omega))) rfl) (ai (ai (ai (ai nof rfl) rfl) (ai (ai (ai nof rfl) rfl) (ai rfl (ai rfl (ai ?_ ?_))))) trivial) trivial
  ·rw[e,aaJ];rfl
  ·rw[e];exact gZ rfl (fun _ _=>rfl) (.of rfl)
 ·have et:x.args.take k=x.args:=avB (by omega)
  refine mY mixed fQ Tryz.func280 rfl rfl ?_
  refine ai rfl ?_
  refine ai (ai (fun h=>absurd (show false=true from h) (by decide)) ?_) trivial
  refine (ai rfl (ai rfl (ai ?_ ?_)))
  all_goals rw[et]
  all_goals exact fun _ _=>rfl
theorem arO:∀n,av Tryz.prog 278 (auk n)
 | 0=>⟨⟨_,Tryz.func278,rfl,rfl⟩,fun a hp=>absurd hp.2 (by have:=size_pos a;show ¬a.size≤0;omega)⟩
 | n+1=>gW (aqk n (arO n)) fun x _=>ab8 rfl
theorem avb:av Tryz.prog 278 (bO (fun x:Ex=>[jK x,.fn 280 []]) (fun x=>x.size≤1000000) (fun x=>qM x)):=nL (fun x=>x.size) arO
def avd (l:List Ex):Ob:=.cells 88 [.p false (afg l)]
def apa (a:aa9):Prop:=adK a∧∀y∈a.2,y.size≤1000000
def aqB (res:aa9→PV) (n:Nat):Spec:={ A:=aa9,args:=fun a=>[jK a.1,.fn 279 [.own 0 0]],objs:=fun a=>[avd a.2],pre:=fun a=>apa a∧a.1.size≤n,res:=res,objs':=fun _=>[],fresh:=false,ro:=1 }
theorem arI (n:Nat) (ih:av Tryz.prog 278 (aqB (fun a=>qM (dI a.2 a.1)) n)):av Tryz.prog 278 (aqB sN (n+1)):=by
 refine vI [279] Tryz.func278 ?_
 rintro ⟨x,l⟩ hpre
 obtain ⟨⟨⟨hg,hs⟩,hy⟩,hn⟩:=hpre
 have hg:kD l.length x:=hg
 have hs:x.size≤1000000:=hs
 have hn:x.size≤n+1:=hn
 have hsz:=x.size_eq
 have hal:=pK x.args
 obtain ⟨hn0,hga⟩:=(rz _ _).1 hg
 obtain ⟨_,_,hx1,hx2⟩:=vB hn0
 refine fR (x.args.length) (fun k=>[(16,.s (iA k))]) (fun k=>[⟨3,90,[.s (iA x.op),.s (iA x.idx),exU ((x.args.take k).map (dI l))]⟩]) (fun k=>True) ?_ ?_ ?_ ?_
 ·exact (ai (ai (fun _=>rfl) (iE (by omega))) rfl)
 ·exact (ai (ai (ai (ai nof rfl) rfl) (ai (ai (ai nof rfl) rfl) rfl)) trivial)
 ·trivial
 intro (k:Nat) ⟨hk,_⟩
 have hl:((x.args.take k).map (dI l)).length=k:=by rw[ai1,al5];omega
 refine ah (p:=k<x.args.length) (aA (by dsimp only;omega)) (fun h2=>?_) (fun h2=>?_)
 ·refine iX (k) (x.args.length) ?_
  refine dR (.seq [0,1,2,3,4,5,6,7,8]) ?_
  have hm:=abu (bD bK h2)
  have hms:=jy hm
  refine ei _ (ai (ih) (ei ((x.args.getD k bK,l)) (ei [0] (ai (a4 (ai (fun _=>Or.inl rfl) (ai nof (Or.inl rfl)))) (ai (by exact (ai (ai (iE (by simp only[zz,reduceCtorEq])) (ai (iE (by simp only[zz,reduceCtorEq])) (ai rfl (xX _)))) (ai rfl (ai rfl rfl)))) (ai (by exact (ai rfl (ai rfl (fun _ _=>rfl)))) (ai (⟨⟨⟨hga _ hm,by show (x.args.getD k bK).size≤1000000;omega⟩,hy⟩,by show (x.args.getD k bK).size≤n;omega⟩) ?_)))))))
  have e:(x.args.take (k+1)).map (dI l)=(x.args.take k).map (dI l)++[dI l (x.args.getD k bK)]:=by rw[aR bK h2,apk];rfl
  refine ai (mxL (n:=((x.args.take k).map (dI l)).length+1) (by omega) (by decide)) (ai (lt1 rfl) ?_)
  refine nX (k) (ai (ai (fun _=>rfl) (aG (by omega))) rfl) (ai (ai (ai (ai nof rfl) rfl) (ai (ai (ai nof rfl) rfl) (ai rfl (ai rfl (ai ?_ ?_))))) trivial) trivial
  ·rw[e,aaJ];rfl
  ·rw[e];exact gZ rfl (fun _ _=>rfl) (.of rfl)
 ·have et:x.args.take k=x.args:=avB (by omega)
  refine mY mixed fQ Tryz.func279 rfl rfl ?_
  refine ai rfl ?_
  refine bE (x.op=1) (fun h1=>?_) fun h1=>?_
  ·have hx3:x.idx<l.length:=by
    rw[h1] at hx2
    unfold vJ at hx2
    rw[if_neg (by decide),if_pos rfl] at hx2;omega
   have hxi:x.idx.toNat<l.length:=by omega
   refine ai (ai hx1 hx3) ?_
   refine ai rfl ?_
   refine cK (avb) (l.getD x.idx.toNat bK) (by exact (ai (ai rfl (ai rfl (ai rfl (xX _)))) (ai rfl trivial))) (hy _ (abu (bD bK hxi))) ?_
   refine ai (ai (fun h=>absurd (show false=true from h) (by decide)) ?_) trivial
   show lH _ (sN (x,l))
   rw[sN,if_pos h1]
   exact (ai rfl (ai rfl (ai rfl (fun _ _=>rfl))))
  ·refine ai (ai (fun h=>absurd (show false=true from h) (by decide)) ?_) trivial
   show lH _ (sN (x,l))
   rw[sN,if_neg h1]
   refine (ai rfl (ai rfl (ai ?_ ?_)))
   ·rw[hl];show k=x.args.length;omega
   ·rw[et];exact fun _ _=>rfl
theorem ar6:∀n,av Tryz.prog 278 (aqB (fun a=>qM (dI a.2 a.1)) n)
 | 0=>⟨⟨_,Tryz.func278,rfl,rfl⟩,fun a hp=>absurd hp.2 (by have:=size_pos a.1;show ¬a.1.size≤0;omega)⟩
 | n+1=>gW (arI n (ar6 n)) fun a _=>al8 a
def aoO:Spec:={ A:=aa9,args:=fun a=>[jK a.1,.fn 279 [.own 0 0]],objs:=fun a=>[avd a.2],pre:=apa,res:=fun a=>qM (dI a.2 a.1),objs':=fun _=>[],fresh:=false,ro:=1 }
theorem apb:av Tryz.prog 278 aoO:=nL (S:=aoO) (fun a=>a.1.size) ar6
structure SbA where
 x:Ex
 l:List Ex
 n:Int
def afn (a:SbA):Prop:=bg a.x a.l.length=0∧(∀y∈a.l,bg y a.n=0)∧(dI a.l a.x).size≤1000000
theorem aq2:av Tryz.prog 255 (bO (fun a:SbA=>[jK a.x,.p false (afg a.l),iA a.n]) (fun a=>afn a∧jl (dI a.l a.x)=true) (fun a=>.tup [qM (dI a.l a.x),iP 0])):=by
 refine vF Tryz.func255 ?_
 rintro (a:SbA) hpre
 obtain ⟨⟨h1,h2,h3⟩,h4⟩:=hpre
 have h1:bg a.x a.l.length=0:=h1
 have h2:∀y∈a.l,bg y a.n=0:=h2
 have h3:(dI a.l a.x).size≤1000000:=h3
 have h4:jl (dI a.l a.x)=true:=h4
 obtain ⟨⟨_,hl2⟩,⟨hxs,_⟩,hxg⟩:=gN.1 h1
 have hll:a.l.length≤256:=by omega
 have hy:∀y∈a.l,y.size≤1000000:=fun y hy=>by
  obtain ⟨_,⟨q,_⟩,_⟩:=gN.1 (h2 y hy)
  omega
 refine cK (qX) ((a.x,(a.l.length:Int))) (by exact (ai (ai rfl (ai rfl (ai rfl (fun _ _=>rfl)))) rfl)) ((by show a.x.size≤1000000;omega)) ?_
 refine aW (p:=bg a.x a.l.length=0) (bn (by dsimp only;omega)) (fun g1=>?_) (fun g1=>?_)
 ·exact absurd h1 g1
 refine fR (a.l.length) (fun k=>[(26,.s (iA k))]) (fun k=>[]) (fun k=>True) (by exact (ai (ai (fun _=>rfl) (iE (by omega))) rfl)) (by exact trivial) ?_ ?_
 ·trivial
 intro (k:Nat) ⟨hk,_⟩
 refine bL (k<a.l.length) (fun g2=>?_) fun g2=>?_
 ·refine iX (k) (a.l.length) ?_
  have hm:=abu (bD bK g2)
  refine cK (qX) ((a.l.getD k bK,a.n)) (by exact (ai (ai (iE (by simp only[zz,reduceCtorEq])) (ai (iE (by simp only[zz,reduceCtorEq])) (ai rfl (xX _)))) rfl)) (hy _ hm) ?_
  refine aW (p:=bg (a.l.getD k bK) a.n=0) (bn (by dsimp only;omega)) (fun g3=>?_) (fun g3=>?_)
  ·exact absurd (h2 _ hm) g3
  refine nX (k) (ai (ai (fun _=>rfl) (aG (by omega))) rfl) trivial trivial
 refine ei _ (ai (apb) (ei ((a.x,a.l)) (ei [1] (ai (a4 (ai (fun _=>Or.inl rfl) (ai nof (Or.inl rfl)))) (ai (by exact (ai (ai rfl (ai rfl (ai rfl (fun _ _=>rfl)))) (ai rfl (ai rfl rfl)))) (ai (by exact (ai rfl (ai rfl (fun _ _=>rfl)))) (ai (⟨⟨hxg,by show a.x.size≤1000000;omega⟩,hy⟩) ?_)))))))
 have e1:nU (dI a.l a.x)=.tup [iP (dI a.l a.x).size,iP (dI a.l a.x).deep,bP true]:=by unfold nU yh;rw[if_pos (nN.1 h4)]
 refine cK ((vk aec (dI a.l a.x) h3 e1)) (()) (by exact (ai rfl (ai rfl (ai rfl (fun _ _=>rfl))))) (trivial) ?_
 refine ai (ai (fun h=>absurd (show false=true from h) (by decide)) ?_) trivial
 exact (ai (ai rfl (ai rfl (ai rfl (fun _ _=>rfl)))) rfl)
theorem an6:av Tryz.prog 255 (bO (fun a:SbA=>[jK a.x,.p false (afg a.l),iA a.n]) (fun a=>afn a∧jl (dI a.l a.x)=false) (fun a=>.tup [.agg [iP 0,iP 0,.val (.slice none 0 0)],iP 5])):=by
 refine vF Tryz.func255 ?_
 rintro (a:SbA) hpre
 obtain ⟨⟨h1,h2,h3⟩,h4⟩:=hpre
 have h1:bg a.x a.l.length=0:=h1
 have h2:∀y∈a.l,bg y a.n=0:=h2
 have h3:(dI a.l a.x).size≤1000000:=h3
 have h4:jl (dI a.l a.x)=false:=h4
 obtain ⟨⟨_,hl2⟩,⟨hxs,_⟩,hxg⟩:=gN.1 h1
 have hll:a.l.length≤256:=by omega
 have hy:∀y∈a.l,y.size≤1000000:=fun y hy=>by
  obtain ⟨_,⟨q,_⟩,_⟩:=gN.1 (h2 y hy)
  omega
 refine cK (qX) ((a.x,(a.l.length:Int))) (by exact (ai (ai rfl (ai rfl (ai rfl (fun _ _=>rfl)))) rfl)) ((by show a.x.size≤1000000;omega)) ?_
 refine aW (p:=bg a.x a.l.length=0) (bn (by dsimp only;omega)) (fun g1=>?_) (fun g1=>?_)
 ·exact absurd h1 g1
 refine fR (a.l.length) (fun k=>[(26,.s (iA k))]) (fun k=>[]) (fun k=>True) (by exact (ai (ai (fun _=>rfl) (iE (by omega))) rfl)) (by exact trivial) ?_ ?_
 ·trivial
 intro (k:Nat) ⟨hk,_⟩
 refine bL (k<a.l.length) (fun g2=>?_) fun g2=>?_
 ·refine iX (k) (a.l.length) ?_
  have hm:=abu (bD bK g2)
  refine cK (qX) ((a.l.getD k bK,a.n)) (by exact (ai (ai (iE (by simp only[zz,reduceCtorEq])) (ai (iE (by simp only[zz,reduceCtorEq])) (ai rfl (xX _)))) rfl)) (hy _ hm) ?_
  refine aW (p:=bg (a.l.getD k bK) a.n=0) (bn (by dsimp only;omega)) (fun g3=>?_) (fun g3=>?_)
  ·exact absurd (h2 _ hm) g3
  refine nX (k) (ai (ai (fun _=>rfl) (aG (by omega))) rfl) trivial trivial
 refine ei _ (ai (apb) (ei ((a.x,a.l)) (ei [1] (ai (a4 (ai (fun _=>Or.inl rfl) (ai nof (Or.inl rfl)))) (ai (by exact (ai (ai rfl (ai rfl (ai rfl (fun _ _=>rfl)))) (ai rfl (ai rfl rfl)))) (ai (by exact (ai rfl (ai rfl (fun _ _=>rfl)))) (ai (⟨⟨hxg,by show a.x.size≤1000000;omega⟩,hy⟩) ?_)))))))
 have h5:¬((dI a.l a.x).size≤256∧(dI a.l a.x).deep≤16):=fun h=>by rw[nN.2 h] at h4;cases h4
 have e1:nU (dI a.l a.x)=.tup [iP 0,iP 0,bP false]:=by unfold nU yh;rw[if_neg h5]
 refine cK ((vk aec (dI a.l a.x) h3 e1)) (()) (by exact (ai rfl (ai rfl (ai rfl (fun _ _=>rfl))))) (trivial) ?_
 refine ai (ai (fun h=>absurd (show false=true from h) (by decide)) ?_) trivial
 exact (ai (ai rfl (ai rfl rfl)) rfl)
theorem asX:av Tryz.prog 204 (bO (fun t:sF=>[trA t]) (fun _=>True) (fun t=>fT t.to)):=by
 refine vF Tryz.func204 ?_
 rintro (t:sF) hpre
 refine ai (ai (fun h=>absurd (show false=true from h) (by decide)) ?_) trivial
 exact (ai rfl (fun _ _=>rfl))
theorem atx:av Tryz.prog 205 (bO (fun t:sF=>[trA t]) (fun _=>True) (fun t=>fT t.fr)):=by
 refine vF Tryz.func205 ?_
 rintro (t:sF) hpre
 refine ai (ai (fun h=>absurd (show false=true from h) (by decide)) ?_) trivial
 exact (ai rfl (fun _ _=>rfl))
def au6 (c:aB):Ob:=.cells 106 [.any,.any,.any,.any,.any,.p false (adz c.trs),.any,.any,akA c]
def afF (a:aB×Nat):Prop:=jr a.1∧a.1.trs.length≤1000000
theorem ahN:av Tryz.prog 203 { A:=aB×Nat,args:=fun a=>[.own 0 0,iA a.2,.fn 204 []],objs:=fun a=>[au6 a.1],pre:=afF,res:=fun a=>fT (gP a.1 (a.2:Int) false a.1.trs.length),objs':=fun _=>[],fresh:=true,ro:=1 }:=by
 refine vF Tryz.func203 ?_
 rintro ⟨c,s⟩ hpre
 obtain ⟨ho,ht⟩:=hpre
 have ht:c.trs.length≤1000000:=ht
 refine fR (c.trs.length) (fun k=>[(16,.s (iA k)),(7,isR (gP c s false k))]) (fun k=>[]) (fun k=>True) ?_ ?_ ?_ ?_
 ·exact (ai (ai (ai (fun _=>rfl) (iE (by omega))) rfl) rfl)
 ·exact trivial
 ·trivial
 intro (k:Nat) ⟨hk,_⟩
 have hl:=lQ c s false k
 have hgl:=tZ c c.trs.length
 refine ah (p:=k<c.trs.length) (aA (by dsimp only;omega)) (fun g1=>?_) (fun g1=>?_)
 ·refine iX (k) (c.trs.length) ?_
  have hto:=nG ho g1
  refine cK (asX) (c.trs.getD k bf) (by exact (ai (ai rfl (fun _ _=>rfl)) (ai (ai rfl (fun _ _=>rfl)) (ai (iE (by simp only[zz,reduceCtorEq])) (ai (iE (by simp only[zz,reduceCtorEq])) (ai rfl (fun _ _=>rfl))))))) (trivial) ?_
  refine cK (agE) (((c.trs.getD k bf).to,(s:Int))) (by exact (ai (ai rfl (fun _ _=>rfl)) rfl)) (hto.2.1) ?_
  refine aC (b:=gX (c.trs.getD k bf).to s) rfl (fun g3=>?_) (fun g3=>?_)
  ·refine iX (k) ((om c c.trs.length).length) ?_
   have e0:=aeZ c (n:=c.trs.length) g1
   have e1:gP c s false (k+1)=gP c s false k++[(om c c.trs.length).getD k 0]:=by rw[gP,if_pos (show gX (wE c false k) s=true from g3),e0]
   refine ai (mxL (n:=(gP c s false k).length+1) (by omega) (by decide)) (ai (dW 1 rfl) ?_)
   refine nX (k) (ai (ai (ai (fun _=>rfl) (aG (by omega))) rfl) (ai rfl (ai rfl (ai ?_ ?_)))) trivial trivial
   ·rw[e1,aaJ];rfl
   ·rw[e1];exact dS _ _
  ·have e1:gP c s false (k+1)=gP c s false k:=by rw[gP,if_neg (show ¬gX (wE c false k) s=true by rw[show gX (wE c false k) s=false from g3];decide)]
   refine nX (k) (ai (ai (ai (fun _=>rfl) (aG (by omega))) rfl) (ai rfl (ai rfl (ai ?_ ?_)))) trivial trivial
   ·rw[e1]
   ·rw[e1];exact fun _ _=>rfl
 ·obtain rfl:k=c.trs.length:=by omega
  refine ai (ai (fun _=>(by exact (fun _ _=>rfl))) ?_) trivial
  exact (ai rfl (fun _ _=>rfl))
theorem ahU:av Tryz.prog 203 { A:=aB×Nat,args:=fun a=>[.own 0 0,iA a.2,.fn 205 []],objs:=fun a=>[au6 a.1],pre:=afF,res:=fun a=>fT (gP a.1 (a.2:Int) true a.1.trs.length),objs':=fun _=>[],fresh:=true,ro:=1 }:=by
 refine vF Tryz.func203 ?_
 rintro ⟨c,s⟩ hpre
 obtain ⟨ho,ht⟩:=hpre
 have ht:c.trs.length≤1000000:=ht
 refine fR (c.trs.length) (fun k=>[(16,.s (iA k)),(7,isR (gP c s true k))]) (fun k=>[]) (fun k=>True) ?_ ?_ ?_ ?_
 ·exact (ai (ai (ai (fun _=>rfl) (iE (by omega))) rfl) rfl)
 ·exact trivial
 ·trivial
 intro (k:Nat) ⟨hk,_⟩
 have hl:=lQ c s true k
 have hgl:=tZ c c.trs.length
 refine ah (p:=k<c.trs.length) (aA (by dsimp only;omega)) (fun g1=>?_) (fun g1=>?_)
 ·refine iX (k) (c.trs.length) ?_
  have hto:=nG ho g1
  refine cK (atx) (c.trs.getD k bf) (by exact (ai (ai rfl (fun _ _=>rfl)) (ai (ai rfl (fun _ _=>rfl)) (ai (iE (by simp only[zz,reduceCtorEq])) (ai (iE (by simp only[zz,reduceCtorEq])) (ai rfl (fun _ _=>rfl))))))) (trivial) ?_
  refine cK (agE) (((c.trs.getD k bf).fr,(s:Int))) (by exact (ai (ai rfl (fun _ _=>rfl)) rfl)) (hto.1) ?_
  refine aC (b:=gX (c.trs.getD k bf).fr s) rfl (fun g3=>?_) (fun g3=>?_)
  ·refine iX (k) ((om c c.trs.length).length) ?_
   have e0:=aeZ c (n:=c.trs.length) g1
   have e1:gP c s true (k+1)=gP c s true k++[(om c c.trs.length).getD k 0]:=by rw[gP,if_pos (show gX (wE c true k) s=true from g3),e0]
   refine ai (mxL (n:=(gP c s true k).length+1) (by omega) (by decide)) (ai (dW 1 rfl) ?_)
   refine nX (k) (ai (ai (ai (fun _=>rfl) (aG (by omega))) rfl) (ai rfl (ai rfl (ai ?_ ?_)))) trivial trivial
   ·rw[e1,aaJ];rfl
   ·rw[e1];exact dS _ _
  ·have e1:gP c s true (k+1)=gP c s true k:=by rw[gP,if_neg (show ¬gX (wE c true k) s=true by rw[show gX (wE c true k) s=false from g3];decide)]
   refine nX (k) (ai (ai (ai (fun _=>rfl) (aG (by omega))) rfl) (ai rfl (ai rfl (ai ?_ ?_)))) trivial trivial
   ·rw[e1]
   ·rw[e1];exact fun _ _=>rfl
 ·obtain rfl:k=c.trs.length:=by omega
  refine ai (ai (fun _=>(by exact (fun _ _=>rfl))) ?_) trivial
  exact (ai rfl (fun _ _=>rfl))
def axf (c:aB):Ob:=.cells 106 [.any,.any,.any,.any,.p false (abb c.sts),.any,akc c,.any,.any]
theorem yu:av Tryz.prog 158 { A:=aB×Sk,args:=fun a=>[.own 0 0,skA a.2],objs:=fun a=>[axf a.1],pre:=fun a=>jr a.1∧a.1.sts.length≤1000000,res:=fun a=>fT (dZ a.1 a.2 a.1.sts.length),objs':=fun _=>[],fresh:=true,ro:=1 }:=by
 refine vF Tryz.func158 ?_
 rintro ⟨c,x⟩ hpre
 obtain ⟨ho,h4⟩:=hpre
 have h4:c.sts.length≤1000000:=h4
 refine fR (c.sts.length) (fun k=>[(14,.s (iA k)),(5,isR (dZ c x k))]) (fun k=>[]) (fun k=>True) ?_ ?_ ?_ ?_
 ·exact (ai (ai (ai (fun _=>rfl) (iE (by omega))) rfl) rfl)
 ·exact trivial
 ·trivial
 intro (k:Nat) ⟨hk,_⟩
 have hl:=uq c x k
 have hgl:=q8 c c.sts.length
 refine ah (p:=k<c.sts.length) (aA (by dsimp only;omega)) (fun g1=>?_) (fun g1=>?_)
 ·refine iX (k) (c.sts.length) ?_
  have hlo:=ho.1 _ (abu (bD st0 g1))
  refine cK (asT) (((c.sts.getD k st0).st,x)) (by exact (ai (ai rfl (fun _ _=>rfl)) (ai rfl rfl))) (hlo) ?_
  refine aC (b:=uS (c.sts.getD k st0).st x) rfl (fun g3=>?_) (fun g3=>?_)
  ·refine iX (k) ((fD c c.sts.length).length) ?_
   have e0:=um c (n:=c.sts.length) g1
   have e1:dZ c x (k+1)=dZ c x k++[(fD c c.sts.length).getD k 0]:=by rw[dZ,if_pos g3,e0]
   refine ai (mxL (n:=(dZ c x k).length+1) (by omega) (by decide)) (ai (dW 1 rfl) ?_)
   refine nX (k) (ai (ai (ai (fun _=>rfl) (aG (by omega))) rfl) (ai rfl (ai rfl (ai ?_ ?_)))) trivial trivial
   ·rw[e1,aaJ];rfl
   ·rw[e1];exact dS _ _
  ·have e1:dZ c x (k+1)=dZ c x k:=by rw[dZ,if_neg (by rw[g3];decide)]
   refine nX (k) (ai (ai (ai (fun _=>rfl) (aG (by omega))) rfl) (ai rfl (ai rfl (ai ?_ ?_)))) trivial trivial
   ·rw[e1]
   ·rw[e1];exact fun _ _=>rfl
 ·obtain rfl:k=c.sts.length:=by omega
  refine ai (ai (fun _=>(by exact (fun _ _=>rfl))) ?_) trivial
  exact (ai rfl (fun _ _=>rfl))
theorem wT {j N:Int} (h0:0≤j) (h1:j<N):kD N (fV j):=by
 rw[rz]
 refine ⟨?_,fun y hy=>by cases hy⟩
 show aK (.node 1 j []) N=0
 unfold aK
 rw[if_neg (by show ¬((1:Int)<0∨(5:Int)≤1);omega),if_neg (by show ¬(0<zw 1∨acL 1<0);decide),if_neg]
 show ¬(j<0∨vJ 1 N<j)
 unfold vJ
 rw[if_neg (by decide),if_pos rfl];omega
theorem jS (j:Int):(fV j).size=1:=by show (Ex.node 1 j []).size=1;rw[Ex.size,sizes]
theorem aaN (j:Int):(fV j).deep=1:=by show (Ex.node 1 j []).deep=1;rw[Ex.deep,iy]
theorem acY (x y:Ex):(vD x y).size=x.size+y.size+1:=by show (Ex.node 3 0 [x,y]).size=_;rw[Ex.size,sizes,sizes,sizes];omega
theorem anV (x y:Ex):(vD x y).deep=max x.deep y.deep+1:=by show (Ex.node 3 0 [x,y]).deep=_;rw[Ex.deep,iy,iy,iy];omega
theorem aok {N:Int} {x y:Ex} (hx:kD N x) (hy:kD N y):kD N (vD x y):=by
 rw[rz]
 refine ⟨?_,fun z hz=>?_⟩
 ·show aK (.node 3 0 [x,y]) N=0
  unfold aK
  rw[if_neg (by show ¬((3:Int)<0∨(5:Int)≤3);omega),if_neg (by show ¬(2<zw 3∨acL 3<2);decide),if_neg]
  show ¬((0:Int)<0∨vJ 3 N<0)
  unfold vJ
  rw[if_neg (by decide),if_neg (by decide)];omega
 ·have hz:z∈[x,y]:=hz
  simp only[ajI,List.not_mem_nil,or_false] at hz
  rcases hz with rfl | rfl<;>assumption
def aay (c:aB):Int:=aJ c+c.sts.length+c.sts.length+c.trs.length
theorem abW {c:aB} (h:jP c):∀y∈relE c,bg y (aay c)=0∧y.size≤3:=by
 intro y hy
 obtain ⟨⟨ha1,ha6⟩,hi16,hs24,ht32⟩:=dA h
 have hb:aJ c=2*c.act+c.ins.length:=rfl
 have hN:aay c=aJ c+c.sts.length+c.sts.length+c.trs.length:=rfl
 unfold relE mO at hy
 rcases acT.1 hy with hy | hy
 ·unfold sJ at hy
  obtain ⟨j,hj,rfl⟩:=auA.1 hy
  have hj:=auJ.1 hj
  exact ⟨gN.2 ⟨⟨by omega,by omega⟩,⟨by rw[jS];omega,by rw[aaN];omega⟩,wT (by omega) (by omega)⟩,by rw[jS];omega⟩
 ·obtain ⟨k,hk,rfl⟩:=auA.1 hy
  have hk:=auJ.1 hk
  have ht:fK c k≤k:=lq c k
  have hm:mU c k=aJ c+k:=rfl
  unfold acj
  split
  ·exact ⟨gN.2 ⟨⟨by omega,by omega⟩,⟨by rw[jS];omega,by rw[aaN];omega⟩,wT (by omega) (by omega)⟩,by rw[jS];omega⟩
  ·rename_i hw
   have hcl:sI c k=aJ c+c.sts.length+fK c k:=if_neg hw
   exact ⟨gN.2 ⟨⟨by omega,by omega⟩,⟨by rw[acY,jS,jS];omega,by rw[anV,aaN,aaN];omega⟩,aok (wT (by omega) (by omega)) (wT (by omega) (by omega))⟩,by rw[acY,jS,jS];omega⟩
theorem aqF:bK.size≤3:=by decide
mutual
theorem ac1 {l:List Ex} (h:∀y∈l,y.size≤3):∀x:Ex,(dI l x).size≤3*x.size
 | .node o i m=>by
  rw[dI]
  split
  ·have:(l.getD i.toNat bK).size≤3:=by
    by_cases hi:i.toNat<l.length
    ·exact h _ (abu (bD bK hi))
    ·rw[aaG,awE (by omega)];exact aqF
   rw[Ex.size];omega
  ·rw[Ex.size,Ex.size]
   have:=af7 h m
   omega
theorem af7 {l:List Ex} (h:∀y∈l,y.size≤3):∀m:List Ex,sizes (acB l m)≤3*sizes m
 | []=>by rw[acB,sizes];omega
 | x :: m=>by
  have h1:=ac1 h x
  have h2:=af7 h m
  rw[acB,sizes,sizes];omega
end
theorem alH {c:aB} (h:jP c) {i:Nat} (hi:i<c.trs.length):afn ⟨sG c i,relE c,aay c⟩:=by
 obtain ⟨⟨ha1,ha6⟩,hi16,hs24,ht32⟩:=dA h
 obtain ⟨_,_,h3⟩:=tC h.1 hi
 have hl:=zq c c.sts.length
 have hb:aJ c=2*c.act+c.ins.length:=rfl
 have hv:lF c=2*c.act+c.ins.length+c.sts.length:=rfl
 have e:(((relE c).length:Nat):Int)=lF c:=by unfold relE;rw[hl];omega
 obtain ⟨_,⟨hs,_⟩,_⟩:=gN.1 h3
 have hs:(sG c i).size≤256:=hs
 have:=ac1 (fun y hy=>(abW h y hy).2) (sG c i)
 exact ⟨by show bg (sG c i) (((relE c).length:Nat):Int)=0;rw[e];exact h3,fun y hy=>(abW h y hy).1,by show (dI (relE c) (sG c i)).size≤1000000;omega⟩
def ae1 (c:aB) (i:Nat):Bool:=jl (dI (relE c) (sG c i))
theorem apn:av Tryz.prog 255 (bO (fun a:SbA=>[jK a.x,.p false (.seq a.l.length (vQ a.l)),iA a.n]) (fun a=>afn a∧jl (dI a.l a.x)=true) (fun a=>.tup [qM (dI a.l a.x),iP 0])):=
 ajl aq2 fun a _=>⟨.inl rfl,.inr ⟨_,_,rfl,rfl,afK _⟩,.inl rfl,trivial⟩
theorem am0:av Tryz.prog 255 (bO (fun a:SbA=>[jK a.x,.p false (.seq a.l.length (vQ a.l)),iA a.n]) (fun a=>afn a∧jl (dI a.l a.x)=false) (fun a=>.tup [.agg [iP 0,iP 0,.val (.slice none 0 0)],iP 5])):=
 ajl an6 fun a _=>⟨.inl rfl,.inr ⟨_,_,rfl,rfl,afK _⟩,.inl rfl,trivial⟩
def avo (c:aB):Ob:=.cells 106 [iA (aJ c),.any,.any,.any,.p false (abb c.sts),.any,akc c,akT c,akA c]
def ac2 (b:Bool) (a:aB×Nat):Prop:=akL a∧ae1 a.1 a.2=b
theorem ath:av Tryz.prog 210 { A:=aB×Nat,args:=fun a=>[.own 0 0,jK (sG a.1 a.2)],objs:=fun a=>[avo a.1],pre:=ac2 true,res:=fun a=>.tup [qM (dI (relE a.1) (sG a.1 a.2)),iP 0],objs':=fun _=>[],fresh:=false,ro:=1 }:=by
 refine vI [4000058,3000064] Tryz.func210 ?_
 rintro ⟨c,i⟩ hpre
 obtain ⟨⟨hc,hi⟩,hL⟩:=hpre
 have hc:jP c:=hc
 have hi:i<c.trs.length:=hi
 have hL:ae1 c i=true:=hL
 have hs:=iJ hc.1
 obtain ⟨⟨ha1,ha6⟩,hi16,hs24,ht32⟩:=dA hc
 have hb:aJ c=2*c.act+c.ins.length:=rfl
 have hml:=q8 c c.sts.length
 have hcl:=p9 c c.sts.length
 have hgl:=tZ c c.trs.length
 refine fR ((aJ c).toNat) (fun k=>[(15,.s (iA k)),(6,exU (sJ k))]) (fun k=>[]) (fun k=>True) ?_ ?_ ?_ ?_
 ·exact (ai (ai (ai (fun _=>rfl) (iE (by omega))) rfl) rfl)
 ·exact trivial
 ·trivial
 intro (k:Nat) ⟨hk,_⟩
 have hl:=abS k
 refine ah (p:=k<(aJ c).toNat) (by exact aA (show ((k:Nat):Int)<aJ c↔_ by omega)) (fun g1=>?_) (fun g1=>?_)
 ·refine cK (jL) ((k:Int)) (by exact rfl) (trivial) ?_
  refine ai (mxL (n:=(sJ k).length+1) (by omega) (by decide)) (ai (lt1 rfl) ?_)
  refine nX (k) (ai (ai (ai (fun _=>rfl) (aG (by omega))) rfl) (ai rfl (ai rfl (ai ?_ ?_)))) trivial trivial
  ·rw[uJ,aaJ];rfl
  ·rw[uJ];exact gZ rfl (fun _ _=>rfl) (nI _)
 have e0:mO c 0=sJ k:=by rw[show k=(aJ c).toNat by omega];exact arR _
 refine fR (c.sts.length) (fun n=>[(29,.s (iA n)),(6,exU (mO c n))]) (fun n=>[]) (fun n=>True) ?_ ?_ ?_ ?_
 ·refine (ai (ai (ai (fun _=>rfl) (iE (by omega))) rfl) (ai rfl (ai rfl (ai ?_ ?_))))
  ·rw[e0]
  ·rw[e0];exact fun _ _=>.of rfl
 ·exact trivial
 ·trivial
 intro (n:Nat) ⟨hn,_⟩
 have hl:=zq c n
 refine ah (p:=n<c.sts.length) (by exact aA (show ((n:Nat):Int)<(((fD c c.sts.length).length:Nat):Int)↔_ by omega)) (fun g2=>?_) (fun g2=>?_)
 ·have em:=um c (n:=c.sts.length) g2
  have hck:=vW c c.sts.length n g2
  refine iX (n) ((fD c c.sts.length).length) ?_
  refine iX (n) ((bZ c c.sts.length).length) ?_
  refine ah (p:=(c.sts.getD n st0).wt=0) (by exact sW (by show (bZ c c.sts.length).getD n 0=-1099511627776↔_;rw[hck];exact xq hs)) (fun g3=>?_) (fun g3=>?_)
  ·refine cK (jL) ((fD c c.sts.length).getD n 0) (by exact (iE (by simp only[zz,reduceCtorEq]))) (trivial) ?_
   refine ai (mxL (n:=(mO c n).length+1) (by omega) (by decide)) (ai (lt1 rfl) ?_)
   refine nX (n) (ai (ai (ai (fun _=>rfl) (aG (by omega))) rfl) (ai rfl (ai rfl (ai ?_ ?_)))) trivial trivial
   ·rw[kM,aaJ];rfl
   ·rw[kM];exact gZ rfl (fun _ _=>rfl) (by rw[acj,if_pos g3];exact (by rw[←em];exact nI _))
  ·refine dR (.seq [0,1,3,4,5,6,7,8,9,2,10,11,12,13,14,15]) ?_
   refine iX (n) ((bZ c c.sts.length).length) ?_
   refine cK (jL) ((fD c c.sts.length).getD n 0) (by exact (iE (by simp only[zz,reduceCtorEq]))) (trivial) ?_
   refine cK (jL) ((bZ c c.sts.length).getD n 0) (by exact (iE (by simp only[zz,reduceCtorEq]))) (trivial) ?_
   refine cK (abz) ((2,aT 3 (q9 (pV ((fD c c.sts.length).getD n 0))++q9 (pV ((bZ c c.sts.length).getD n 0))))) (by exact (ai rfl (fun _ _=>rfl))) (trivial) ?_
   refine ai (mxL (n:=(mO c n).length+1) (by omega) (by decide)) (ai (lt1 rfl) ?_)
   refine nX (n) (ai (ai (ai (fun _=>rfl) (aG (by omega))) rfl) (ai rfl (ai rfl (ai ?_ ?_)))) trivial trivial
   ·rw[kM,aaJ];rfl
   ·rw[kM];exact gZ rfl (fun _ _=>rfl) (by rw[acj,if_neg g3];exact (by rw[←em,←hck];exact ag5 _ _))
 have en:n=c.sts.length:=by omega
 have eN:IntKind.i64.wrap (IntKind.i64.wrap (IntKind.i64.wrap (aJ c+((fD c c.sts.length).length:Int))+(c.sts.length:Int))+((om c c.trs.length).length:Int))=aay c:=by
  rw[hml,hgl,dF (n:=aJ c+(c.sts.length:Int)) (by omega) (by omega),dF (n:=aJ c+(c.sts.length:Int)+(c.sts.length:Int)) (by omega) (by omega),dF (by omega) (by omega)];rfl
 have er:mO c n=relE c:=by rw[en];rfl
 refine dR (.seq [0,1,2,3,4,5,6,7,8,9,10,11,12,13,14,15,16,17,18,19,20,21,22,23,24,25,26,27,28,29,30]) ?_
 refine ei _ (ai (apn) (ei (⟨sG c i,mO c n,aay c⟩) (ei [] (ai (a4 (ai (fun _=>Or.inl rfl) (ai nof (Or.inl rfl)))) (ai ?_ (ai (by exact trivial) (ai (⟨by rw[er];exact alH hc hi,by rw[er];exact hL⟩) ?_)))))))
 ·exact (ai (ai rfl (ai rfl (ai rfl (fun _ _=>rfl)))) (ai (ai rfl (fun _ _=>rfl)) (iE (by simp only[zz,reduceCtorEq];omega))))
 refine ai (ai (fun h=>absurd (show false=true from h) (by decide)) ?_) trivial
 show lH _ (.tup [qM (dI (relE c) (sG c i)),iP 0])
 try rw[←er]
 exact (ai (ai rfl (ai rfl (ai rfl (fun _ _=>rfl)))) rfl)
theorem aq5:av Tryz.prog 210 { A:=aB×Nat,args:=fun a=>[.own 0 0,jK (sG a.1 a.2)],objs:=fun a=>[avo a.1],pre:=ac2 false,res:=fun a=>.tup [.agg [iP 0,iP 0,.val (.slice none 0 0)],iP 5],objs':=fun _=>[],fresh:=false,ro:=1 }:=by
 refine vI [4000058,3000064] Tryz.func210 ?_
 rintro ⟨c,i⟩ hpre
 obtain ⟨⟨hc,hi⟩,hL⟩:=hpre
 have hc:jP c:=hc
 have hi:i<c.trs.length:=hi
 have hL:ae1 c i=false:=hL
 have hs:=iJ hc.1
 obtain ⟨⟨ha1,ha6⟩,hi16,hs24,ht32⟩:=dA hc
 have hb:aJ c=2*c.act+c.ins.length:=rfl
 have hml:=q8 c c.sts.length
 have hcl:=p9 c c.sts.length
 have hgl:=tZ c c.trs.length
 refine fR ((aJ c).toNat) (fun k=>[(15,.s (iA k)),(6,exU (sJ k))]) (fun k=>[]) (fun k=>True) ?_ ?_ ?_ ?_
 ·exact (ai (ai (ai (fun _=>rfl) (iE (by omega))) rfl) rfl)
 ·exact trivial
 ·trivial
 intro (k:Nat) ⟨hk,_⟩
 have hl:=abS k
 refine ah (p:=k<(aJ c).toNat) (by exact aA (show ((k:Nat):Int)<aJ c↔_ by omega)) (fun g1=>?_) (fun g1=>?_)
 ·refine cK (jL) ((k:Int)) (by exact rfl) (trivial) ?_
  refine ai (mxL (n:=(sJ k).length+1) (by omega) (by decide)) (ai (lt1 rfl) ?_)
  refine nX (k) (ai (ai (ai (fun _=>rfl) (aG (by omega))) rfl) (ai rfl (ai rfl (ai ?_ ?_)))) trivial trivial
  ·rw[uJ,aaJ];rfl
  ·rw[uJ];exact gZ rfl (fun _ _=>rfl) (nI _)
 have e0:mO c 0=sJ k:=by rw[show k=(aJ c).toNat by omega];exact arR _
 refine fR (c.sts.length) (fun n=>[(29,.s (iA n)),(6,exU (mO c n))]) (fun n=>[]) (fun n=>True) ?_ ?_ ?_ ?_
 ·refine (ai (ai (ai (fun _=>rfl) (iE (by omega))) rfl) (ai rfl (ai rfl (ai ?_ ?_))))
  ·rw[e0]
  ·rw[e0];exact fun _ _=>.of rfl
 ·exact trivial
 ·trivial
 intro (n:Nat) ⟨hn,_⟩
 have hl:=zq c n
 refine ah (p:=n<c.sts.length) (by exact aA (show ((n:Nat):Int)<(((fD c c.sts.length).length:Nat):Int)↔_ by omega)) (fun g2=>?_) (fun g2=>?_)
 ·have em:=um c (n:=c.sts.length) g2
  have hck:=vW c c.sts.length n g2
  refine iX (n) ((fD c c.sts.length).length) ?_
  refine iX (n) ((bZ c c.sts.length).length) ?_
  refine ah (p:=(c.sts.getD n st0).wt=0) (by exact sW (by show (bZ c c.sts.length).getD n 0=-1099511627776↔_;rw[hck];exact xq hs)) (fun g3=>?_) (fun g3=>?_)
  ·refine cK (jL) ((fD c c.sts.length).getD n 0) (by exact (iE (by simp only[zz,reduceCtorEq]))) (trivial) ?_
   refine ai (mxL (n:=(mO c n).length+1) (by omega) (by decide)) (ai (lt1 rfl) ?_)
   refine nX (n) (ai (ai (ai (fun _=>rfl) (aG (by omega))) rfl) (ai rfl (ai rfl (ai ?_ ?_)))) trivial trivial
   ·rw[kM,aaJ];rfl
   ·rw[kM];exact gZ rfl (fun _ _=>rfl) (by rw[acj,if_pos g3];exact (by rw[←em];exact nI _))
  ·refine dR (.seq [0,1,3,4,5,6,7,8,9,2,10,11,12,13,14,15]) ?_
   refine iX (n) ((bZ c c.sts.length).length) ?_
   refine cK (jL) ((fD c c.sts.length).getD n 0) (by exact (iE (by simp only[zz,reduceCtorEq]))) (trivial) ?_
   refine cK (jL) ((bZ c c.sts.length).getD n 0) (by exact (iE (by simp only[zz,reduceCtorEq]))) (trivial) ?_
   refine cK (abz) ((2,aT 3 (q9 (pV ((fD c c.sts.length).getD n 0))++q9 (pV ((bZ c c.sts.length).getD n 0))))) (by exact (ai rfl (fun _ _=>rfl))) (trivial) ?_
   refine ai (mxL (n:=(mO c n).length+1) (by omega) (by decide)) (ai (lt1 rfl) ?_)
   refine nX (n) (ai (ai (ai (fun _=>rfl) (aG (by omega))) rfl) (ai rfl (ai rfl (ai ?_ ?_)))) trivial trivial
   ·rw[kM,aaJ];rfl
   ·rw[kM];exact gZ rfl (fun _ _=>rfl) (by rw[acj,if_neg g3];exact (by rw[←em,←hck];exact ag5 _ _))
 have en:n=c.sts.length:=by omega
 have eN:IntKind.i64.wrap (IntKind.i64.wrap (IntKind.i64.wrap (aJ c+((fD c c.sts.length).length:Int))+(c.sts.length:Int))+((om c c.trs.length).length:Int))=aay c:=by
  rw[hml,hgl,dF (n:=aJ c+(c.sts.length:Int)) (by omega) (by omega),dF (n:=aJ c+(c.sts.length:Int)+(c.sts.length:Int)) (by omega) (by omega),dF (by omega) (by omega)];rfl
 have er:mO c n=relE c:=by rw[en];rfl
 refine dR (.seq [0,1,2,3,4,5,6,7,8,9,10,11,12,13,14,15,16,17,18,19,20,21,22,23,24,25,26,27,28,29,30]) ?_
 refine ei _ (ai (am0) (ei (⟨sG c i,mO c n,aay c⟩) (ei [] (ai (a4 (ai (fun _=>Or.inl rfl) (ai nof (Or.inl rfl)))) (ai ?_ (ai (by exact trivial) (ai (⟨by rw[er];exact alH hc hi,by rw[er];exact hL⟩) ?_)))))))
 ·exact (ai (ai rfl (ai rfl (ai rfl (fun _ _=>rfl)))) (ai (ai rfl (fun _ _=>rfl)) (iE (by simp only[zz,reduceCtorEq];omega))))
 refine ai (ai (fun h=>absurd (show false=true from h) (by decide)) ?_) trivial
 show lH _ (.tup [.agg [iP 0,iP 0,.val (.slice none 0 0)],iP 5])
 try rw[←er]
 exact (ai (ai rfl (ai rfl rfl)) rfl)
theorem abV {l:List Int} {k:Int}:gX l k=true↔k∈l:=by
 unfold gX
 rw[aoL]
 exact ⟨fun ⟨y,h1,h2⟩=>by rw[eq_of_beq h2];exact h1,fun h=>⟨k,h,beq_self_eq_true k⟩⟩
theorem atF (a b:List Int):a.any (gX b)=oz b a:=by
 unfold oz
 rw[auc,aoL,aoL]
 constructor
 ·rintro ⟨k,h1,h2⟩;exact ⟨k,abV.1 h2,abV.2 h1⟩
 ·rintro ⟨k,h1,h2⟩;exact ⟨k,abV.1 h2,abV.2 h1⟩
def trB (l:List Int):Ob:=.cells 101 [.p false (fT l),.any,.any,.any,.any]
theorem asu:av Tryz.prog 211 { A:=List Int×Int,args:=fun a=>[iA a.2,.own 0 0],objs:=fun a=>[trB a.1],pre:=fun a=>a.1.length≤1000000,res:=fun a=>bP (gX a.1 a.2),objs':=fun _=>[],fresh:=true,ro:=1 }:=by
 refine vF Tryz.func211 ?_
 rintro ⟨l,n⟩ hpre
 refine cK (agE) ((l,n)) (by exact (ai (ai rfl (fun _ _=>rfl)) rfl)) (hpre) ?_
 refine eN _ ?_
 exact rfl
def awt (a:List Int×List Int):Prop:=a.1.length≤1000000∧a.2.length≤1000000
def psS (res:List Int×List Int→PV):Spec:={ A:=List Int×List Int,args:=fun a=>[isA a.2,.fn 211 [.own 0 0]],objs:=fun a=>[trB a.1],pre:=awt,res:=res,objs':=fun _=>[],fresh:=true,ro:=1 }
theorem apV:av Tryz.prog 187 (psS fun a=>iP (jG (gX a.1) a.2)):=by
 refine vF Tryz.func187 ?_
 rintro ⟨m,l⟩ hpre
 obtain ⟨hm,hl⟩:=hpre
 have hl:l.length≤1000000:=hl
 refine fR (l.length) (fun k=>[(8,.s (iA k))]) (fun k=>[]) (fun k=>∀y∈l.take k,gX m y=false) (by exact (ai (ai (fun _=>rfl) (iE (by omega))) rfl)) (by exact trivial) ?_ ?_
 ·exact fun y hy=>absurd hy (by simp)
 intro (k:Nat) ⟨hk,hall⟩
 refine ah (p:=k<l.length) (aA (by dsimp only;omega)) (fun h1=>?_) (fun h1=>?_)
 ·refine iX (k) (l.length) ?_
  refine ei _ (ai (asu) (ei ((m,l.getD k 0)) (ei [0] (ai (a4 (ai (fun _=>Or.inl rfl) (ai nof (Or.inl rfl)))) (ai (by exact (ai (iE (by simp only[zz,reduceCtorEq])) (ai rfl rfl))) (ai (by exact (ai rfl (ai (ai rfl (fun _ _=>rfl)) (ai trivial (ai trivial (ai trivial trivial)))))) (ai (hm) ?_)))))))
  refine aC (b:=gX m (l.getD k 0)) rfl (fun h2=>?_) (fun h2=>?_)
  ·refine eN (iP (jG (gX m) l)) ?_
   rw[rY (d:=0) h1 h2 hall]
   exact rfl
  refine nX (k) (ai (ai (fun _=>rfl) (aG (by omega))) rfl) trivial ?_
  intro y hy
  rw[aR 0 h1] at hy
  rcases acT.1 hy with hy | hy
  ·exact hall y hy
  ·simp only[aes] at hy;subst hy;exact h2
 ·obtain rfl:k=l.length:=by omega
  rw[acS] at hall
  refine eN (iP (jG (gX m) l)) ?_
  rw[uy hall]
  exact rfl
theorem arx:av Tryz.prog 130 (psS fun a=>bP (oz a.1 a.2)):=by
 refine vF Tryz.func130 ?_
 rintro ⟨m,l⟩ hpre
 refine ei _ (ai (apV) (ei ((m,l)) (ei [0] (ai (a4 (ai (fun _=>Or.inl rfl) (ai nof (Or.inl rfl)))) (ai (by exact (ai (ai rfl (fun _ _=>rfl)) (ai rfl (ai rfl rfl)))) (ai (by exact (ai rfl (ai (ai rfl (fun _ _=>rfl)) (ai trivial (ai trivial (ai trivial trivial)))))) (ai (hpre) ?_)))))))
 refine eN (bP (oz m l)) ?_
 rw[(atF l m).symm.trans (qU (gX m) l).symm]
 exact rfl
def aw3 (c:aB):Ob:=.cells 106 [iA (aJ c),.any,.any,.any,.p false (abb c.sts),.p false (adz c.trs),akc c,akT c,akA c]
def aqd (b:Bool) (res:aB×Nat→PV):Spec:={ A:=aB×Nat,args:=fun a=>[.own 0 0,iA a.2],objs:=fun a=>[aw3 a.1],pre:=ac2 b,res:=res,objs':=fun _=>[],fresh:=false,ro:=1 }
set_option maxHeartbeats 4000000 in
theorem anQ:av Tryz.prog 156 (aqd true fun a=>.tup [.agg [iP 3,iP 0,.seq (kF a.1 a.2 a.2).length (vQ (kF a.1 a.2 a.2))],iP 0]):=by
 refine vI [3000085] Tryz.func156 ?_
 rintro ⟨c,i⟩ hpre
 have hcp:ac2 true (c,i):=hpre
 obtain ⟨⟨hc,hi⟩,hL⟩:=hpre
 have hc:jP c:=hc
 have hi:i<c.trs.length:=hi
 have hs:=iJ hc.1
 obtain ⟨⟨ha1,ha6⟩,hi16,hs24,ht32⟩:=dA hc
 have hml:=q8 c c.sts.length
 have hgl:=tZ c c.trs.length
 obtain ⟨⟨hfr,hfs⟩,_⟩:=tC hc.1 hi
 have hto:=nG hc.2 hi
 have hfl:(fu c i).length≤1000000:=hto.1
 refine iX (i) (c.trs.length) ?_
 refine fR ((fu c i).length) (fun k=>[(25,.s (iA k)),(7,exU (p8 c i k))]) (fun k=>[]) (fun k=>True) ?_ ?_ ?_ ?_
 ·exact (ai (ai (ai (fun _=>rfl) (iE (by omega))) rfl) rfl)
 ·exact trivial
 ·trivial
 intro (k:Nat) ⟨hk,_⟩
 have hl:=wz hk
 refine ah (p:=k<(fu c i).length) (by exact aA (show ((k:Nat):Int)<(((fu c i).length:Nat):Int)↔_ by omega)) (fun h1=>?_) (fun h1=>?_)
 ·refine iX (k) ((fu c i).length) ?_
  have hx:0≤(fu c i).getD k 0∧(fu c i).getD k 0<(c.sts.length:Int):=yY hfs h1
  have em:=um c (n:=c.sts.length) (k:=((fu c i).getD k 0).toNat) (by omega)
  refine ai (ai hx.1 (by show (fu c i).getD k 0<(((fD c c.sts.length).length:Nat):Int);omega)) ?_
  refine ai rfl ?_
  refine cK (jL) ((fD c c.sts.length).getD ((fu c i).getD k 0).toNat 0) (by exact (iE (by simp only[zz,reduceCtorEq]))) (trivial) ?_
  refine ai (mxL (n:=(p8 c i k).length+1) (by omega) (by decide)) (ai (lt1 rfl) ?_)
  refine nX (k) (ai (ai (ai (fun _=>rfl) (aG (by omega))) rfl) (ai rfl (ai rfl (ai ?_ ?_)))) trivial trivial
  ·rw[uD h1,aaJ];rfl
  ·rw[uD h1,←em];exact gZ rfl (fun _ _=>rfl) (nI _)
 have ek:k=(fu c i).length:=by omega
 refine ei _ (ai (ath) (ei ((c,i)) (ei [0] (ai (a4 (ai (fun _=>Or.inl rfl) (ai nof (Or.inl rfl)))) (ai (by exact (ai (ai rfl rfl) (ai (iE (by simp only[zz,reduceCtorEq])) (ai (iE (by simp only[zz,reduceCtorEq])) (ai rfl (fun _ _=>rfl)))))) (ai (by exact (ai rfl (ai rfl (ai trivial (ai trivial (ai trivial (ai (ai rfl (fun _ _=>rfl)) (ai trivial (ai (ai rfl (fun _ _=>rfl)) (ai (ai rfl (fun _ _=>rfl)) (ai rfl (fun _ _=>rfl)))))))))))) (ai (hcp) ?_)))))))
 refine ai (mxL (n:=(p8 c i k).length+1) (by omega) (by decide)) (ai (lt1 rfl) ?_)
 refine ai (ai (awF _) (ai (abw _) (by show ((i:Nat):Int)≤((c.trs.length:Nat):Int);omega))) ?_
 refine ai (fun _ _=>rfl) ?_
 have e0:kF c i 0=p8 c i k++[dI (relE c) (sG c i)]:=by rw[ek];exact arR _
 refine fR (i) (fun q=>[(63,.s (iA q)),(7,exU (kF c i q))]) (fun q=>[]) (fun q=>True) ?_ ?_ ?_ ?_
 ·refine (ai (ai (ai (fun _=>rfl) (iE (by omega))) rfl) (ai rfl (ai rfl (ai ?_ ?_))))
  ·rw[e0,aaJ];rfl
  ·rw[e0];exact gZ rfl (fun _ _=>rfl) (.of rfl)
 ·exact trivial
 ·trivial
 intro (q:Nat) ⟨hq,_⟩
 have hpl:(kF c i q).length≤1000000+1+q:=by
  have:=acz c i q
  unfold kF akO
  rw[aaJ,aaJ,wz (acM _)]
  show _+1+_≤_
  omega
 refine ah (p:=q<i) (by exact aA (show ((q:Nat):Int)<((i:Nat):Int)↔_ by omega)) (fun h1=>?_) (fun h1=>?_)
 ·refine iX (q) (i) ?_
  have ez:c.trs.getD (0+q) bf=c.trs.getD q bf:=by rw[ahv]
  refine ei _ (ai (arx) (ei ((fu c i,(c.trs.getD (0+q) bf).fr)) (ei [2] (ai (a4 (ai (fun _=>Or.inl rfl) (ai nof (Or.inl rfl)))) (ai (by exact (ai (ai rfl (fun _ _=>rfl)) (ai rfl (ai rfl rfl)))) (ai (by exact (ai rfl (ai (ai rfl (fun _ _=>rfl)) (ai trivial (ai trivial (ai trivial trivial)))))) (ai (⟨hfl,by rw[ez];exact (nG hc.2 (show q<c.trs.length by omega)).1⟩) ?_)))))))
  refine aC (b:=oz (fu c i) (c.trs.getD (0+q) bf).fr) rfl (fun h2=>?_) (fun h2=>?_)
  ·have h3:oz (fu c i) (fu c q)=true:=by rw[ez] at h2;exact h2
   have eg:=aeZ c (n:=c.trs.length) (k:=q) (by omega)
   refine iX (q) ((om c c.trs.length).length) ?_
   refine cK (jL) ((om c c.trs.length).getD q 0) (by exact (iE (by simp only[zz,reduceCtorEq]))) (trivial) ?_
   refine cK (ap7) (pV ((om c c.trs.length).getD q 0)) (by exact (ai rfl (ai rfl rfl))) (trivial) ?_
   refine ai (mxL (n:=(kF c i q).length+1) (by omega) (by decide)) (ai (lt1 rfl) ?_)
   refine nX (q) (ai (ai (ai (fun _=>rfl) (aG (by omega))) rfl) (ai rfl (ai rfl (ai ?_ ?_)))) trivial trivial
   ·rw[ab9 h3,aaJ];rfl
   ·rw[ab9 h3,←eg];exact gZ rfl (fun _ _=>rfl) (alR _)
  ·have h3:oz (fu c i) (fu c q)=false:=by rw[ez] at h2;exact h2
   refine nX (q) (ai (ai (ai (fun _=>rfl) (aG (by omega))) rfl) (ai rfl (ai rfl (ai ?_ ?_)))) trivial trivial
   all_goals rw[alQ h3]
   exact fun _ _=>.of rfl
 have eq:q=i:=by omega
 refine cK (abz) (((kF c i q).length,vQ (kF c i q))) (by exact (ai rfl (fun _ _=>rfl))) (trivial) ?_
 refine ai (ai (fun h=>absurd (show false=true from h) (by decide)) ?_) trivial
 show lH _ (.tup [.agg [iP 3,iP 0,.seq (kF c i i).length (vQ (kF c i i))],iP 0])
 rw[←eq]
 exact (ai (ai rfl (ai rfl (ai rfl (fun _ _=>rfl)))) rfl)
set_option maxHeartbeats 4000000 in
theorem apf:av Tryz.prog 156 (aqd false fun a=>.tup [.agg [iP 0,iP 0,.val (.slice none 0 0)],iP 12]):=by
 refine vI [3000085] Tryz.func156 ?_
 rintro ⟨c,i⟩ hpre
 have hcp:ac2 false (c,i):=hpre
 obtain ⟨⟨hc,hi⟩,hL⟩:=hpre
 have hc:jP c:=hc
 have hi:i<c.trs.length:=hi
 have hs:=iJ hc.1
 obtain ⟨⟨ha1,ha6⟩,hi16,hs24,ht32⟩:=dA hc
 have hml:=q8 c c.sts.length
 have hgl:=tZ c c.trs.length
 obtain ⟨⟨hfr,hfs⟩,_⟩:=tC hc.1 hi
 have hto:=nG hc.2 hi
 have hfl:(fu c i).length≤1000000:=hto.1
 refine iX (i) (c.trs.length) ?_
 refine fR ((fu c i).length) (fun k=>[(25,.s (iA k)),(7,exU (p8 c i k))]) (fun k=>[]) (fun k=>True) ?_ ?_ ?_ ?_
 ·exact (ai (ai (ai (fun _=>rfl) (iE (by omega))) rfl) rfl)
 ·exact trivial
 ·trivial
 intro (k:Nat) ⟨hk,_⟩
 have hl:=wz hk
 refine ah (p:=k<(fu c i).length) (by exact aA (show ((k:Nat):Int)<(((fu c i).length:Nat):Int)↔_ by omega)) (fun h1=>?_) (fun h1=>?_)
 ·refine iX (k) ((fu c i).length) ?_
  have hx:0≤(fu c i).getD k 0∧(fu c i).getD k 0<(c.sts.length:Int):=yY hfs h1
  have em:=um c (n:=c.sts.length) (k:=((fu c i).getD k 0).toNat) (by omega)
  refine ai (ai hx.1 (by show (fu c i).getD k 0<(((fD c c.sts.length).length:Nat):Int);omega)) ?_
  refine ai rfl ?_
  refine cK (jL) ((fD c c.sts.length).getD ((fu c i).getD k 0).toNat 0) (by exact (iE (by simp only[zz,reduceCtorEq]))) (trivial) ?_
  refine ai (mxL (n:=(p8 c i k).length+1) (by omega) (by decide)) (ai (lt1 rfl) ?_)
  refine nX (k) (ai (ai (ai (fun _=>rfl) (aG (by omega))) rfl) (ai rfl (ai rfl (ai ?_ ?_)))) trivial trivial
  ·rw[uD h1,aaJ];rfl
  ·rw[uD h1,←em];exact gZ rfl (fun _ _=>rfl) (nI _)
 have ek:k=(fu c i).length:=by omega
 refine ei _ (ai (aq5) (ei ((c,i)) (ei [0] (ai (a4 (ai (fun _=>Or.inl rfl) (ai nof (Or.inl rfl)))) (ai (by exact (ai (ai rfl rfl) (ai (iE (by simp only[zz,reduceCtorEq])) (ai (iE (by simp only[zz,reduceCtorEq])) (ai rfl (fun _ _=>rfl)))))) (ai (by exact (ai rfl (ai rfl (ai trivial (ai trivial (ai trivial (ai (ai rfl (fun _ _=>rfl)) (ai trivial (ai (ai rfl (fun _ _=>rfl)) (ai (ai rfl (fun _ _=>rfl)) (ai rfl (fun _ _=>rfl)))))))))))) (ai (hcp) ?_)))))))
 refine ai (ai (fun h=>absurd (show false=true from h) (by decide)) ?_) trivial
 exact (ai (ai rfl (ai rfl rfl)) rfl)
theorem aep:av Tryz.prog 156 (aqd true fun a=>.tup [qM (nu a.1 a.2),iP 0]):=
 gW anQ fun a _=>wC (aH (ab8 (x:=nu a.1 a.2) rfl) (oC (.refl _)))
end Go.Sx.Pe
namespace Go.Sx.Pe
open Go Go.Proofs Go.Sx.Pn Go.RowKit Go.Shelf
def vN (x:Nat):Bool:=decide (122<x)||!eD (UInt8.ofNat x)
theorem atV {n b0 b1 b2 b3:Nat} (h:128≤b0):128≤(Lib.decodeN n b0 b1 b2 b3).1:=by
 unfold Lib.decodeN
 repeat' split
 all_goals (simp only;omega)
theorem auI {n b0 b1 b2 b3:Nat} (h:b0<128):Lib.decodeN n b0 b1 b2 b3=(b0,1):=by
 unfold Lib.decodeN
 rw[if_pos h]
theorem aie (s:List UInt8) {k:Nat} (hk:k<s.length):((strOf s).get! k)=s.getD k 0:=by
 unfold strOf ByteArray.get!
 rw[aaG]
 simp[hk]
theorem asx {b:UInt8} (h:b.toNat<128):vN b.toNat=!eD b:=by
 unfold vN
 rw[UInt8.ofNat_toNat]
 by_cases h1:122<b.toNat
 ·rw[decide_eq_true h1,ajm]
  symm
  rw[ao0]
  unfold eD eU jv vw
  simp only[avz,axQ,decide_eq_false_iff_not]
  omega
 ·rw[decide_eq_false h1,ar5]
theorem auM {b:UInt8} (h:128≤b.toNat):eD b=false:=by
 unfold eD eU jv vw
 simp only[avz,axQ,decide_eq_false_iff_not]
 omega
theorem aj6 (s:List UInt8):∀f pos,s.length≤pos+f→decide (0≤Lib.idxFuncFrom vN true (strOf s) f pos)=!(s.drop pos).all eD
 | 0,pos,h=>by rw[axL (by omega)];rfl
 | f+1,pos,h=>by
  unfold Lib.idxFuncFrom
  rw[cO]
  by_cases hp:pos<s.length
  ·rw[if_pos hp,Lib.decode_at,aie s hp]
   have hd:s.drop pos=s.getD pos 0 :: s.drop (pos+1):=by
    rw[axv hp,aaG,aaX hp];rfl
   rw[hd,List.all_cons]
   by_cases hb:(s.getD pos 0).toNat<128
   ·rw[auI hb]
    show decide (0≤(if vN (s.getD pos 0).toNat=true then (pos:Int) else Lib.idxFuncFrom vN true (strOf s) f (pos+1)))=_
    rw[asx hb]
    cases eD (s.getD pos 0) with
    | false=>rw[show (!false)=true from rfl,if_pos rfl];simp
    | true=>rw[show (!true)=false from rfl,if_neg (by decide),aer];exact aj6 s f (pos+1) (by omega)
   ·have h2:vN (Lib.decodeN ((strOf s).size-pos) (s.getD pos 0).toNat ((strOf s).get! (pos+1)).toNat ((strOf s).get! (pos+2)).toNat ((strOf s).get! (pos+3)).toNat).1=true:=by
     have:=atV (n:=(strOf s).size-pos) (b1:=((strOf s).get! (pos+1)).toNat) (b2:=((strOf s).get! (pos+2)).toNat) (b3:=((strOf s).get! (pos+3)).toNat) (b0:=(s.getD pos 0).toNat) (by omega)
     unfold vN
     rw[decide_eq_true (by omega),ajm]
    rw[if_pos h2,auM (by omega)]
    simp
  ·rw[if_neg hp,axL (by omega)];rfl
theorem as5 (s:List UInt8):decide (0≤Lib.idxFunc vN true (strOf s))=!s.all eD:=by
 have:=aj6 s (strOf s).size 0 (by rw[cO];omega)
 rw[List.drop_zero] at this
 exact this
theorem atC {n:Nat} (hn:n≤122):eD (UInt8.ofNat n)=decide ((48≤n∧n≤57)∨(97≤n∧n≤122)∨(65≤n∧n≤90)∨n=95):=by
 have e:(UInt8.ofNat n).toNat=n:=by simp;omega
 unfold eD eU jv vw
 rw[auc,decide_eq_true_iff]
 simp only[arQ,abx,decide_eq_true_eq,or_assoc,e]
theorem apM (n:Nat) (b:Bool) (hn:n≤122) (hb:eD (UInt8.ofNat n)=b) (w:World):Calls Tryz.prog 186 #[.int .u8 (n:Int)] w fun e w'=>e=.returned (.bool b)∧w'=w:=by
 have key:=Lib.hid (hb.symm.trans (atC hn))
 go_enter Tryz.func186,Tryz.ntmps186
 go_wp2_with (fail)
 all_goals go_ret
 all_goals refine ⟨?_,rfl⟩
 all_goals refine congrArg (fun b=>Ending.returned (Value.bool b)) ?_
 all_goals rw[key.out]
 all_goals (first | (rw[eq_comm,decide_eq_true_iff];omega) | (rw[eq_comm,decide_eq_false_iff_not];omega) | (rw[auc,decide_eq_true_iff];simp;omega))
theorem amI (x:Nat) (w:World):Calls Tryz.prog 185 #[.int .i32 (x:Int)] w fun e w'=>e=.returned (.bool (vN x))∧w'=w:=by
 by_cases h:x≤122
 ·have c:=apM x _ h rfl w
  obtain ⟨b,hb⟩:∃b,eD (UInt8.ofNat x)=b:=⟨_,rfl⟩
  rw[hb] at c
  have hr:vN x=!b:=by unfold vN;rw[decide_eq_false (by omega),hb];rfl
  rw[hr]
  have hw:IntKind.u8.wrap (x:Int)=(x:Int):=by rw[show IntKind.u8.wrap (x:Int)=(x:Int) % 256 by rfl];omega
  replace hw:=Lib.hid hw
  clear hr
  go_enter Tryz.func185,Tryz.ntmps185
  go_wp2_with (go_at_call 186;go_loud (refine c.mono ?_);rintro e w' ⟨rfl,hw'⟩;obtain rfl:=hw'.symm)
  all_goals go_ret
  all_goals exact ⟨by show Ending.returned (Value.bool (decide (122<(x:Int))||!b))=_;rw[decide_eq_false (by omega),ar5],rfl⟩
 ·have hr:vN x=true:=by unfold vN;rw[decide_eq_true (by omega)];rfl
  rw[hr]
  clear hr
  go_enter Tryz.func185,Tryz.ntmps185
  go_wp2_with (fail)
  all_goals go_ret
  all_goals exact ⟨rfl,rfl⟩
theorem ate:av Tryz.prog 184 (bC (fun s:List UInt8=>[sA s,.fn 185 []]) (fun _=>True) (fun s=>bP (!s.all eD))):=by
 refine ⟨⟨_,Tryz.func184,rfl,rfl⟩,fun s hpre E vs w _ hh hA=>?_⟩
 obtain ⟨hsz,hA⟩:=hA
 have hsz:vs.size=2:=hsz
 have h0:vs[0]'(by omega)=.string (strOf s):=by
  have:=hA 0 _ (sA s) (acP (by omega)) rfl
  generalize vs[0]'(by omega)=v at this
  cases this with
  | p _ _ _ hp=>cases hp;rfl
 have h1:vs[1]'(by omega)=.func (.func 185) #[] #[]:=by
  have:=hA 1 _ (.fn 185 []) (acP (by omega)) rfl
  generalize vs[1]'(by omega)=v at this
  cases this with
  | fn f us l hl he=>
   have hl:us.size=0:=hl
   rw[Array.eq_empty_of_size_eq_zero hl]
 have hvs:vs=#[.string (strOf s),.func (.func 185) #[] #[]]:=by
  apply axq
  intro k
  match k with
  | 0=>rw[acP (by omega),h0];rfl
  | 1=>rw[acP (by omega),h1];rfl
  | k+2=>rw[axK (by omega)];simp
 rw[hvs]
 refine (Tryz.strings_ContainsFunc 185 #[] (enters_of Tryz.func185 (by kernel_rfl) rfl) vN (strOf s) w fun W x _=>(amI x W).mono fun e w' ⟨h1,h2⟩=>⟨h1,0,by subst h2;rfl⟩).mono fun e w' ⟨he,hw⟩=>⟨.bool (!s.all eD),E,?_,.val _,hh.below hw⟩
 exact he.trans (congrArg (fun b=>Ending.returned (Value.bool b)) (as5 s))
end Go.Sx.Pe
namespace Go.Sx.Pe
open Go Go.Proofs Go.Sx.Pn
def xP (c:bI) (i:Nat) (v:Int):Bool:=decide ((i:Int)≤v-bW c)&&((c.sgs.getD (v-bW c).toNat ak).kd==0)
mutual
def qF (c:bI) (i:Nat):Ex→Bool
 | .node o v l=>(if o=1 then xP c i v else false)||aiG c i l
def aiG (c:bI) (i:Nat):List Ex→Bool
 | []=>false
 | x :: l=>qF c i x||aiG c i l
end
theorem alC (c:bI) (i:Nat) (x:Ex):qF c i x=((if x.op=1 then xP c i x.idx else false)||x.args.any (qF c i)):=by
 have key:∀l:List Ex,aiG c i l=l.any (qF c i):=by
  intro l
  induction l with
  | nil=>rfl
  | cons x l ih=>rw[aiG,ih];rfl
 cases x with
 | node o v l=>rw[qF,key]
def akk (c:bI):Ob:=.cells 182 [iA c.act,.p false (xV c.ins),.p false (ap6 c.sgs),.p false (fT c.pl),.p false (fT c.mi),.any,.any,.any,.any]
def avr (a:bI×Nat×Int×Bool):Prop:=lu a.1∧a.2.1<a.1.sgs.length∧0≤a.2.2.1∧a.2.2.1<dG a.1
theorem avD:av Tryz.prog 182 { A:=bI×Nat×Int×Bool,args:=fun a=>[iA a.2.2.1,.own 0 0,.own 3 0,.own 2 0],objs:=fun a=>[.cells 178 [.own 1 0],akk a.1,.cells 3 [iA a.2.1],.cells 4 [bA a.2.2.2]],pre:=avr,res:=fun _=>.tup [],objs':=fun a=>[.cells 4 [bA (a.2.2.2||xP a.1 a.2.1 a.2.2.1)]],fresh:=true,ro:=3 }:=by
 refine vF Tryz.func182 ?_
 rintro ⟨c,i,v,b⟩ hpre
 obtain ⟨hs0,hi,hv0,hv⟩:=hpre
 have hs0:lu c:=hs0
 have h1:0≤c.act:=hs0.1.1
 have h2:c.act≤1000:=hs0.1.2
 have h3:c.ins.length≤1000000:=hs0.2.1
 have h4:c.sgs.length≤1000000:=hs0.2.2
 have hv0:0≤v:=hv0
 have hv:v<2*c.act+c.ins.length+c.sgs.length:=hv
 have hN:bW c=2*c.act+c.ins.length:=rfl
 have hw:IntKind.i64.wrap (v-bW c)=v-bW c:=dF (by omega) (by omega)
 refine cK (nJ) (c) (by exact (ai rfl (ai (ai rfl (fun _ _=>rfl)) (ai (ai rfl (fun _ _=>rfl)) (ai (ai rfl (fun _ _=>rfl)) (ai rfl (fun _ _=>rfl))))))) (hs0) ?_
 refine aC (b:=b) rfl (fun g1=>?_) (fun g1=>?_)
 ·refine ai (ai (fun _=>?_) ?_) ?_
  ·exact trivial
  ·exact trivial
  ·refine (ai rfl (ai nof ?_))
   show _=(b||xP c i v)
   rw[g1];rfl
 refine ah (p:=(i:Int)≤v-bW c) (by exact fH (by rw[hw])) (fun g2=>?_) (fun g2=>?_)
 ·refine ai (ai (by rw[hw];omega) (by rw[hw];show v-bW c<(c.sgs.length:Int);omega)) ?_
  refine ai rfl ?_
  refine ai (ai (fun _=>?_) ?_) ?_
  ·exact trivial
  ·exact trivial
  ·refine (ai rfl (ai nof ?_))
   show ((c.sgs.getD (IntKind.i64.wrap (v-bW c)).toNat ak).kd==0)=(b||xP c i v)
   rw[g1,hw];unfold xP;rw[decide_eq_true g2];rfl
 ·refine ai (ai (fun _=>?_) ?_) ?_
  ·exact trivial
  ·exact trivial
  ·refine (ai rfl (ai nof ?_))
   show false=(b||xP c i v)
   rw[g1];unfold xP;rw[decide_eq_false g2];rfl
abbrev amO := bI × Nat × Ex × Bool
def ajS (a:amO):Prop:=lu a.1∧a.2.1<a.1.sgs.length∧kD (dG a.1) a.2.2.1∧a.2.2.1.size≤1000000
def av9 (n:Nat):Spec:={ A:=amO,args:=fun a=>[jK a.2.2.1,.own 0 0,.own 1 0],objs:=fun a=>[.cells 225 [.fn 182 [.own 2 0,.own 5 0,.own 4 0]],.cells 271 [.fn 230 [.own 0 0,.own 1 0]],.cells 178 [.own 3 0],akk a.1,.cells 3 [iA a.2.1],.cells 4 [bA a.2.2.2]],pre:=fun a=>ajS a∧a.2.2.1.size≤n,res:=fun _=>.tup [],objs':=fun a=>[.cells 4 [bA (a.2.2.2||qF a.1 a.2.1 a.2.2.1)]],fresh:=true,ro:=5 }
def orB (a b:Bool):Bool:=a||b
def xO (c:bI) (i:Nat) (b:Bool) (l:List Ex):Bool:=b||l.any (qF c i)
theorem arZ:∀n,av Tryz.prog 230 (av9 n)
 | 0=>by
  refine vF Tryz.func230 ?_
  rintro ⟨c,i,x,b⟩ hpre
  have:=size_pos x
  exact absurd hpre.2 (by show ¬x.size≤0;omega)
 | n+1=>by
  have ih:=arZ n
  refine vF Tryz.func230 ?_
  rintro ⟨c,i,x,b⟩ hpre
  obtain ⟨⟨hs0,hi,hg,hs⟩,hn⟩:=hpre
  have hs0:lu c:=hs0
  have hg:kD (dG c) x:=hg
  have hs:x.size≤1000000:=hs
  have hn:x.size≤n+1:=hn
  have hsz:=x.size_eq
  have hal:=pK x.args
  obtain ⟨hn0,hga⟩:=(rz _ _).1 hg
  obtain ⟨_,_,hx1,hx2⟩:=vB hn0
  have hE:=alC c i x
  refine ah (p:=x.op=1) (sW (by dsimp only;omega)) (fun h1=>?_) (fun h1=>?_)
  ·have hx3:x.idx<dG c:=by
    rw[h1] at hx2
    unfold vJ at hx2
    rw[if_neg (by decide),if_pos rfl] at hx2;omega
   refine ei _ (ai (avD) (ei ((c,i,x.idx,b)) (ei [2,3,4,5] (ai (ai rfl (ai rfl (ai rfl (ai rfl (ai nof (ai nof (Or.inl rfl))))))) (ai (by exact (ai rfl (ai (ai rfl rfl) (ai (ai rfl rfl) (ai rfl rfl))))) (ai (by exact (ai (ai rfl (ai rfl rfl)) (ai (ai rfl (ai rfl (ai (ai rfl (fun _ _=>rfl)) (ai (ai rfl (fun _ _=>rfl)) (ai (ai rfl (fun _ _=>rfl)) (ai (ai rfl (fun _ _=>rfl)) (ai trivial (ai trivial (ai trivial trivial))))))))) (ai (ai rfl rfl) (ai rfl rfl))))) (ai (⟨hs0,hi,hx1,hx3⟩) ?_)))))))
   refine fR (x.args.length) (fun k=>[(16,.s (iA k))]) (fun k=>[⟨5,4,[.s (bA (xO c i (orB b (xP c i x.idx)) (x.args.take k)))]⟩]) (fun k=>True) ?_ ?_ ?_ ?_
   ·exact (ai (ai (fun _=>rfl) (iE (by omega))) rfl)
   ·refine (ai (ai (ai nof ?_) rfl) trivial)
    (show (_:Bool)=_;unfold xO orB;simp)
   ·trivial
   intro (k:Nat) ⟨hk,_⟩
   refine ah (p:=k<x.args.length) (aA (by dsimp only;omega)) (fun h2=>?_) (fun h2=>?_)
   ·refine iX (k) (x.args.length) ?_
    have hm:=abu (bD bK h2)
    have hms:=jy hm
    refine ei _ (ai (ih) (ei ((c,i,x.args.getD k bK,xO c i (orB b (xP c i x.idx)) (x.args.take k))) (ei [0,1,2,3,4,5] (ai (ai rfl (ai rfl (ai rfl (ai rfl (ai nof (ai nof (Or.inl rfl))))))) (ai (by exact (ai (ai (iE (by simp only[zz,reduceCtorEq])) (ai (iE (by simp only[zz,reduceCtorEq])) (ai rfl (xX _)))) (ai (ai rfl rfl) (ai rfl rfl)))) (ai (by exact (ai (ai rfl (ai rfl (ai (ai rfl rfl) (ai (ai rfl rfl) (ai rfl rfl))))) (ai (ai rfl (ai rfl (ai (ai rfl rfl) (ai rfl rfl)))) (ai (ai rfl (ai rfl rfl)) (ai (ai rfl (ai rfl (ai (ai rfl (fun _ _=>rfl)) (ai (ai rfl (fun _ _=>rfl)) (ai (ai rfl (fun _ _=>rfl)) (ai (ai rfl (fun _ _=>rfl)) (ai trivial (ai trivial (ai trivial trivial))))))))) (ai (ai rfl rfl) (ai rfl rfl))))))) (ai (⟨⟨hs0,hi,hga _ hm,by show (x.args.getD k bK).size≤1000000;omega⟩,by show (x.args.getD k bK).size≤n;omega⟩) ?_)))))))
    refine nX (k) (ai (ai (fun _=>rfl) (aG (by omega))) rfl) (ai (ai (ai nof ?_) rfl) trivial) trivial
    show (_:Bool)=_
    unfold xO
    rw[aR bK h2,axW,axF,axX,axM,Bool.or_assoc]
   ·obtain rfl:k=x.args.length:=by omega
    refine ai (ai (fun _=>?_) ?_) ?_
    ·exact trivial
    ·exact trivial
    ·refine (ai rfl (ai nof ?_))
     show xO c i (orB b (xP c i x.idx)) (x.args.take x.args.length)=(b||qF c i x)
     unfold xO
     rw[acS,hE]
     rw[if_pos h1];unfold orB;rw[Bool.or_assoc]
  ·refine fR (x.args.length) (fun k=>[(16,.s (iA k))]) (fun k=>[⟨5,4,[.s (bA (xO c i b (x.args.take k)))]⟩]) (fun k=>True) ?_ ?_ ?_ ?_
   ·exact (ai (ai (fun _=>rfl) (iE (by omega))) rfl)
   ·refine (ai (ai (ai nof ?_) rfl) trivial)
    (show (_:Bool)=_;unfold xO;simp)
   ·trivial
   intro (k:Nat) ⟨hk,_⟩
   refine ah (p:=k<x.args.length) (aA (by dsimp only;omega)) (fun h2=>?_) (fun h2=>?_)
   ·refine iX (k) (x.args.length) ?_
    have hm:=abu (bD bK h2)
    have hms:=jy hm
    refine ei _ (ai (ih) (ei ((c,i,x.args.getD k bK,xO c i b (x.args.take k))) (ei [0,1,2,3,4,5] (ai (ai rfl (ai rfl (ai rfl (ai rfl (ai nof (ai nof (Or.inl rfl))))))) (ai (by exact (ai (ai (iE (by simp only[zz,reduceCtorEq])) (ai (iE (by simp only[zz,reduceCtorEq])) (ai rfl (xX _)))) (ai (ai rfl rfl) (ai rfl rfl)))) (ai (by exact (ai (ai rfl (ai rfl (ai (ai rfl rfl) (ai (ai rfl rfl) (ai rfl rfl))))) (ai (ai rfl (ai rfl (ai (ai rfl rfl) (ai rfl rfl)))) (ai (ai rfl (ai rfl rfl)) (ai (ai rfl (ai rfl (ai (ai rfl (fun _ _=>rfl)) (ai (ai rfl (fun _ _=>rfl)) (ai (ai rfl (fun _ _=>rfl)) (ai (ai rfl (fun _ _=>rfl)) (ai trivial (ai trivial (ai trivial trivial))))))))) (ai (ai rfl rfl) (ai rfl rfl))))))) (ai (⟨⟨hs0,hi,hga _ hm,by show (x.args.getD k bK).size≤1000000;omega⟩,by show (x.args.getD k bK).size≤n;omega⟩) ?_)))))))
    refine nX (k) (ai (ai (fun _=>rfl) (aG (by omega))) rfl) (ai (ai (ai nof ?_) rfl) trivial) trivial
    show (_:Bool)=_
    unfold xO
    rw[aR bK h2,axW,axF,axX,axM,Bool.or_assoc]
   ·obtain rfl:k=x.args.length:=by omega
    refine ai (ai (fun _=>?_) ?_) ?_
    ·exact trivial
    ·exact trivial
    ·refine (ai rfl (ai nof ?_))
     show xO c i b (x.args.take x.args.length)=(b||qF c i x)
     unfold xO
     rw[acS,hE]
     rw[if_neg h1,ar5]
def aw0:Spec:={ A:=amO,args:=fun a=>[jK a.2.2.1,.own 0 0,.own 1 0],objs:=fun a=>[.cells 225 [.fn 182 [.own 2 0,.own 5 0,.own 4 0]],.cells 271 [.fn 230 [.own 0 0,.own 1 0]],.cells 178 [.own 3 0],akk a.1,.cells 3 [iA a.2.1],.cells 4 [bA a.2.2.2]],pre:=ajS,res:=fun _=>.tup [],objs':=fun a=>[.cells 4 [bA (a.2.2.2||qF a.1 a.2.1 a.2.2.1)]],fresh:=true,ro:=5 }
theorem avN:av Tryz.prog 230 aw0:=nL (fun a=>a.2.2.1.size) arZ
theorem alS:av Tryz.prog 181 { A:=amO,args:=fun a=>[jK a.2.2.1,.fn 182 [.own 0 0,.own 3 0,.own 2 0]],objs:=fun a=>[.cells 178 [.own 1 0],akk a.1,.cells 3 [iA a.2.1],.cells 4 [bA a.2.2.2]],pre:=ajS,res:=fun _=>.tup [],objs':=fun a=>[.cells 4 [bA (a.2.2.2||qF a.1 a.2.1 a.2.2.1)]],fresh:=true,ro:=3 }:=by
 refine vF Tryz.func181 ?_
 rintro ⟨c,i,x,b⟩ hpre
 refine ei _ (ai (avN) (ei ((c,i,x,b)) (ei [5,6,0,1,2,3] (ai (ai rfl (ai rfl (ai rfl (ai rfl (ai nof (ai nof (Or.inl rfl))))))) (ai (by exact (ai (ai rfl (ai rfl (ai rfl (fun _ _=>rfl)))) (ai (ai rfl rfl) (ai rfl rfl)))) (ai (by exact (ai (ai rfl (ai rfl (ai (ai rfl rfl) (ai (ai rfl rfl) (ai rfl rfl))))) (ai (ai rfl (ai rfl (ai (ai rfl rfl) (ai rfl rfl)))) (ai (ai rfl (ai rfl rfl)) (ai (ai rfl (ai rfl (ai (ai rfl (fun _ _=>rfl)) (ai (ai rfl (fun _ _=>rfl)) (ai (ai rfl (fun _ _=>rfl)) (ai (ai rfl (fun _ _=>rfl)) (ai trivial (ai trivial (ai trivial trivial))))))))) (ai (ai rfl rfl) (ai rfl rfl))))))) (ai (hpre) ?_)))))))
 refine ai (ai (fun _=>?_) ?_) ?_
 ·exact trivial
 ·exact trivial
 ·exact (ai rfl (ai nof rfl))
def lN (c:bI) (i:Nat):Int:=if qF c i (c.sgs.getD i ak).on then 9 else if (bM (c.sgs.getD i ak).off=false∨(c.sgs.getD i ak).ini=true)∨¬(c.sgs.getD i ak).dl=0 then 3 else 0
def avs (a:bI×Nat):Prop:=acE a.1∧a.2<a.1.sgs.length∧kD (dG a.1) (a.1.sgs.getD a.2 ak).on
def ckS (pre:bI×Nat→Prop) (res:bI×Nat→Int):Spec:={ A:=bI×Nat,args:=fun a=>[.own 0 0,iA a.2],objs:=fun a=>[akk a.1],pre:=pre,res:=fun a=>iP (res a),objs':=fun _=>[],fresh:=true,ro:=1 }
theorem asf:av Tryz.prog 124 (ckS avs fun a=>lN a.1 a.2):=by
 refine vF Tryz.func124 ?_
 rintro ⟨c,i⟩ hpre
 obtain ⟨hgd,hi,hg⟩:=hpre
 have hgd:acE c:=hgd
 have hi:i<c.sgs.length:=hi
 have hs0:lu c:=hgd.1.1
 have hos:=(hgd.2.1.1 _ (abu (bD ak hi))).1
 refine dR (.one 0 (.one 1 (.one 2 (.one 3 (.one 4 (.one 5 (.one 6 (.one 7 (.alt 8 (.one 9 (.one 10 (.one 11 .done))) (.alt 9 (.one 8 (.one 10 (.one 11 .done))) .stop)))))))))) ?_
 refine iX (i) (c.sgs.length) ?_
 refine ai ?_ (ai ?_ trivial)
 ·refine ei _ (ai (alS) (ei ((c,i,(c.sgs.getD i ak).on,false)) (ei [1,0,2,4] (ai (ai rfl (ai rfl (ai rfl (ai rfl (ai nof (ai nof (Or.inl rfl))))))) (ai (by exact (ai (ai (iE (by simp only[zz,reduceCtorEq])) (ai (iE (by simp only[zz,reduceCtorEq])) (ai rfl (fun _ _=>rfl)))) (ai rfl (ai (ai rfl rfl) (ai (ai rfl rfl) (ai rfl rfl)))))) (ai (by exact (ai (ai rfl (ai rfl rfl)) (ai (ai rfl (ai rfl (ai (ai rfl (fun _ _=>rfl)) (ai (ai rfl (fun _ _=>rfl)) (ai (ai rfl (fun _ _=>rfl)) (ai (ai rfl (fun _ _=>rfl)) (ai trivial (ai trivial (ai trivial trivial))))))))) (ai (ai rfl rfl) (ai rfl rfl))))) (ai (⟨hs0,hi,hg,hos⟩) ?_)))))))
  refine aC (b:=qF c i (c.sgs.getD i ak).on) rfl (fun h1=>?_) (fun h1=>?_)
  ·refine eN (iP (lN c i)) ?_
   rw[lN,if_pos h1]
   exact rfl
  have n1:¬qF c i (c.sgs.getD i ak).on=true:=by rw[h1];decide
  refine cK (aff) ((c.sgs.getD i ak).off) (by exact (ai (iE (by simp only[zz,reduceCtorEq])) (ai (iE (by simp only[zz,reduceCtorEq])) (ai rfl (fun _ _=>rfl))))) (trivial) ?_
  refine aC (b:=!bM (c.sgs.getD i ak).off) rfl (fun h3=>?_) (fun h3=>?_)
  ·have h3:bM (c.sgs.getD i ak).off=false:=by simpa using h3
   refine eN (iP (lN c i)) ?_
   rw[lN,if_neg n1,if_pos (.inl (.inl h3))]
   exact rfl
  have h3:¬bM (c.sgs.getD i ak).off=false:=by simpa using h3
  refine aC (b:=(c.sgs.getD i ak).ini) rfl (fun h5=>?_) (fun h5=>?_)
  ·refine eN (iP (lN c i)) ?_
   rw[lN,if_neg n1,if_pos (.inl (.inr h5))]
   exact rfl
  refine aW (p:=(c.sgs.getD i ak).dl=0) (by simp only[zz,reduceCtorEq]) (fun h6=>?_) (fun h6=>?_)
  ·refine eN (iP (lN c i)) ?_
   rw[lN,if_neg n1,if_pos (.inr h6)]
   exact rfl
  ·refine eN (iP (lN c i)) ?_
   rw[lN,if_neg n1,if_neg (fun h=>h.elim (fun h=>h.elim h3 (fun e=>by rw[h5] at e;cases e)) (fun h=>h h6))]
   exact rfl
 ·refine ei _ (ai (alS) (ei ((c,i,(c.sgs.getD i ak).on,false)) (ei [1,0,2,3] (ai (ai rfl (ai rfl (ai rfl (ai rfl (ai nof (ai nof (Or.inl rfl))))))) (ai (by exact (ai (ai (iE (by simp only[zz,reduceCtorEq])) (ai (iE (by simp only[zz,reduceCtorEq])) (ai rfl (fun _ _=>rfl)))) (ai rfl (ai (ai rfl rfl) (ai (ai rfl rfl) (ai rfl rfl)))))) (ai (by exact (ai (ai rfl (ai rfl rfl)) (ai (ai rfl (ai rfl (ai (ai rfl (fun _ _=>rfl)) (ai (ai rfl (fun _ _=>rfl)) (ai (ai rfl (fun _ _=>rfl)) (ai (ai rfl (fun _ _=>rfl)) (ai trivial (ai trivial (ai trivial trivial))))))))) (ai (ai rfl rfl) (ai rfl rfl))))) (ai (⟨hs0,hi,hg,hos⟩) ?_)))))))
  refine aC (b:=qF c i (c.sgs.getD i ak).on) rfl (fun h1=>?_) (fun h1=>?_)
  ·refine eN (iP (lN c i)) ?_
   rw[lN,if_pos h1]
   exact rfl
  have n1:¬qF c i (c.sgs.getD i ak).on=true:=by rw[h1];decide
  refine cK (aff) ((c.sgs.getD i ak).off) (by exact (ai (iE (by simp only[zz,reduceCtorEq])) (ai (iE (by simp only[zz,reduceCtorEq])) (ai rfl (fun _ _=>rfl))))) (trivial) ?_
  refine aC (b:=!bM (c.sgs.getD i ak).off) rfl (fun h3=>?_) (fun h3=>?_)
  ·have h3:bM (c.sgs.getD i ak).off=false:=by simpa using h3
   refine eN (iP (lN c i)) ?_
   rw[lN,if_neg n1,if_pos (.inl (.inl h3))]
   exact rfl
  have h3:¬bM (c.sgs.getD i ak).off=false:=by simpa using h3
  refine aC (b:=(c.sgs.getD i ak).ini) rfl (fun h5=>?_) (fun h5=>?_)
  ·refine eN (iP (lN c i)) ?_
   rw[lN,if_neg n1,if_pos (.inl (.inr h5))]
   exact rfl
  refine aW (p:=(c.sgs.getD i ak).dl=0) (by simp only[zz,reduceCtorEq]) (fun h6=>?_) (fun h6=>?_)
  ·refine eN (iP (lN c i)) ?_
   rw[lN,if_neg n1,if_pos (.inr h6)]
   exact rfl
  ·refine eN (iP (lN c i)) ?_
   rw[lN,if_neg n1,if_neg (fun h=>h.elim (fun h=>h.elim h3 (fun e=>by rw[h5] at e;cases e)) (fun h=>h h6))]
   exact rfl
def vU (c:bI) (i:Nat):Int:=if ¬bg (c.sgs.getD i ak).off (dG c)=0 then bg (c.sgs.getD i ak).off (dG c) else if ¬(c.sgs.getD i ak).dl=0 then 3 else 0
theorem aoY:av Tryz.prog 125 (ckS (fun a=>acE a.1∧a.2<a.1.sgs.length) fun a=>vU a.1 a.2):=by
 refine vF Tryz.func125 ?_
 rintro ⟨c,i⟩ hpre
 obtain ⟨hgd,hi⟩:=hpre
 have hgd:acE c:=hgd
 have hi:i<c.sgs.length:=hi
 have hs0:lu c:=hgd.1.1
 have hos:=(hgd.2.1.1 _ (abu (bD ak hi))).2
 refine dR (.seq [0,1,2,3,4,5,6,7,8,9,10,11,12,13,14,15]) ?_
 refine iX (i) (c.sgs.length) ?_
 refine cK (aaE) (c) (by exact (ai rfl (ai (ai rfl (fun _ _=>rfl)) (ai (ai rfl (fun _ _=>rfl)) (ai (ai rfl (fun _ _=>rfl)) (ai rfl (fun _ _=>rfl))))))) (hs0) ?_
 refine cK (qX) (((c.sgs.getD i ak).off,dG c)) (by exact (ai (ai (iE (by simp only[zz,reduceCtorEq])) (ai (iE (by simp only[zz,reduceCtorEq])) (ai rfl (fun _ _=>rfl)))) rfl)) (hos) ?_
 refine aW (p:=bg (c.sgs.getD i ak).off (dG c)=0) (bn (by dsimp only;omega)) (fun h1=>?_) (fun h1=>?_)
 ·refine eN (iP (vU c i)) ?_
  rw[vU,if_pos h1]
  exact rfl
 refine iX (i) (c.sgs.length) ?_
 refine aW (p:=(c.sgs.getD i ak).dl=0) (by simp only[zz,reduceCtorEq]) (fun h2=>?_) (fun h2=>?_)
 ·refine eN (iP (vU c i)) ?_
  rw[vU,if_neg (fun h=>h h1),if_pos h2]
  exact rfl
 ·refine eN (iP (vU c i)) ?_
  rw[vU,if_neg (fun h=>h h1),if_neg (fun h=>h h2)]
  exact rfl
def uf (c:bI) (i:Nat):Int:=if (c.sgs.getD i ak).dl<1∨1000000<(c.sgs.getD i ak).dl then 2 else if bM (c.sgs.getD i ak).off=false∨(c.sgs.getD i ak).ini=true then 3 else 0
theorem arE:av Tryz.prog 126 (ckS (fun a=>a.2<a.1.sgs.length∧a.1.sgs.length≤1000000) fun a=>uf a.1 a.2):=by
 refine vF Tryz.func126 ?_
 rintro ⟨c,i⟩ hpre
 obtain ⟨hi,h4⟩:=hpre
 have hi:i<c.sgs.length:=hi
 have h4:c.sgs.length≤1000000:=h4
 refine iX (i) (c.sgs.length) ?_
 refine ah (p:=(c.sgs.getD i ak).dl<1) (aA Iff.rfl) (fun h1=>?_) (fun h1=>?_)
 ·refine eN (iP (uf c i)) ?_
  rw[uf,if_pos (.inl h1)]
  exact rfl
 refine ah (p:=1000000<(c.sgs.getD i ak).dl) (aA Iff.rfl) (fun h2=>?_) (fun h2=>?_)
 ·refine eN (iP (uf c i)) ?_
  rw[uf,if_pos (.inr h2)]
  exact rfl
 have n1:¬((c.sgs.getD i ak).dl<1∨1000000<(c.sgs.getD i ak).dl):=fun h=>h.elim h1 h2
 refine cK (aff) ((c.sgs.getD i ak).off) (by exact (ai (iE (by simp only[zz,reduceCtorEq])) (ai (iE (by simp only[zz,reduceCtorEq])) (ai rfl (fun _ _=>rfl))))) (trivial) ?_
 refine aC (b:=!bM (c.sgs.getD i ak).off) rfl (fun h3=>?_) (fun h3=>?_)
 ·have h3:bM (c.sgs.getD i ak).off=false:=by simpa using h3
  refine eN (iP (uf c i)) ?_
  rw[uf,if_neg n1,if_pos (.inl h3)]
  exact rfl
 have h3:¬bM (c.sgs.getD i ak).off=false:=by simpa using h3
 refine aC (b:=(c.sgs.getD i ak).ini) rfl (fun h5=>?_) (fun h5=>?_)
 ·refine eN (iP (uf c i)) ?_
  rw[uf,if_neg n1,if_pos (.inr h5)]
  exact rfl
 ·refine eN (iP (uf c i)) ?_
  rw[uf,if_neg n1,if_neg (fun h=>h.elim h3 (fun e=>by rw[h5] at e;cases e))]
  exact rfl
def pO (l:List (List UInt8)) (s:List UInt8):Int:=if !jN s then 3 else if 24<s.length then 17 else if l.any (fun t=>t==s) then 7 else 0
def l7 (l:List (List UInt8)) (s:List UInt8):List (List UInt8):=if pO l s=0 then l++[s] else l
def wM (l:List (List UInt8)) (b:ByteArray):Option Nat:=l.findIdx? fun s=>decide (strOf s=b)
def pG (l:List (List UInt8)):MK→Option PV
 | .str b=>(wM l b).map fun k:Nat=>iP (k:Int)
 | _=>none
def ake (l:List (List UInt8)):Ob:=.map .str l.length (pG l)
theorem adt {l:List (List UInt8)} {s:List UInt8}:wM l (strOf s)=none↔l.any (fun t=>t==s)=false:=by
 unfold wM
 rw[axw,atY]
 constructor
 ·intro h x hx e
  have:=h x hx
  rw[beq_iff_eq] at e
  subst e
  simp at this
 ·intro h x hx
  have:=h x hx
  rw[decide_eq_false_iff_not,ahW]
  intro e;subst e;simp at this
theorem ajZ {l:List (List UInt8)} {s:List UInt8} (h:wM l (strOf s)=none) (q:MK):vH (pG l) (.str (strOf s)) (iP l.length) q=pG (l++[s]) q:=by
 classical
 unfold vH
 cases q with
 | int j=>rw[if_neg (by intro h;cases h)];rfl
 | bools b=>rw[if_neg (by intro h;cases h)];rfl
 | str b=>
  show _=(wM (l++[s]) b).map fun k:Nat=>iP (k:Int)
  unfold wM at h ⊢
  rw[List.findIdx?_append]
  by_cases e:b=strOf s
  ·subst e
   rw[if_pos rfl,h]
   simp
  ·rw[if_neg (fun h=>e (by cases h;rfl))]
   have:[s].findIdx? (fun s=>decide (strOf s=b))=none:=by
    rw[axw]
    intro x hx
    simp only[aes] at hx
    subst hx
    rw[decide_eq_false_iff_not];exact fun h=>e h.symm
   rw[this]
   show (wM l b).map _=_
   unfold wM
   cases l.findIdx? (fun s=>decide (strOf s=b))<;>rfl
def lnO:Ob:=.cells 182 [.any,.any,.any,.any,.any,.mp 1,.any,.any,.any]
def knS:Spec:={ A:=List (List UInt8)×List UInt8,args:=fun a=>[.own 0 0,sA a.2],objs:=fun a=>[lnO,ake a.1],pre:=fun a=>a.2.length≤1000000∧a.1.length≤1000000,res:=fun a=>iP (pO a.1 a.2),objs':=fun a=>[ake (l7 a.1 a.2)],fresh:=true,ro:=1 }
theorem ajX:av Tryz.prog 128 knS:=by
 refine vF Tryz.func128 ?_
 rintro ⟨l,s⟩ hpre
 obtain ⟨hs,hl⟩:=hpre
 have hs:s.length≤1000000:=hs
 have hl:l.length≤1000000:=hl
 have hz:=cO s
 refine ah (p:=s=[]) (by (show (s==[])=true↔s=[];simp)) (fun h1=>?_) (fun h1=>?_)
 ·have e1:pO l s=3:=if_pos (by rw[show jN s=false by unfold jN;rw[h1];rfl];rfl)
  have e2:l7 l s=l:=by unfold l7;rw[e1];rfl
  refine ai (ai (fun _=>?_) ?_) ?_
  ·exact trivial
  ·show lH _ (iP (pO l s))
   rw[e1]
   exact rfl
  ·refine (ai rfl (ai ?_ ?_))
   ·show l.length=(l7 l s).length
    rw[e2]
   ·show ∀k,pG l k=pG (l7 l s) k
    rw[e2];exact fun _=>rfl
 have hp:0<s.length:=by cases s with | nil=>exact absurd rfl h1 | cons _ _=>exact Nat.zero_lt_succ _
 have i1:(strOf s)[((0:Nat):Int).toNat]?=some (s.getD 0 0):=nP hp
 refine ei (s.getD 0 0) (ai (ai (by decide) i1) ?_)
 refine bL ((s.getD 0 0).toNat<97) (fun h2=>?_) fun h2=>?_
 ·have e1:pO l s=3:=if_pos (by rw[show jN s=false by unfold jN jv;rw[show decide (97≤(s.getD 0 0).toNat)=false by rw[decide_eq_false_iff_not];omega];simp];rfl)
  have e2:l7 l s=l:=by unfold l7;rw[e1];rfl
  refine ai (ai (fun _=>?_) ?_) ?_
  ·exact trivial
  ·show lH _ (iP (pO l s))
   rw[e1]
   exact rfl
  ·refine (ai rfl (ai ?_ ?_))
   ·show l.length=(l7 l s).length
    rw[e2]
   ·show ∀k,pG l k=pG (l7 l s) k
    rw[e2];exact fun _=>rfl
 refine ei (s.getD 0 0) (ai (ai (by decide) i1) ?_)
 refine bL (122<(s.getD 0 0).toNat) (fun h3=>?_) fun h3=>?_
 ·have e1:pO l s=3:=if_pos (by rw[show jN s=false by unfold jN jv;rw[show decide ((s.getD 0 0).toNat≤122)=false by rw[decide_eq_false_iff_not];omega];simp];rfl)
  have e2:l7 l s=l:=by unfold l7;rw[e1];rfl
  refine ai (ai (fun _=>?_) ?_) ?_
  ·exact trivial
  ·show lH _ (iP (pO l s))
   rw[e1]
   exact rfl
  ·refine (ai rfl (ai ?_ ?_))
   ·show l.length=(l7 l s).length
    rw[e2]
   ·show ∀k,pG l k=pG (l7 l s) k
    rw[e2];exact fun _=>rfl
 refine cK (ate) (s) (by exact (ai rfl (ai rfl trivial))) (trivial) ?_
 refine aC (b:=!s.all eD) rfl (fun h4=>?_) (fun h4=>?_)
 ·have h4:s.all eD=false:=by simpa using h4
  have e1:pO l s=3:=if_pos (by rw[show jN s=false by unfold jN;rw[h4];simp];rfl)
  have e2:l7 l s=l:=by unfold l7;rw[e1];rfl
  refine ai (ai (fun _=>?_) ?_) ?_
  ·exact trivial
  ·show lH _ (iP (pO l s))
   rw[e1]
   exact rfl
  ·refine (ai rfl (ai ?_ ?_))
   ·show l.length=(l7 l s).length
    rw[e2]
   ·show ∀k,pG l k=pG (l7 l s) k
    rw[e2];exact fun _=>rfl
 have h4:s.all eD=true:=by simpa using h4
 have hw:jN s=true:=by
  unfold jN jv
  rw[h4,show decide (97≤(s.getD 0 0).toNat)=true by rw[decide_eq_true_iff];omega,show decide ((s.getD 0 0).toNat≤122)=true by rw[decide_eq_true_iff];omega]
  cases s with
  | nil=>exact absurd rfl h1
  | cons _ _=>rfl
 have k1:¬(!jN s)=true:=by rw[hw];decide
 refine ah (p:=24<s.length) (by exact aA (by rw[hz];omega)) (fun h5=>?_) (fun h5=>?_)
 ·have e1:pO l s=17:=by unfold pO;rw[if_neg k1,if_pos h5]
  have e2:l7 l s=l:=by unfold l7;rw[e1];rfl
  refine ai (ai (fun _=>?_) ?_) ?_
  ·exact trivial
  ·show lH _ (iP (pO l s))
   rw[e1]
   exact rfl
  ·refine (ai rfl (ai ?_ ?_))
   ·show l.length=(l7 l s).length
    rw[e2]
   ·show ∀k,pG l k=pG (l7 l s) k
    rw[e2];exact fun _=>rfl
 cases hF:wM l (strOf s) with
 | none=>
  have hN:pG l (.str (strOf s))=none:=by show (wM l (strOf s)).map _=none;rw[hF];rfl
  have e1:pO l s=0:=by unfold pO;rw[if_neg k1,if_neg h5,if_neg (by rw[adt.1 hF];decide)]
  have e2:l7 l s=l++[s]:=if_pos e1
  refine ai (ai rfl rfl) (ei (iP 0) (ei false (ai (ai (fun d h=>absurd (hN.symm.trans h) (by simp)) (fun _=>⟨rfl,rfl⟩)) ?_)))
  refine dR (.seq [0,1,2,3,4,5,6,7,8,9,10]) ?_
  refine ai rfl (ei (l.length+1) (ai (ai (fun _=>rfl) (fun d h=>absurd (hN.symm.trans h) (by simp))) ?_))
  refine ai (ai (fun _=>?_) ?_) ?_
  ·exact trivial
  ·show lH _ (iP (pO l s))
   rw[e1]
   exact rfl
  ·refine (ai rfl (ai ?_ ?_))
   ·show l.length+1=(l7 l s).length
    rw[e2,aaJ];rfl
   ·show ∀k,vH (pG l) (.str (strOf s)) (iP l.length) k=pG (l7 l s) k
    rw[e2];exact ajZ hF
 | some j=>
  have hN:pG l (.str (strOf s))=some (iP (j:Int)):=by show (wM l (strOf s)).map _=_;rw[hF];rfl
  have e0:l.any (fun t=>t==s)=true:=by
   cases hh:l.any (fun t=>t==s) with
   | true=>rfl
   | false=>rw[adt.2 hh] at hF;cases hF
  have e1:pO l s=7:=by unfold pO;rw[if_neg k1,if_neg h5,if_pos e0]
  refine ai (ai rfl rfl) (ei (iP (j:Int)) (ei true (ai (ai (fun d h=>?_) (fun h=>absurd (hN.symm.trans h) (by simp))) ?_)))
  ·rw[hN] at h;cases h;exact ⟨rfl,rfl⟩
  have e2:l7 l s=l:=by unfold l7;rw[e1];rfl
  refine ai (ai (fun _=>?_) ?_) ?_
  ·exact trivial
  ·show lH _ (iP (pO l s))
   rw[e1]
   exact rfl
  ·refine (ai rfl (ai ?_ ?_))
   ·show l.length=(l7 l s).length
    rw[e2]
   ·show ∀k,pG l k=pG (l7 l s) k
    rw[e2];exact fun _=>rfl
def anB (c:bI) (i:Nat) (x:Ex):Prop:=∃k,k<c.sgs.length∧i≤k∧((c.sgs.getD k ak).kd==0)=true∧qV (bW c+(k:Int)) x=true
theorem am7 {c:bI} {i:Nat} (hs:lu c):∀n (x:Ex),x.size≤n→kD (dG c) x→(qF c i x=true↔anB c i x)
 | 0,x,h,_=>by have:=size_pos x;omega
 | n+1,x,h,hg=>by
  have hsz:=x.size_eq
  obtain ⟨hn0,hga⟩:=(rz _ _).1 hg
  obtain ⟨_,⟨_,hm⟩,hx1,hx2⟩:=vB hn0
  rw[alC]
  have h1:0≤c.act:=hs.1.1
  have hN:bW c=2*c.act+c.ins.length:=rfl
  have hL:dG c=2*c.act+c.ins.length+c.sgs.length:=rfl
  by_cases h1:x.op=1
  ·have hx3:x.idx<dG c:=by
    rw[h1] at hx2
    unfold vJ at hx2
    rw[if_neg (by decide),if_pos rfl] at hx2;omega
   have ha:x.args=[]:=by
    rw[h1] at hm
    have:x.args.length≤0:=hm
    exact axn.1 (by omega)
   rw[if_pos h1,ha,axX,axM]
   unfold xP anB
   rw[abx,decide_eq_true_iff]
   constructor
   ·rintro ⟨q1,q2⟩
    refine ⟨(x.idx-bW c).toNat,by omega,by omega,q2,?_⟩
    rw[aby,if_pos h1,beq_iff_eq];omega
   ·rintro ⟨k,q1,q2,q3,q4⟩
    rw[aby,if_pos h1,beq_iff_eq] at q4
    have:(x.idx-bW c).toNat=k:=by omega
    rw[this]
    exact ⟨by omega,q3⟩
  ·rw[if_neg h1,ar5,aoL]
   unfold anB
   constructor
   ·rintro ⟨y,hy,q⟩
    have hys:=jy hy
    obtain ⟨k,q1,q2,q3,q4⟩:=(am7 hs n y (by omega) (hga y hy)).1 q
    refine ⟨k,q1,q2,q3,?_⟩
    rw[aby,if_neg h1,aoL]
    exact ⟨y,hy,q4⟩
   ·rintro ⟨k,q1,q2,q3,q4⟩
    rw[aby,if_neg h1,aoL] at q4
    obtain ⟨y,hy,q⟩:=q4
    have hys:=jy hy
    exact ⟨y,hy,(am7 hs n y (by omega) (hga y hy)).2 ⟨k,q1,q2,q3,q⟩⟩
theorem atm {c:bI} {i:Nat} (hs:lu c) (hg:kD (dG c) (c.sgs.getD i ak).on):qF c i (c.sgs.getD i ak).on=rE c i:=by
 rw[auc,am7 hs _ _ (acM _) hg]
 unfold rE anB
 rw[aoL]
 constructor
 ·rintro ⟨k,q1,q2,q3,q4⟩
  refine ⟨k,auJ.2 q1,?_⟩
  unfold adI
  rw[decide_eq_true q2,q3,q4];rfl
 ·rintro ⟨k,q1,q⟩
  unfold adI at q
  rw[abx,abx,decide_eq_true_iff] at q
  exact ⟨k,auJ.1 q1,q.1,q.2.1,q.2.2⟩
theorem arG {c:bI} {i:Nat} (hs:lu c) (h1:kZ c (2*c.act.toNat+c.ins.length+i)=0) (h2:¬((c.sgs.getD i ak).kd<0∨3≤(c.sgs.getD i ak).kd)) (h3:bg (c.sgs.getD i ak).on (dG c)=0) :
  aU c i=if (c.sgs.getD i ak).kd=0 then lN c i else if (c.sgs.getD i ak).kd=1 then vU c i else uf c i:=by
 have hl:=atm (i:=i) hs (gN.1 h3).2.2
 unfold aU
 rw[if_neg (fun h=>h h1),if_neg h2,if_neg (fun h=>h h3)]
 by_cases k0:(c.sgs.getD i ak).kd=0
 ·rw[if_pos k0,if_neg (fun h=>by omega)]
  unfold lN
  rw[hl]
  by_cases q:rE c i=true
  ·rw[if_pos ⟨k0,q⟩,if_pos q]
  ·rw[if_neg (fun h=>q h.2),if_neg (fun h=>by omega),if_neg q]
   by_cases r:(bM (c.sgs.getD i ak).off=false∨(c.sgs.getD i ak).ini=true)∨¬(c.sgs.getD i ak).dl=0
   ·rw[if_pos r,if_pos]
    rcases r with r | r
    ·exact .inl ⟨by omega,r⟩
    ·exact .inr ⟨by omega,r⟩
   ·rw[if_neg r,if_neg]
    rintro (h | h)
    ·exact r (.inl h.2)
    ·exact r (.inr h.2)
 ·rw[if_neg k0]
  by_cases k1:(c.sgs.getD i ak).kd=1
  ·rw[if_pos k1]
   by_cases q:bg (c.sgs.getD i ak).off (dG c)=0
   ·have hr:vU c i=if ¬(c.sgs.getD i ak).dl=0 then 3 else 0:=by unfold vU;rw[if_neg (fun h=>h q)]
    rw[hr,if_neg (fun h=>h.2 q),if_neg (fun h=>k0 h.1),if_neg (fun h=>by omega)]
    by_cases r:(c.sgs.getD i ak).dl=0
    ·rw[if_neg (fun h=>h.elim (fun h=>h.1 k1) fun h=>h.2 r),if_neg (fun h=>h r)]
    ·rw[if_pos (.inr ⟨by omega,r⟩),if_pos r]
   ·have hr:vU c i=bg (c.sgs.getD i ak).off (dG c):=if_pos q
    rw[hr,if_pos ⟨k1,q⟩]
  ·have k2:(c.sgs.getD i ak).kd=2:=by omega
   rw[if_neg k1,if_neg (fun h=>k1 h.1),if_neg (fun h=>k0 h.1)]
   unfold uf
   by_cases q:(c.sgs.getD i ak).dl<1∨1000000<(c.sgs.getD i ak).dl
   ·rw[if_pos ⟨k2,q⟩,if_pos q]
   ·rw[if_neg (fun h=>q h.2),if_neg q]
    by_cases r:bM (c.sgs.getD i ak).off=false∨(c.sgs.getD i ak).ini=true
    ·rw[if_pos (.inl ⟨k1,r⟩),if_pos r]
    ·rw[if_neg (fun h=>h.elim (fun h=>r h.2) fun h=>h.1 k2),if_neg r]
end Go.Sx.Pe
namespace Go.Proofs
open Go.Shelf
def Tryz.ahr:Go.Shelf.Ren:=⟨fun | 4=>188 | n=>n,fun | 22=>30 | 25=>3 | 3=>3 | 4=>4 | 9=>9 | 20=>20 | 0=>0 | n=>n,fun | n=>n⟩
theorem Tryz.av2 : Go.Proofs.Lays8.n4 Tryz.prog Tryz.ahr := {
  mixed := by kernel_rfl
  f4 := ⟨Tryz.f188.name, by decide, Tryz.func188.trans (congrArg some (by kernel_rfl))⟩
  t0 := Tryz.underlying0
  a0 := Tryz.isAgg0
  z0 := Tryz.sizeOf0
  v0 := Tryz.zeroValue0
  t3 := Tryz.underlying3
  a3 := Tryz.isAgg3
  z3 := Tryz.sizeOf3
  v3 := Tryz.zeroValue3
  t4 := Tryz.underlying4
  a4 := Tryz.isAgg4
  z4 := Tryz.sizeOf4
  v4 := Tryz.zeroValue4
  t9 := Tryz.underlying9
  a9 := Tryz.isAgg9
  z9 := Tryz.sizeOf9
  v9 := Tryz.zeroValue9
  t20 := Tryz.underlying20
  a20 := Tryz.isAgg20
  z20 := Tryz.sizeOf20
  v20 := Tryz.zeroValue20
  t22 := Tryz.underlying30
  a22 := Tryz.isAgg30
  z22 := Tryz.sizeOf30
  v22 := Tryz.zeroValue30 }
end Go.Proofs
namespace Go.Sx.Pe
open Go Go.Proofs Go.Sx.Pn Go.RowKit Go.Shelf
def awh:uE:={ A:=Nat,args:=fun n=>[.p false (.val (.slice none 0 0)),iA n],pre:=fun n=>0<n∧n≤1000000,T:=3,vals:=fun _=>[] }
theorem as0:abf Tryz.prog 188 awh:=by
 refine ⟨⟨_,Tryz.func188,rfl,rfl⟩,fun (n:Nat) hpre E vs w hh hA=>?_⟩
 obtain ⟨h0,h1⟩:=hpre
 have h0:0<n:=h0
 have h1:n≤1000000:=h1
 obtain ⟨hsz,hA⟩:=hA
 have hsz:vs.size=2:=hsz
 have e0:vs[0]'(by omega)=.slice none 0 0:=by
  have:=hA 0 _ (.p false (.val (.slice none 0 0))) (acP (by omega)) rfl
  generalize vs[0]'(by omega)=v at this
  cases this with
  | p _ _ _ hp=>cases hp;rfl
 have e1:vs[1]'(by omega)=.int .i64 (n:Int):=by
  have:=hA 1 _ (iA n) (acP (by omega)) rfl
  generalize vs[1]'(by omega)=v at this
  cases this with
  | p _ _ _ hp=>cases hp;rfl
 have hvs:vs=#[.slice none 0 0,.int .i64 (n:Int)]:=by
  apply axq
  intro k
  match k with
  | 0=>rw[acP (by omega),e0];rfl
  | 1=>rw[acP (by omega),e1];rfl
  | k+2=>rw[axK (by omega)];simp
 rw[hvs]
 obtain ⟨I,hI,hIs,hIb,z,hz,_,_,hzs⟩:=(fQ 3 ⟨.int .i64,1,8,[.int .i64 0]⟩ rfl).info
 have hIs:I.size=1:=hIs
 have hIb:I.bytes=8:=hIb
 have hzs:z.cells.size=1:=hzs
 have hG:=grownCap_ge w (0+n) 0 3
 have hM:=grownCap_le_maxLen w (0+n) 0 3 (by unfold maxLen;omega)
 refine (Any8.slices_Grow_grow (P:=Tryz.prog) (ρ:=Tryz.ahr) Tryz.av2 I z hI hz (by omega) none 0 0 n [] w (acM _) (by omega) (by rw[hIb];omega) (by omega) (by rw[Nat.zero_mul];rfl) (fun _=>rfl) (fun a h=>by cases h)).mono fun e w' ⟨he,hw⟩=>?_
 subst hw
 have hs:∀T,((w.drew.alloc T).heap)[w.heap.size]?=some T:=fun T=>by
  show (w.heap.push T)[w.heap.size]?=some T
  simp
 refine ⟨_,he,rfl,(Below.drew (Below.refl _ _)).alloc (acM _) _,⟨rfl,.inr ⟨_,_,_,rfl,acM _,hs _,alr _,hM,?_,rfl⟩⟩,alr _⟩
 rw[Array.size_append,Array.size_append,size_zeroCells,size_zeroCells,hzs]
 show 0+(0+n-0)*1+(grownCap w (0+n) 0 3-(0+n))*1=grownCap w (0+n) 0 3*1
 omega
def aug (a:List Int×List Int):Prop:=0<a.1.length+a.2.length∧a.1.length≤100000∧a.2.length≤100000
theorem ajP (a b:List Int):∀k,k<0+a.length+b.length→aY (0+a.length) (aY 0 (gF []) (fun k=>[iP (a.getD k 0)])) (fun k=>[iP (b.getD k 0)]) k=[iP ((a++b).getD k 0)]:=by
 intro k hk
 unfold aY
 by_cases h:k<0+a.length
 ·rw[if_pos h,if_neg (aeH k),auq]
  show [iP (a.getD k 0)]=_
  rw[aaG,aaG,aoj (by omega)]
 ·rw[if_neg h]
  show [iP (b.getD (k-(0+a.length)) 0)]=_
  rw[ahv,aaG,aaG,ahS (by omega)]
set_option maxHeartbeats 4000000 in
theorem anY:av Tryz.prog 131 (bC (fun a:List Int×List Int=>[.p false (.seq 2 (aT 1 [fT a.1,fT a.2]))]) aug (fun a=>fT (a.1++a.2))):=by
 refine vI [188] Tryz.func131 ?_
 rintro ⟨a,b⟩ hpre
 obtain ⟨h0,h1,h2⟩:=hpre
 have h0:0<a.length+b.length:=h0
 have h1:a.length≤100000:=h1
 have h2:b.length≤100000:=h2
 have w1:IntKind.i64.wrap (0+(a.length:Int))=(a.length:Int):=by rw[dF (by omega) (by omega)];omega
 have w2:IntKind.i64.wrap (IntKind.i64.wrap (0+(a.length:Int))+(b.length:Int))=((a.length+b.length:Nat):Int):=by rw[w1,dF (by omega) (by omega)];omega
 refine ei (mK.unroll 3) ?_
 refine ai (ai (by decide) (by decide)) ?_
 refine ai rfl ?_
 refine bF (by show decide (IntKind.i64.wrap (0+(a.length:Int))<0)=false;rw[w1,decide_eq_false_iff_not];omega) ?_
 refine ai (ai (by decide) (by decide)) ?_
 refine ai rfl ?_
 refine bF (by show decide (IntKind.i64.wrap (IntKind.i64.wrap (0+(a.length:Int))+(b.length:Int))<0)=false;rw[w2,decide_eq_false_iff_not];omega) ?_
 refine aui as0 (a.length+b.length) ⟨h0,by show a.length+b.length≤1000000;omega⟩ (fun v hv=>by cases hv) ?_ rfl ?_
 ·exact (ai rfl (iE (by simp only[zz,reduceCtorEq];omega)))
 refine ei (mK.unroll 3) ?_
 refine ai (ai (by decide) (by decide)) ?_
 refine ai rfl ?_
 refine ai (mxL (n:=0+a.length) (by omega) (by decide)) (ai (fun _ _=>rfl) ?_)
 refine ai (ai (by decide) (by decide)) ?_
 refine ai rfl ?_
 refine ai (mxL (n:=0+a.length+b.length) (by omega) (by decide)) (ai (fun _ _=>rfl) ?_)
 refine ai (ai (fun _ k hk=>?_) ?_) trivial
 ·show iq (aY (0+a.length) (aY 0 (gF []) (fun k=>[iP (a.getD k 0)])) (fun k=>[iP (b.getD k 0)]) k)=true
  rw[ajP a b k hk];rfl
 refine (ai ?_ ?_)
 ·show 0+a.length+b.length=(a++b).length
  rw[aaJ,ahv]
 ·exact ajP a b
end Go.Sx.Pe
namespace Go.Sx.Pe
open Go Go.Proofs Go.Sx.Pn
def iw (c:bI) (n:Nat):List (List UInt8):=(List.range n).map (eH c)
theorem aaI (c:bI) (n:Nat):(iw c n).length=n:=by unfold iw;rw[ai1,auf]
theorem afV (c:bI) (n:Nat):iw c (n+1)=iw c n++[eH c n]:=by unfold iw;rw[avy,apk];rfl
theorem ajy (c:bI) (n:Nat):pO (iw c n) (eH c n)=kZ c n:=by
 unfold pO kZ iw
 rw[List.any_map]
 rfl
theorem aoE {c:bI} {n:Nat} (h:kZ c n=0):l7 (iw c n) (eH c n)=iw c (n+1):=by
 unfold l7
 rw[ajy,if_pos h,afV]
theorem asW:∀m,m<12→∀n,n<12→abL m=abL n→m=n:=by decide
theorem arl {c:bI} (h6:c.act≤6) {n:Nat} (hn:(n:Int)<2*c.act):wM (iw c n) (strOf (eH c n))=none:=by
 rw[adt,atY]
 intro x hx
 unfold iw at hx
 obtain ⟨k,hk,rfl⟩:=auA.1 hx
 have hk:=auJ.1 hk
 have e1:eH c k=abL k:=if_pos (by omega)
 have e2:eH c n=abL n:=if_pos hn
 rw[e1,e2]
 intro e
 have:=asW k (by omega) n (by omega) (eq_of_beq e)
 omega
def ctB (c:bI):Ob:=.cells 32 [iA c.act,.p false (xV c.ins),.p false (ap6 c.sgs),.p false (fT c.pl),.p false (fT c.mi)]
def axi (pre:bI×Int→Prop):Spec:={ A:=bI×Int,args:=fun a=>[iA a.2,.own 0 0],objs:=fun a=>[ctB a.1],pre:=pre,res:=fun a=>bP (lK a.1 a.2),objs':=fun _=>[],fresh:=true,ro:=1 }
theorem atl:av Tryz.prog 132 (axi fun a=>lu a.1):=by
 refine vF Tryz.func132 ?_
 rintro ⟨c,x⟩ hpre
 refine bL (x<0) (fun h1=>?_) fun h1=>?_
 ·refine eN (bP (lK c x)) ?_
  rw[show lK c x=true by unfold lK;rw[decide_eq_true h1];rfl]
  exact rfl
 refine cK (aaE) (c) (by exact (ai rfl (ai (ai rfl (fun _ _=>rfl)) (ai (ai rfl (fun _ _=>rfl)) (ai (ai rfl (fun _ _=>rfl)) (ai rfl (fun _ _=>rfl))))))) (hpre) ?_
 refine eN (bP (lK c x)) ?_
 rw[show lK c x=decide (dG c≤x) by unfold lK;rw[decide_eq_false h1];rfl]
 exact rfl
def arK (res:bI×List Int→PV):Spec:={ A:=bI×List Int,args:=fun a=>[isA a.2,.fn 132 [.own 0 0]],objs:=fun a=>[ctB a.1],pre:=fun a=>lu a.1∧a.2.length≤1000000,res:=res,objs':=fun _=>[],fresh:=true,ro:=1 }
theorem aso:av Tryz.prog 187 (arK fun a=>iP (jG (lK a.1) a.2)):=by
 refine vF Tryz.func187 ?_
 rintro ⟨c,l⟩ hpre
 obtain ⟨hs,hl⟩:=hpre
 have hl:l.length≤1000000:=hl
 refine fR (l.length) (fun k=>[(8,.s (iA k))]) (fun k=>[]) (fun k=>∀y∈l.take k,lK c y=false) (by exact (ai (ai (fun _=>rfl) (iE (by omega))) rfl)) (by exact trivial) ?_ ?_
 ·exact fun y hy=>absurd hy (by simp)
 intro (k:Nat) ⟨hk,hall⟩
 refine ah (p:=k<l.length) (aA (by dsimp only;omega)) (fun h1=>?_) (fun h1=>?_)
 ·refine iX (k) (l.length) ?_
  refine ei _ (ai (atl) (ei ((c,l.getD k 0)) (ei [0] (ai (a4 (ai (fun _=>Or.inl rfl) (ai nof (Or.inl rfl)))) (ai (by exact (ai (iE (by simp only[zz,reduceCtorEq])) (ai rfl rfl))) (ai (by exact (ai rfl (ai rfl (ai (ai rfl (fun _ _=>rfl)) (ai (ai rfl (fun _ _=>rfl)) (ai (ai rfl (fun _ _=>rfl)) (ai rfl (fun _ _=>rfl)))))))) (ai (hs) ?_)))))))
  refine aC (b:=lK c (l.getD k 0)) rfl (fun h2=>?_) (fun h2=>?_)
  ·refine eN (iP (jG (lK c) l)) ?_
   rw[rY (d:=0) h1 h2 hall]
   exact rfl
  refine nX (k) (ai (ai (fun _=>rfl) (aG (by omega))) rfl) trivial ?_
  intro y hy
  rw[aR 0 h1] at hy
  rcases acT.1 hy with hy | hy
  ·exact hall y hy
  ·simp only[aes] at hy;subst hy;exact h2
 ·obtain rfl:k=l.length:=by omega
  rw[acS] at hall
  refine eN (iP (jG (lK c) l)) ?_
  rw[uy hall]
  exact rfl
theorem as8:av Tryz.prog 130 (arK fun a=>bP (a.2.any (lK a.1))):=by
 refine vF Tryz.func130 ?_
 rintro ⟨c,l⟩ hpre
 refine ei _ (ai (aso) (ei ((c,l)) (ei [0] (ai (a4 (ai (fun _=>Or.inl rfl) (ai nof (Or.inl rfl)))) (ai (by exact (ai (ai rfl (fun _ _=>rfl)) (ai rfl (ai rfl rfl)))) (ai (by exact (ai rfl (ai rfl (ai (ai rfl (fun _ _=>rfl)) (ai (ai rfl (fun _ _=>rfl)) (ai (ai rfl (fun _ _=>rfl)) (ai rfl (fun _ _=>rfl)))))))) (ai (hpre) ?_)))))))
 refine eN (bP (l.any (lK c))) ?_
 rw[(qU (lK c) l).symm]
 exact rfl
theorem adW:av Tryz.prog 32 (bC (fun c:bI=>[sH c]) ae5 (fun c=>iP (bH c))):=by
 refine vI [70,129,4000103,6000047] Tryz.func32 ?_
 rintro (c:bI) hpre
 obtain ⟨ho,⟨h3,h4⟩,hn⟩:=hpre
 have h3:c.ins.length≤1000000:=h3
 have h4:c.sgs.length≤1000000:=h4
 refine mY mixed fQ Tryz.func70 rfl rfl ?_
 refine ai rfl ?_
 refine bL (c.act<1) (fun g1=>?_) fun g1=>?_
 ·have e:bH c=2:=by unfold bH;rw[if_pos (.inl g1)]
  refine eN (iP (bH c)) ?_
  rw[e]
  exact rfl
 refine bL (6<c.act) (fun g2=>?_) fun g2=>?_
 ·have e:bH c=2:=by unfold bH;rw[if_pos (.inr g2)]
  refine eN (iP (bH c)) ?_
  rw[e]
  exact rfl
 have n1:¬(c.act<1∨6<c.act):=fun h=>h.elim g1 g2
 refine bL (16<c.ins.length) (fun g3=>?_) fun g3=>?_
 ·have e:bH c=5:=by unfold bH;rw[if_neg n1,if_pos (.inl g3)]
  refine eN (iP (bH c)) ?_
  rw[e]
  exact rfl
 refine bL (64<c.sgs.length) (fun g4=>?_) fun g4=>?_
 ·have e:bH c=5:=by unfold bH;rw[if_neg n1,if_pos (.inr g4)]
  refine eN (iP (bH c)) ?_
  rw[e]
  exact rfl
 have n2:¬(16<c.ins.length∨64<c.sgs.length):=fun h=>h.elim g3 g4
 have hs0:lu c:=⟨⟨by omega,by omega⟩,h3,h4⟩
 have hgd:acE c:=⟨⟨hs0,by omega⟩,ho,hn⟩
 have hlN:dG c=2*c.act+c.ins.length+c.sgs.length:=rfl
 have hw2:IntKind.i64.wrap (2*c.act)=2*c.act:=dF (by omega) (by omega)
 refine fR (2*c.act.toNat) (fun n=>[(46,.s (iA n))]) (fun n=>[⟨2,0,[.ob (ake (iw c n))]⟩]) (fun n=>True) ?_ ?_ ?_ ?_
 ·exact (ai (ai (fun _=>rfl) (iE (by omega))) rfl)
 ·refine (ai (ai rfl (ai rfl ?_)) trivial)
  exact fun k=>by cases k<;>rfl
 ·trivial
 intro (n:Nat) ⟨hnn,_⟩
 have hnl:=aaI c n
 refine ah (p:=n<2*c.act.toNat) (by exact aA (by rw[hw2];omega)) (fun g5=>?_) (fun g5=>?_)
 ·refine dR (.seq [0,1,2,3,4,5,7,6,8]) ?_
  have hF:=arl (c:=c) (n:=n) (by omega) (by omega)
  have hN:pG (iw c n) (.str (strOf (eH c n)))=none:=by show (wM (iw c n) (strOf (eH c n))).map _=none;rw[hF];rfl
  refine cK (anS) ((c,n)) (by exact (ai (ai rfl (ai (ai rfl (fun _ _=>rfl)) (ai (ai rfl (fun _ _=>rfl)) (ai (ai rfl (fun _ _=>rfl)) (ai rfl (fun _ _=>rfl)))))) rfl)) (⟨hs0,by show c.act≤6;omega,by show (n:Int)<dG c;omega⟩) ?_
  refine ai rfl (ei ((iw c n).length+1) (ai (ai (fun _=>rfl) (fun d h=>absurd (hN.symm.trans h) (by simp))) ?_))
  refine nX (n) (ai (ai (fun _=>rfl) (aG (by omega))) rfl) (ai (ai rfl (ai ?_ ?_)) trivial) trivial
  ·rw[hnl,aaI]
  ·intro q
   have:=ajZ hF q
   rw[hnl] at this
   rw[afV];exact this
 have hA:n=2*c.act.toNat:=by omega
 clear hnl g5
 refine fR (c.ins.length) (fun k=>[(61,.s (iA k))]) (fun k=>[⟨2,0,[.ob (ake (iw c (2*c.act.toNat+k)))]⟩]) (fun k=>∀j,j<k→kZ c (2*c.act.toNat+j)=0) ?_ ?_ ?_ ?_
 ·exact (ai (ai (fun _=>rfl) (iE (by omega))) rfl)
 ·refine (ai (ai rfl (ai ?_ ?_)) trivial)
  ·rw[hA];rfl
  ·rw[hA];exact fun _=>rfl
 ·exact fun j hj=>absurd hj (aeH _)
 intro (k:Nat) ⟨hk,hall⟩
 have hnl:=aaI c (2*c.act.toNat+k)
 refine bL (k<c.ins.length) (fun g5=>?_) fun g5=>?_
 ·refine iX (k) (c.ins.length) ?_
  have eI:eH c (2*c.act.toNat+k)=c.ins.getD k []:=by
   unfold eH bW
   rw[if_neg (by omega),if_pos (by omega),awD]
  have hr:pO (iw c (2*c.act.toNat+k)) (c.ins.getD k [])=kZ c (2*c.act.toNat+k):=by rw[←eI];exact ajy c _
  refine ei _ (ai (ajX) (ei ((iw c (2*c.act.toNat+k),c.ins.getD k [])) (ei [3,2] (ai (ai rfl (ai rfl (ai rfl (ai rfl (ai nof (ai nof (Or.inl rfl))))))) (ai (by exact (ai (ai rfl rfl) rfl)) (ai (by exact (ai (ai rfl (ai trivial (ai trivial (ai trivial (ai trivial (ai trivial (ai rfl (ai trivial (ai trivial trivial))))))))) (ai rfl (ai rfl (fun _=>rfl))))) (ai (⟨hn.1 _ (abu (bD [] g5)),by show (iw c (2*c.act.toNat+k)).length≤1000000;omega⟩) ?_)))))))
  refine aW (p:=kZ c (2*c.act.toNat+k)=0) (by exact bn (by rw[←hr])) (fun g6=>?_) (fun g6=>?_)
  ·have e1:=dO (f:=fun i=>kZ c (2*c.act.toNat+i)) g5 hall g6
   have e:bH c=pO (iw c (2*c.act.toNat+k)) (c.ins.getD k []):=by
    unfold bH
    rw[if_neg n1,if_neg n2,if_pos (show ¬dB (fun i=>kZ c (2*c.act.toNat+i)) c.ins.length=0 by rw[e1];exact g6),e1,hr]
   refine eN (iP (bH c)) ?_
   rw[e]
   exact rfl
  have hL:l7 (iw c (2*c.act.toNat+k)) (c.ins.getD k [])=iw c (2*c.act.toNat+(k+1)):=by rw[←eI];exact aoE g6
  refine nX (k) (ai (ai (fun _=>rfl) (aG (by omega))) rfl) (ai (ai rfl (ai ?_ ?_)) trivial) ?_
  ·rw[hL]
  ·rw[hL];exact fun _=>rfl
  intro j hj
  by_cases e:j=k
  ·rw[e];exact g6
  ·exact hall j (by omega)
 have hK:k=c.ins.length:=by omega
 have n3:¬¬dB (fun i=>kZ c (2*c.act.toNat+i)) c.ins.length=0:=fun h=>h (gU (by rw[←hK];exact hall))
 clear hnl g5
 refine fR (c.sgs.length) (fun i=>[(75,.s (iA i))]) (fun i=>[⟨2,0,[.ob (ake (iw c (2*c.act.toNat+c.ins.length+i)))]⟩]) (fun i=>∀j,j<i→aU c j=0) ?_ ?_ ?_ ?_
 ·exact (ai (ai (fun _=>rfl) (iE (by omega))) rfl)
 ·refine (ai (ai rfl (ai ?_ ?_)) trivial)
  ·rw[hK];rfl
  ·rw[hK];exact fun _=>rfl
 ·exact fun j hj=>absurd hj (aeH _)
 intro (i:Nat) ⟨hi,hall2⟩
 have hnl:=aaI c (2*c.act.toNat+c.ins.length+i)
 refine bL (i<c.sgs.length) (fun g5=>?_) fun g5=>?_
 ·have hm:=abu (bD ak g5)
  have eI:eH c (2*c.act.toNat+c.ins.length+i)=(c.sgs.getD i ak).nm:=by
   unfold eH bW
   rw[if_neg (by omega),if_neg (by omega),show 2*c.act.toNat+c.ins.length+i-2*c.act.toNat-c.ins.length=i by omega]
  have hr:pO (iw c (2*c.act.toNat+c.ins.length+i)) (c.sgs.getD i ak).nm=kZ c (2*c.act.toNat+c.ins.length+i):=by rw[←eI];exact ajy c _
  have hE:¬aU c i=0→bH c=aU c i:=fun h=>by
   have e1:=dO (f:=aU c) g5 hall2 h
   unfold bH
   rw[if_neg n1,if_neg n2,if_neg n3,if_pos (show ¬dB (aU c) c.sgs.length=0 by rw[e1];exact h),e1]
  have hso:=ho.1 _ hm
  refine mY mixed fQ Tryz.func129 rfl rfl ?_
  refine ai rfl ?_
  refine iX (i) (c.sgs.length) ?_
  refine ei _ (ai (ajX) (ei ((iw c (2*c.act.toNat+c.ins.length+i),(c.sgs.getD i ak).nm)) (ei [3,2] (ai (ai rfl (ai rfl (ai rfl (ai rfl (ai nof (ai nof (Or.inl rfl))))))) (ai (by exact (ai (ai rfl rfl) rfl)) (ai (by exact (ai (ai rfl (ai trivial (ai trivial (ai trivial (ai trivial (ai trivial (ai rfl (ai trivial (ai trivial trivial))))))))) (ai rfl (ai rfl (fun _=>rfl))))) (ai (⟨hn.2 _ hm,by show (iw c (2*c.act.toNat+c.ins.length+i)).length≤1000000;omega⟩) ?_)))))))
  refine aW (p:=kZ c (2*c.act.toNat+c.ins.length+i)=0) (by exact bn (by rw[←hr])) (fun m1=>?_) (fun m1=>?_)
  ·have s1:aU c i=pO (iw c (2*c.act.toNat+c.ins.length+i)) (c.sgs.getD i ak).nm:=by unfold aU;rw[if_pos m1,hr]
   refine bT (by exact bn (p:=True) (by rw[hr];exact ⟨fun _=>trivial,fun _=>m1⟩) |>.2 trivial) ?_
   have e:bH c=pO (iw c (2*c.act.toNat+c.ins.length+i)) (c.sgs.getD i ak).nm:=by rw[hE (by rw[s1,hr];exact m1),s1]
   refine eN (iP (bH c)) ?_
   rw[e]
   exact rfl
  have m1:kZ c (2*c.act.toNat+c.ins.length+i)=0:=m1
  have hnL:l7 (iw c (2*c.act.toNat+c.ins.length+i)) (c.sgs.getD i ak).nm=iw c (2*c.act.toNat+c.ins.length+(i+1)):=by rw[←eI];exact aoE m1
  refine ah (p:=(c.sgs.getD i ak).kd<0) (aA Iff.rfl) (fun m2=>?_) (fun m2=>?_)
  ·have s1:aU c i=1:=by unfold aU;rw[if_neg (fun h=>h m1),if_pos (.inl m2)]
   have e:bH c=1:=by rw[hE (by rw[s1];decide),s1]
   refine eN (iP (bH c)) ?_
   rw[e]
   exact rfl
  refine ah (p:=3≤(c.sgs.getD i ak).kd) (fH Iff.rfl) (fun m3=>?_) (fun m3=>?_)
  ·have s1:aU c i=1:=by unfold aU;rw[if_neg (fun h=>h m1),if_pos (.inr m3)]
   have e:bH c=1:=by rw[hE (by rw[s1];decide),s1]
   refine eN (iP (bH c)) ?_
   rw[e]
   exact rfl
  have m23:¬((c.sgs.getD i ak).kd<0∨3≤(c.sgs.getD i ak).kd):=fun h=>h.elim m2 m3
  refine dR (.seq [0,1,2,3,4,5,6,7,8]) ?_
  refine cK (aaE) (c) (by exact (ai rfl (ai (ai rfl (fun _ _=>rfl)) (ai (ai rfl (fun _ _=>rfl)) (ai (ai rfl (fun _ _=>rfl)) (ai rfl (fun _ _=>rfl))))))) (hs0) ?_
  refine cK (qX) (((c.sgs.getD i ak).on,dG c)) (by exact (ai (ai (iE (by simp only[zz,reduceCtorEq])) (ai (iE (by simp only[zz,reduceCtorEq])) (ai rfl (fun _ _=>rfl)))) rfl)) (hso.1) ?_
  refine aW (p:=bg (c.sgs.getD i ak).on (dG c)=0) (bn (by dsimp only;omega)) (fun m4=>?_) (fun m4=>?_)
  ·have s1:aU c i=bg (c.sgs.getD i ak).on (dG c):=by unfold aU;rw[if_neg (fun h=>h m1),if_neg m23,if_pos m4]
   refine bT (by exact bn (p:=True) ⟨fun _=>trivial,fun _=>m4⟩ |>.2 trivial) ?_
   have e:bH c=bg (c.sgs.getD i ak).on (dG c):=by rw[hE (by rw[s1];exact m4),s1]
   refine eN (iP (bH c)) ?_
   rw[e]
   exact rfl
  have hsk:=arG hs0 m1 m23 m4
  have hgo:=(gN.1 m4).2.2
  rcases (show (c.sgs.getD i ak).kd=0∨(c.sgs.getD i ak).kd=1∨(c.sgs.getD i ak).kd=2 by omega) with hk0 | hk0 | hk0
  ·refine dR (.one 0 (.one 1 (.one 2 (.one 3 (.one 4 (.one 5 (.one 6 (.one 7 (.wr 8 (.one 9 .done)))))))))) ?_
   refine ai (ai (by show (0:Int)≤(c.sgs.getD i ak).kd;omega) (by show (c.sgs.getD i ak).kd<((3:Nat):Int);omega)) (ei 0 (ai hk0 ?_))
   refine ei _ (ai (asf) (ei ((c,i)) (ei [3] (ai (a4 (ai (fun _=>Or.inl rfl) (ai nof (Or.inl rfl)))) (ai (by exact (ai (ai rfl rfl) rfl)) (ai (by exact (ai rfl (ai rfl (ai (ai rfl (fun _ _=>rfl)) (ai (ai rfl (fun _ _=>rfl)) (ai (ai rfl (fun _ _=>rfl)) (ai (ai rfl (fun _ _=>rfl)) (ai trivial (ai trivial (ai trivial trivial)))))))))) (ai (⟨hgd,g5,hgo⟩) ?_)))))))
   have s1:aU c i=lN c i:=by rw[hsk];exact if_pos hk0
   refine aW (p:=aU c i=0) (by exact bn (by rw[s1])) (fun g6=>?_) (fun g6=>?_)
   ·have e:bH c=lN c i:=by rw[hE g6,s1]
    refine eN (iP (bH c)) ?_
    rw[e]
    exact rfl
   refine nX (i) (ai (ai (fun _=>rfl) (aG (by omega))) rfl) (ai (ai rfl (ai ?_ ?_)) trivial) ?_
   ·rw[hnL]
   ·rw[hnL];exact fun _=>rfl
   intro j hj
   by_cases e:j=i
   ·rw[e];exact g6
   ·exact hall2 j (by omega)
  ·refine dR (.one 0 (.one 1 (.one 2 (.one 3 (.one 4 (.one 5 (.one 6 (.one 7 (.wr 8 (.one 9 .done)))))))))) ?_
   refine ai (ai (by show (0:Int)≤(c.sgs.getD i ak).kd;omega) (by show (c.sgs.getD i ak).kd<((3:Nat):Int);omega)) (ei 1 (ai hk0 ?_))
   refine ei _ (ai (aoY) (ei ((c,i)) (ei [3] (ai (a4 (ai (fun _=>Or.inl rfl) (ai nof (Or.inl rfl)))) (ai (by exact (ai (ai rfl rfl) rfl)) (ai (by exact (ai rfl (ai rfl (ai (ai rfl (fun _ _=>rfl)) (ai (ai rfl (fun _ _=>rfl)) (ai (ai rfl (fun _ _=>rfl)) (ai (ai rfl (fun _ _=>rfl)) (ai trivial (ai trivial (ai trivial trivial)))))))))) (ai (⟨hgd,g5⟩) ?_)))))))
   have s1:aU c i=vU c i:=by rw[hsk];rw[if_neg (by omega),if_pos hk0]
   refine aW (p:=aU c i=0) (by exact bn (by rw[s1])) (fun g6=>?_) (fun g6=>?_)
   ·have e:bH c=vU c i:=by rw[hE g6,s1]
    refine eN (iP (bH c)) ?_
    rw[e]
    exact rfl
   refine nX (i) (ai (ai (fun _=>rfl) (aG (by omega))) rfl) (ai (ai rfl (ai ?_ ?_)) trivial) ?_
   ·rw[hnL]
   ·rw[hnL];exact fun _=>rfl
   intro j hj
   by_cases e:j=i
   ·rw[e];exact g6
   ·exact hall2 j (by omega)
  ·refine dR (.one 0 (.one 1 (.one 2 (.one 3 (.one 4 (.one 5 (.one 6 (.one 7 (.wr 8 (.one 9 .done)))))))))) ?_
   refine ai (ai (by show (0:Int)≤(c.sgs.getD i ak).kd;omega) (by show (c.sgs.getD i ak).kd<((3:Nat):Int);omega)) (ei 2 (ai hk0 ?_))
   refine ei _ (ai (arE) (ei ((c,i)) (ei [3] (ai (a4 (ai (fun _=>Or.inl rfl) (ai nof (Or.inl rfl)))) (ai (by exact (ai (ai rfl rfl) rfl)) (ai (by exact (ai rfl (ai rfl (ai (ai rfl (fun _ _=>rfl)) (ai (ai rfl (fun _ _=>rfl)) (ai (ai rfl (fun _ _=>rfl)) (ai (ai rfl (fun _ _=>rfl)) (ai trivial (ai trivial (ai trivial trivial)))))))))) (ai (⟨g5,by show c.sgs.length≤1000000;omega⟩) ?_)))))))
   have s1:aU c i=uf c i:=by rw[hsk];rw[if_neg (by omega),if_neg (by omega)]
   refine aW (p:=aU c i=0) (by exact bn (by rw[s1])) (fun g6=>?_) (fun g6=>?_)
   ·have e:bH c=uf c i:=by rw[hE g6,s1]
    refine eN (iP (bH c)) ?_
    rw[e]
    exact rfl
   refine nX (i) (ai (ai (fun _=>rfl) (aG (by omega))) rfl) (ai (ai rfl (ai ?_ ?_)) trivial) ?_
   ·rw[hnL]
   ·rw[hnL];exact fun _=>rfl
   intro j hj
   by_cases e:j=i
   ·rw[e];exact g6
   ·exact hall2 j (by omega)
 have hI:i=c.sgs.length:=by omega
 have n4:¬¬dB (aU c) c.sgs.length=0:=fun h=>h (gU (by rw[←hI];exact hall2))
 have hC:bH c=pW c:=by unfold bH;rw[if_neg n1,if_neg n2,if_neg n3,if_neg n4]
 clear hnl g5
 refine bN ((c.pl.length:Int)=c.act) (fun p1=>?_) fun p1=>?_
 ·have e:bH c=8:=by rw[hC];unfold pW;rw[if_pos (fun h=>p1 h.1)]
  refine eN (iP (bH c)) ?_
  rw[e]
  exact rfl
 refine bN ((c.mi.length:Int)=c.act) (fun p2=>?_) fun p2=>?_
 ·have e:bH c=8:=by rw[hC];unfold pW;rw[if_pos (fun h=>p2 h.2)]
  refine eN (iP (bH c)) ?_
  rw[e]
  exact rfl
 refine cK (anY) ((c.pl,c.mi)) (by exact (ai rfl (fun _ _=>rfl))) (⟨by show 0<c.pl.length+c.mi.length;omega,by show c.pl.length≤100000;omega,by show c.mi.length≤100000;omega⟩) ?_
 refine ei _ (ai (as8) (ei ((c,c.pl++c.mi)) (ei [1] (ai (a4 (ai (fun _=>Or.inl rfl) (ai nof (Or.inl rfl)))) (ai (by exact (ai (ai rfl (fun _ _=>rfl)) (ai rfl (ai rfl rfl)))) (ai (by exact (ai rfl (ai rfl (ai (ai rfl (fun _ _=>rfl)) (ai (ai rfl (fun _ _=>rfl)) (ai (ai rfl (fun _ _=>rfl)) (ai rfl (fun _ _=>rfl)))))))) (ai (⟨hs0,by show (c.pl++c.mi).length≤1000000;rw[aaJ];omega⟩) ?_)))))))
 have ho2:(c.pl++c.mi).any (lK c)=(abC c c.pl||abC c c.mi):=axW
 refine aC (b:=(c.pl++c.mi).any (lK c)) rfl (fun p3=>?_) (fun p3=>?_)
 ·have e:bH c=6:=by rw[hC];unfold pW;rw[if_neg (fun h=>h ⟨p1,p2⟩),if_pos (by rw[←ho2];exact p3)]
  refine eN (iP (bH c)) ?_
  rw[e]
  exact rfl
 have e:bH c=0:=by rw[hC];unfold pW;rw[if_neg (fun h=>h ⟨p1,p2⟩),if_neg (by rw[←ho2,p3];decide)]
 refine eN (iP (bH c)) ?_
 rw[e]
 exact rfl
theorem aaK:av Tryz.prog 75 (bC (fun a:bI×dw=>[sH a.1,kE a.2]) (fun a=>ae5 a.1∧aaM a.2) (fun a=>iP (mW a.1 a.2))):=by
 refine vF Tryz.func75 ?_
 rintro ⟨c,s⟩ hpre
 obtain ⟨hc,hs⟩:=hpre
 refine cK (adW) (c) (by exact (ai rfl (ai (ai rfl (fun _ _=>rfl)) (ai (ai rfl (fun _ _=>rfl)) (ai (ai rfl (fun _ _=>rfl)) (ai rfl (fun _ _=>rfl))))))) (hc) ?_
 refine bN (bH c=0) (fun h1=>?_) fun h1=>?_
 ·refine eN (iP (mW c s)) ?_
  rw[mW,if_pos h1]
  exact rfl
 refine cK (aqN) ((c,s)) (by exact (ai (ai rfl (ai (ai rfl (fun _ _=>rfl)) (ai (ai rfl (fun _ _=>rfl)) (ai (ai rfl (fun _ _=>rfl)) (ai rfl (fun _ _=>rfl)))))) (ai (ai rfl (fun _ _=>rfl)) (ai (ai rfl (fun _ _=>rfl)) (ai (ai rfl (fun _ _=>rfl)) (ai (ai rfl (fun _ _=>rfl)) (ai rfl (fun _ _=>rfl)))))))) (hs) ?_
 refine eN (iP (mW c s)) ?_
 rw[mW,if_neg (fun h=>h h1)]
 exact rfl
theorem ahL {c:bI} {s:dw} (h:mW c s=0):bH c=0∧oH c s:=by
 unfold mW at h
 split at h
 ·rename_i h1;exact absurd h h1
 rename_i h1
 refine ⟨alF.1 h1,?_⟩
 unfold eZ at h
 split at h
 ·cases h
 ·rename_i h2;exact alF.1 h2
theorem ade {c:bI} {s:dw} (h:oH c s):((dn s).length:Int)=dG c:=by
 obtain ⟨h1,h2,h3,h4,h5⟩:=h
 unfold dn dG
 rw[aaJ,aaJ,uM]
 omega
def auv (a:bI×dw×Nat):Prop:=ae5 a.1∧aaM a.2.1∧acC a.2.1∧mW a.1 a.2.1=0∧(a.2.2:Int)<dG a.1
theorem aip {c:bI} (h:bH c=0):(1≤c.act∧c.act≤6)∧c.ins.length≤16∧c.sgs.length≤64:=by
 unfold bH at h
 split at h
 ·cases h
 split at h
 ·cases h
 omega
theorem ajJ {c:bI} (h:bH c=0):lu c:=by
 have:=aip h
 exact ⟨⟨by omega,by omega⟩,by omega,by omega⟩
theorem aoi:av Tryz.prog 40 (bC (fun a:bI×dw×Nat=>[sH a.1,kE a.2.1,iA a.2.2]) auv (fun a=>.tup [bP ((dn a.2.1).getD a.2.2 false),iP 0])):=by
 refine vF Tryz.func40 ?_
 rintro ⟨c,s,n⟩ hpre
 obtain ⟨hc,hs,hm,hr,hn⟩:=hpre
 have hr:mW c s=0:=hr
 have hn:(n:Int)<dG c:=hn
 obtain ⟨h0,hsh⟩:=ahL hr
 have hl:=ade hsh
 refine cK (aaK) ((c,s)) (by exact (ai (ai rfl (ai (ai rfl (fun _ _=>rfl)) (ai (ai rfl (fun _ _=>rfl)) (ai (ai rfl (fun _ _=>rfl)) (ai rfl (fun _ _=>rfl)))))) (ai (ai rfl (fun _ _=>rfl)) (ai (ai rfl (fun _ _=>rfl)) (ai (ai rfl (fun _ _=>rfl)) (ai (ai rfl (fun _ _=>rfl)) (ai rfl (fun _ _=>rfl)))))))) (⟨hc,hs⟩) ?_
 refine aW (p:=mW c s=0) (bn (by dsimp only;omega)) (fun h1=>?_) (fun h1=>?_)
 ·exact absurd hr h1
 refine cK (aaE) (c) (by exact (ai rfl (ai (ai rfl (fun _ _=>rfl)) (ai (ai rfl (fun _ _=>rfl)) (ai (ai rfl (fun _ _=>rfl)) (ai rfl (fun _ _=>rfl))))))) (ajJ h0) ?_
 refine ah (p:=dG c≤(n:Int)) (fH Iff.rfl) (fun h3=>?_) (fun h3=>?_)
 ·omega
 refine cK (anz) (s) (by exact (ai (ai rfl (fun _ _=>rfl)) (ai (ai rfl (fun _ _=>rfl)) (ai (ai rfl (fun _ _=>rfl)) (ai (ai rfl (fun _ _=>rfl)) (ai rfl (fun _ _=>rfl))))))) (hm) ?_
 refine iX (n) ((dn s).length) ?_
 refine eN _ ?_
 exact (ai rfl rfl)
theorem abO {m:Nat}:∀{l:List Ex},(∀x∈l,x.size≤m)→sizes l≤m*l.length
 | [],_=>by rw[sizes];simp
 | x :: l,h=>by
  have h1:=h x (auQ ..)
  have h2:=abO fun y hy=>h y (asb _ hy)
  rw[sizes,arJ,Nat.mul_add];omega
theorem atb {n:Nat} (hn:n≤24) {l:List Int} (h:jM n l=0):l.length≤24:=by
 unfold jM at h
 split at h
 ·cases h
 ·have hp:=qj h
  have key:∀k,k<l.length→(k:Int)≤l.getD k 0∧l.getD k 0<(n:Int):=by
   intro k
   induction k with
   | zero=>
    intro hk
    have:=hp 0 hk
    unfold qN at this
    split at this
    ·cases this
    ·omega
   | succ k ih=>
    intro hk
    have h1:=ih (by omega)
    have:=hp (k+1) hk
    unfold qN at this
    split at this
    ·cases this
    ·split at this
     ·cases this
     ·rename_i h2 h3
      rw[Nat.add_sub_cancel] at h3
      omega
  rcases auo l.length with h0 | h0
  ·omega
  ·have:=key (l.length-1) (by omega)
   omega
theorem aut {c:aB} (h:jP c) {i:Nat} (hi:i<c.trs.length):(fu c i).length≤24:=by
 obtain ⟨_,_,h3,_,_,h6⟩:=mG h.1
 have h:=h6 i hi
 unfold kP at h
 split at h
 ·rename_i h1;exact absurd h h1
 rename_i h1
 exact atb h3.2 (alF.1 h1)
theorem ah6 (x:Ex):(mP x).size=x.size+1:=by show (Ex.node 2 0 [x]).size=_;rw[Ex.size,sizes,sizes]
theorem atI {c:aB} (h:jP c) {i:Nat} (hi:i<c.trs.length):(dI (relE c) (sG c i)).size≤768:=by
 obtain ⟨_,_,h3⟩:=tC h.1 hi
 obtain ⟨_,⟨hs,_⟩,_⟩:=gN.1 h3
 have hs:(sG c i).size≤256:=hs
 have:=ac1 (fun y hy=>(abW h y hy).2) (sG c i)
 omega
theorem aoW {c:aB} (h:jP c) {i:Nat} (hi:i<c.trs.length):(nu c i).size≤1000:=by
 obtain ⟨_,_,hs24,ht32⟩:=dA h
 have h1:=aut h hi
 have h2:=atI h hi
 have h3:=acz c i i
 have h4:sizes (p8 c i (fu c i).length)≤1*(p8 c i (fu c i).length).length:=abO fun x hx=>by
  unfold p8 at hx
  obtain ⟨f,_,rfl⟩:=auA.1 hx
  rw[jS];omega
 have h5:∀k,∀x∈abZ c i k,x.size≤2:=by
  intro k
  induction k with
  | zero=>intro x hx;cases hx
  | succ k ih=>
   intro x hx
   rw[abZ] at hx
   split at hx
   ·rcases acT.1 hx with hx | hx
    ·exact ih x hx
    ·simp only[aes] at hx;subst hx;rw[ah6,jS];omega
   ·exact ih x hx
 have h6:=abO (h5 i)
 rw[wz (acM _)] at h4
 show (Ex.node 3 0 (kF c i i)).size≤1000
 rw[Ex.size]
 unfold kF akO
 rw[rM,rM,sizes,sizes]
 omega
theorem acJ (l:List Int):(aF l).size≤l.length+1:=by
 unfold aF
 split
 ·rw[Ex.size,sizes];omega
 ·split
  ·rw[jS];omega
  ·rw[Ex.size]
   have:=abO (m:=1) (l:=l.map fV) fun x hx=>by
    obtain ⟨f,_,rfl⟩:=auA.1 hx
    rw[jS];omega
   rw[ai1] at this
   omega
theorem agD:zX.size=1:=by show (Ex.node 0 0 []).size=1;rw[Ex.size,sizes]
def ahd (x:tN):Prop:=x.on.size≤1000∧x.off.size≤1000∧x.nm.length≤10
theorem anW {c:aB} (h:jP c):∀x∈(dH c).sgs,ahd x:=by
 obtain ⟨_,_,hs24,ht32⟩:=dA h
 have hon:∀k,(bQ c k).length≤32:=fun k=>akF (lQ c _ _ _) ht32
 have hof:∀k,(dh c k).length≤32:=fun k=>akF (lQ c _ _ _) ht32
 have hac:∀x,(dZ c x c.sts.length).length≤24:=fun x=>akF (uq c x _) hs24
 have hd:∀k,k<1000→(dec k).length≤3:=adF
 have hM:∀x∈fB c c.sts.length,ahd x:=fun x hx=>by
  unfold fB at hx
  obtain ⟨k,hk,rfl⟩:=auA.1 hx
  have hk:=auJ.1 hk
  have h1:=acJ (bQ c k)
  have h2:=acJ (dh c k)
  have h3:=hon k
  have h4:=hof k
  have h5:=hd k (by omega)
  refine ⟨by show (aF (bQ c k)).size≤1000;omega,?_,by show (dec k).length+1≤10;omega⟩
  show (qH c k).size≤1000
  unfold qH
  split
  ·rw[acY,ah6];omega
  ·omega
 have hT:∀k,k≤c.sts.length→∀x∈dD c k,ahd x:=by
  intro k
  induction k with
  | zero=>exact fun _=>hM
  | succ k ih=>
   intro hk x hx
   rw[dD] at hx
   split at hx
   ·rcases acT.1 hx with hx | hx
    ·exact ih (by omega) x hx
    ·simp only[aes] at hx;subst hx
     have h5:=hd k (by omega)
     exact ⟨by show (fV _).size≤1000;rw[jS];omega,by show zX.size≤1000;rw[agD];omega,by show (dec k).length+1≤10;omega⟩
   ·exact ih (by omega) x hx
 have hG:∀x∈gH c c.trs.length,ahd x:=fun x hx=>by
  unfold gH at hx
  rcases acT.1 hx with hx | hx
  ·exact hT _ (acM _) x hx
  ·obtain ⟨k,hk,rfl⟩:=auA.1 hx
   have hk:=auJ.1 hk
   have h5:=hd k (by omega)
   exact ⟨aoW h hk,by show zX.size≤1000;rw[agD];omega,by show (dec k).length+1≤10;omega⟩
 have hP:∀a x o,x=pJ c a o→ahd x:=fun a x o hx=>by
  subst hx
  have h1:=acJ (dZ c ((a:Int),o) c.sts.length)
  have h2:=hac ((a:Int),o)
  exact ⟨by show (aF (dZ c ((a:Int),o) c.sts.length)).size≤1000;omega,by show zX.size≤1000;rw[agD];omega,by show 2≤10;omega⟩
 have hA:∀a,∀x∈aX c a,ahd x:=by
  intro a
  induction a with
  | zero=>exact hG
  | succ a ih=>
   intro x hx
   rw[aX] at hx
   rcases acT.1 hx with hx | hx
   ·rcases acT.1 hx with hx | hx
    ·exact ih x hx
    ·simp only[aes] at hx;exact hP a x true hx
   ·simp only[aes] at hx;exact hP a x false hx
 exact hA _
theorem ati {c:aB} (h:jP c):∀x∈c.ins,x.length≤1000000:=fun x hx=>by
 obtain ⟨_,h2,_⟩:=mG h.1
 unfold fE at h2
 split at h2
 ·cases h2
 obtain ⟨k,hk,rfl⟩:=arM hx
 have h3:=qj h2 k hk
 unfold xW at h3
 split at h3
 ·rename_i h4;exact absurd h3 h4
 rename_i h4
 have h4:fI (c.ins.getD k [])=0:=alF.1 h4
 rw[show c.ins.getD k []=c.ins[k] by rw[aaG,aaX hk];rfl] at h4
 unfold fI at h4
 split at h4
 ·cases h4
 ·omega
theorem vM {c:aB} (h:jP c):ae5 (dH c):=by
 obtain ⟨⟨ha1,ha6⟩,hi16,hs24,ht32⟩:=dA h
 have hs:=anW h
 have hp:=jq c c.act.toNat
 have hg:=jw c c.trs.length
 have ht:=lq c c.sts.length
 refine ⟨⟨fun x hx=>⟨by have:=(hs x hx).1;omega,by have:=(hs x hx).2.1;omega⟩,?_,?_⟩,⟨?_,?_⟩,ati h,fun x hx=>by have:=(hs x hx).2.2;omega⟩
 ·show (fq c c.act.toNat).length≤1000000
  rw[lI];omega
 ·show (kC c c.act.toNat).length≤1000000
  rw[o7];omega
 ·show c.ins.length≤1000000
  omega
 ·show (aX c c.act.toNat).length≤1000000
  omega
theorem ajF (c:aB):∀a,∃t,aX c a=gH c c.trs.length++t
 | 0=>⟨[],(arR _).symm⟩
 | a+1=>by
  obtain ⟨t,ht⟩:=ajF c a
  exact ⟨(t++[pJ c a true])++[pJ c a false],by rw[aX,ht,ava,ava,ava]⟩
theorem xC {α:Type} {l m:List α} {k:Nat} {d:α} (h:k<l.length):(l++m).getD k d=l.getD k d:=by
 rw[aaG,aaG,aoj h]
theorem afr {α:Type} {l m:List α} {k n:Nat} {d:α} (h:l.length=n):(l++m).getD (n+k) d=m.getD k d:=by
 rw[aaG,aaG,ahS (by omega),h,awD]
theorem afx {α:Type} {f:Nat→α} {n k:Nat} {d:α} (h:k<n):((List.range n).map f).getD k d=f k:=by
 rw[aaG,alW,axy h];rfl
def ag2 (c:aB) (i:Nat):Nat:=(c.sts.length+fK c c.sts.length)+i
theorem aqZ {c:aB} {i:Nat} (hi:i<c.trs.length):(dH c).sgs.getD (ag2 c i) ak=arn c i:=by
 obtain ⟨t,ht⟩:=ajF c c.act.toNat
 show (aX c c.act.toNat).getD (ag2 c i) ak=_
 have hg:=jw c c.trs.length
 rw[ht,xC (by unfold ag2;omega)]
 unfold gH ag2
 rw[afr (qW c _),afx hi]
theorem asr {c:aB} {i:Nat} (hi:i<c.trs.length):ag2 c i<(dH c).sgs.length:=by
 have hp:=jq c c.act.toNat
 have hg:=jw c c.trs.length
 show _<(aX c c.act.toNat).length
 unfold ag2;omega
theorem aqR {c:bI} (h:bH c=0):(∀k,k<c.ins.length→kZ c (2*c.act.toNat+k)=0)∧(∀i,i<c.sgs.length→aU c i=0)∧pW c=0:=by
 unfold bH at h
 split at h
 ·cases h
 split at h
 ·cases h
 split at h
 ·rename_i h1;exact absurd h h1
 rename_i h3
 split at h
 ·rename_i h1;exact absurd h h1
 rename_i h4
 exact ⟨fun k hk=>qj (f:=fun i=>kZ c (2*c.act.toNat+i)) (alF.1 h3) k hk,qj (alF.1 h4),h⟩
theorem avG {c:bI} {i:Nat} (h:aU c i=0):bg (c.sgs.getD i ak).on (dG c)=0∧(0≤(c.sgs.getD i ak).kd∧(c.sgs.getD i ak).kd<3)∧kZ c (2*c.act.toNat+c.ins.length+i)=0:=by
 unfold aU at h
 split at h
 ·rename_i h1;exact absurd h h1
 rename_i h1
 split at h
 ·cases h
 split at h
 ·rename_i h2;exact absurd h h2
 rename_i h2 h3
 exact ⟨alF.1 h3,by omega,alF.1 h1⟩
theorem aoS {c:aB} (h:bH (dH c)=0) {i:Nat} (hi:i<c.trs.length):ae1 c i=true:=by
 have h1:=(aqR h).2.1 _ (asr hi)
 have h2:=(avG h1).1
 rw[aqZ hi] at h2
 obtain ⟨_,⟨hs,hd⟩,_⟩:=gN.1 h2
 have hs:(nu c i).size≤256:=hs
 have hd:(nu c i).deep≤16:=hd
 have hm:dI (relE c) (sG c i)∈(nu c i).args:=by
  show _∈kF c i i
  unfold kF akO
  exact axV _ (axO _ (aes.2 rfl))
 have q1:=jy hm
 have q2:=ab1 hm
 rw[Ex.size_eq] at hs
 rw[Ex.y7] at hd
 exact nN.2 ⟨by omega,by omega⟩
def cu (c:aB):Int:=if ¬bV c=0 then bV c else if ¬bH (dH c)=0 then 12 else 0
theorem mo {c:aB}:cu c=0↔bV c=0∧bH (dH c)=0:=by
 unfold cu
 constructor
 ·intro h
  split at h
  ·rename_i h1;exact absurd h h1
  ·rename_i h1
   split at h
   ·cases h
   ·rename_i h2;exact ⟨alF.1 h1,alF.1 h2⟩
 ·rintro ⟨h1,h2⟩
  rw[if_neg (fun h=>h h1),if_neg (fun h=>h h2)]
theorem aqe:av Tryz.prog 29 (bC (fun c:aB=>[iG c]) jr (fun c=>iP (cu c))):=by
 refine vF Tryz.func29 ?_
 rintro (c:aB) hpre
 have ho:jr c:=hpre
 refine cK (agV) (c) (by exact (ai rfl (ai (ai rfl (fun _ _=>rfl)) (ai (ai rfl (fun _ _=>rfl)) (ai rfl (fun _ _=>rfl)))))) (ho) ?_
 refine bN (bV c=0) (fun h1=>?_) fun h1=>?_
 ·refine eN (iP (cu c)) ?_
  rw[cu,if_pos h1]
  exact rfl
 refine cK (xD) (c) (by exact (ai rfl (ai (ai rfl (fun _ _=>rfl)) (ai (ai rfl (fun _ _=>rfl)) (ai rfl (fun _ _=>rfl)))))) (⟨h1,ho⟩) ?_
 refine cK (als) (dH c) (by exact (ai rfl (ai (ai rfl (fun _ _=>rfl)) (ai (ai rfl (fun _ _=>rfl)) (ai (ai rfl (fun _ _=>rfl)) (ai rfl (fun _ _=>rfl))))))) (vM ⟨h1,ho⟩) ?_
 refine bN (bH (dH c)=0) (fun h2=>?_) fun h2=>?_
 ·refine eN (iP (cu c)) ?_
  rw[cu,if_neg (fun h=>h h1),if_pos h2]
  exact rfl
 ·refine eN (iP (cu c)) ?_
  rw[cu,if_neg (fun h=>h h1),if_neg (fun h=>h h2)]
  exact rfl
def zC:bI:=⟨0,[],[],[],[]⟩
def ajf (c:aB):bI:=if cu c=0 then dH c else zC
def ard (c:aB):PV:=.tup [ctP (ajf c),iP (cu c)]
def zCP:PV:=.agg [iP 0,.val (.slice none 0 0),.val (.slice none 0 0),.val (.slice none 0 0),.val (.slice none 0 0)]
def vo (c:aB):PV:=if cu c=0 then .tup [ctP (dH c),iP 0] else .tup [zCP,iP (cu c)]
theorem asa:gB zCP (ctP zC):=mI (aH (.refl _) (aH (.nil _) (aH (.nil _) (aH (.nil _) (oC (.nil _))))))
theorem avw (c:aB):gB (vo c) (ard c):=by
 unfold vo ard ajf
 split
 ·rename_i h;rw[h];exact .refl _
 ·exact wC (aH asa (oC (.refl _)))
def at1 (b:Int) (l:List Int):List Int:=if b=0 then l else []
def ahb (e:Int) (l:List Int):PV:=.tup [fT (at1 e l),iP e]
def lT (e:Int) (l:List Int):PV:=if e=0 then .tup [fT l,iP 0] else .tup [.val (.slice none 0 0),iP e]
theorem apB (e:Int) (l:List Int):gB (lT e l) (ahb e l):=by
 unfold lT ahb at1
 split
 ·rename_i h;rw[h];exact .refl _
 ·exact wC (aH (.nil _) (oC (.refl _)))
def bR (c:aB) (s:dw):Int:=if ¬cu c=0 then cu c else mW (dH c) s
theorem akz:av Tryz.prog 64 (bC (fun a:aB×dw=>[iG a.1,kE a.2]) (fun a=>jr a.1∧aaM a.2) (fun a=>iP (bR a.1 a.2))):=by
 refine vF Tryz.func64 ?_
 rintro ⟨c,s⟩ hpre
 obtain ⟨ho,hs⟩:=hpre
 refine cK (aqe) (c) (by exact (ai rfl (ai (ai rfl (fun _ _=>rfl)) (ai (ai rfl (fun _ _=>rfl)) (ai rfl (fun _ _=>rfl)))))) (ho) ?_
 refine bN (cu c=0) (fun h1=>?_) fun h1=>?_
 ·refine eN (iP (bR c s)) ?_
  rw[bR,if_pos h1]
  exact rfl
 have hc:jP c:=⟨(mo.1 h1).1,ho⟩
 refine dR (.seq [0,2,1,3,4]) ?_
 refine cK (xD) (c) (by exact (ai rfl (ai (ai rfl (fun _ _=>rfl)) (ai (ai rfl (fun _ _=>rfl)) (ai rfl (fun _ _=>rfl)))))) (hc) ?_
 refine cK (aos) ((dH c,s)) (by exact (ai (ai rfl (ai (ai rfl (fun _ _=>rfl)) (ai (ai rfl (fun _ _=>rfl)) (ai (ai rfl (fun _ _=>rfl)) (ai rfl (fun _ _=>rfl)))))) (ai (ai rfl (fun _ _=>rfl)) (ai (ai rfl (fun _ _=>rfl)) (ai (ai rfl (fun _ _=>rfl)) (ai (ai rfl (fun _ _=>rfl)) (ai rfl (fun _ _=>rfl)))))))) (⟨vM hc,hs⟩) ?_
 refine eN (iP (bR c s)) ?_
 rw[bR,if_neg (fun h=>h h1)]
 exact rfl
def uG (a:aB×dw):Prop:=jP a.1∧mW (dH a.1) a.2=0∧acC a.2
theorem mq {c:aB} {s:dw} (h:uG (c,s)):(s.en.length:Int)=c.act∧s.inp.length=c.ins.length∧s.vl.length=(dH c).sgs.length∧((dn s).length:Int)=dG (dH c)∧c.sts.length≤s.vl.length:=by
 obtain ⟨hc,hr,_⟩:=h
 obtain ⟨h0,hsh⟩:=ahL hr
 have hl:=ade hsh
 obtain ⟨h1,h2,h3,h4,h5⟩:=hsh
 refine ⟨h1,h3,h4,hl,?_⟩
 have hp:=jq c c.act.toNat
 have hg:=jw c c.trs.length
 have h4:s.vl.length=(aX c c.act.toNat).length:=h4
 omega
theorem kY (l:List Bool) (x:Bool):∀k,k<l.length+1→aY l.length (fun k=>[bP (l.getD k false)]) (aT 1 [bP x]) k=[bP ((l++[x]).getD k false)]:=fun k hk=>
 qB (a:=l) (b:=[x]) rfl (fun _ _=>rfl) (lt1 rfl) k (by rw[aaJ];exact hk)
theorem qo {α:Type} (f:Nat→α) (k:Nat):(List.range (k+1)).map f=(List.range k).map f++[f k]:=by rw[avy,apk];rfl
theorem fJ {α:Type} (f:Nat→α) (k:Nat):((List.range k).map f).length=k:=by rw[ai1,auf]
def gV (c:aB) (s:dw):List Bool:=s.vl.take c.sts.length
theorem aoh:av Tryz.prog 71 (bC (fun a:aB×dw=>[iG a.1,kE a.2]) uG (fun a=>iR (gV a.1 a.2))):=by
 refine vF Tryz.func71 ?_
 rintro ⟨c,s⟩ hpre
 have hr:uG (c,s):=hpre
 obtain ⟨_,_,_,_,h5⟩:=mq hr
 have hm:=hr.2.2.2.2
 have hm:s.vl.length≤100000:=hm
 have hl:(gV c s).length=c.sts.length:=by unfold gV;rw[al5];omega
 refine ai (ai (awF _) (ai (abw _) (by show ((c.sts.length:Nat):Int)≤((s.vl.length:Nat):Int);omega))) ?_
 refine ai (fun _ _=>rfl) ?_
 refine ai (mxL (n:=0+(c.sts.length-0)) (by omega) (by decide)) (ai (fun _ _=>rfl) ?_)
 have key:∀k,k<0+(c.sts.length-0)→∀g,aY 0 g (fun k=>[bP (s.vl.getD (0+k) false)]) k=[bP ((gV c s).getD k false)]:=fun k hk g=>by
  unfold aY
  rw[if_neg (aeH _),auq]
  show [bP (s.vl.getD (0+k) false)]=_
  rw[ahv]
  unfold gV
  rw[aaG,aaG,ar8,if_pos (by omega)]
 refine ai (ai (fun _ k hk=>by show iq (aY 0 (aT 1 []) (fun k=>[bP (s.vl.getD (0+k) false)]) k)=true;rw[key k hk];rfl) ?_) trivial
 refine (ai ?_ ?_)
 ·show 0+(c.sts.length-0)=(gV c s).length
  omega
 ·exact fun k hk=>key k hk _
def lU (c:aB) (s:dw) (k:Nat):Bool:=if (c.sts.getD k st0).wt=0 then true else (dn s).getD (sI c k).toNat false
def jX (c:aB) (s:dw):List Bool:=(List.range c.sts.length).map (lU c s)
theorem ap0:av Tryz.prog 73 (bC (fun a:aB×dw=>[iG a.1,kE a.2]) uG (fun a=>iR (jX a.1 a.2))):=by
 refine vF Tryz.func73 ?_
 rintro ⟨c,s⟩ hpre
 have hr:uG (c,s):=hpre
 obtain ⟨h1,_,_,hl,_⟩:=mq hr
 obtain ⟨hc,hrg,hm⟩:=hr
 have hc:jP c:=hc
 have hs:=iJ hc.1
 obtain ⟨⟨ha1,ha6⟩,hi16,hs24,ht32⟩:=dA hc
 have hb:aJ c=2*c.act+c.ins.length:=rfl
 have hln:dG (dH c)=aJ c+(dH c).sgs.length:=rfl
 have hp:=jq c c.act.toNat
 have hg:=jw c c.trs.length
 have hsg:(dH c).sgs.length=(aX c c.act.toNat).length:=rfl
 have hcl:=p9 c c.sts.length
 refine dR (.seq [0,2,1,3,4]) ?_
 refine cK (xD) (c) (by exact (ai rfl (ai (ai rfl (fun _ _=>rfl)) (ai (ai rfl (fun _ _=>rfl)) (ai rfl (fun _ _=>rfl)))))) (hc) ?_
 refine cK (yw) ((dH c,s)) (by exact (ai (ai rfl (ai (ai rfl (fun _ _=>rfl)) (ai (ai rfl (fun _ _=>rfl)) (ai (ai rfl (fun _ _=>rfl)) (ai rfl (fun _ _=>rfl)))))) (ai (ai rfl (fun _ _=>rfl)) (ai (ai rfl (fun _ _=>rfl)) (ai (ai rfl (fun _ _=>rfl)) (ai (ai rfl (fun _ _=>rfl)) (ai rfl (fun _ _=>rfl)))))))) (⟨hm,h1⟩) ?_
 refine cK (af5) (c) (by exact (ai rfl (ai (ai rfl (fun _ _=>rfl)) (ai (ai rfl (fun _ _=>rfl)) (ai rfl (fun _ _=>rfl)))))) (al6 hc) ?_
 refine fR (c.sts.length) (fun k=>[(8,.s (iA k)),(7,vP ((List.range k).map (lU c s)))]) (fun k=>[]) (fun k=>True) ?_ ?_ ?_ ?_
 ·exact (ai (ai (ai (fun _=>rfl) (iE (by omega))) rfl) rfl)
 ·exact trivial
 ·trivial
 intro (k:Nat) ⟨hk,_⟩
 have hlk:=fJ (lU c s) k
 refine ah (p:=k<c.sts.length) (aA (by dsimp only;omega)) (fun g=>?_) (fun g=>?_)
 ·have hck:=vW c c.sts.length k g
  have htk:=lq c k
  have hti:fK c k≤fK c c.sts.length:=by
   have:∀d,fK c k≤fK c (k+d):=fun d=>by
    induction d with
    | zero=>exact acM _
    | succ d ih=>rw[←axA,fK];split<;>omega
   have:=this (c.sts.length-k)
   rwa [show k+(c.sts.length-k)=c.sts.length by omega] at this
  refine iX (k) ((bZ c c.sts.length).length) ?_
  refine ah (p:=(c.sts.getD k st0).wt=0) (by exact sW (by show (bZ c c.sts.length).getD k 0=-1099511627776↔_;rw[hck];exact xq hs)) (fun g3=>?_) (fun g3=>?_)
  ·refine ai (mxL (n:=((List.range k).map (lU c s)).length+1) (by omega) (by decide)) (ai (dW 1 rfl) ?_)
   refine nX (k) (ai (ai (ai (fun _=>rfl) (aG (by omega))) rfl) (ai rfl (ai rfl (ai ?_ ?_)))) trivial trivial
   ·rw[fJ,fJ]
   ·rw[qo,show lU c s k=true by unfold lU;rw[if_pos g3]];exact kY _ _
  ·have hcv:sI c k=aJ c+c.sts.length+fK c k:=if_neg g3
   have hmx:(if (bZ c c.sts.length).getD k 0>0 then (bZ c c.sts.length).getD k 0 else 0)=sI c k:=by rw[hck,if_pos (by omega)]
   refine iX (k) ((bZ c c.sts.length).length) ?_
   refine ai (ai (by show 0≤(if (bZ c c.sts.length).getD k 0>0 then (bZ c c.sts.length).getD k 0 else 0);rw[hmx];omega) (by show (if (bZ c c.sts.length).getD k 0>0 then (bZ c c.sts.length).getD k 0 else 0)<(((dn s).length:Nat):Int);rw[hmx];omega)) ?_
   refine ai rfl ?_
   refine ai (mxL (n:=((List.range k).map (lU c s)).length+1) (by omega) (by decide)) (ai (dW 1 rfl) ?_)
   refine nX (k) (ai (ai (ai (fun _=>rfl) (aG (by omega))) rfl) (ai rfl (ai rfl (ai ?_ ?_)))) trivial trivial
   ·rw[fJ,fJ]
   ·rw[qo,show lU c s k=((dn s).getD (if (bZ c c.sts.length).getD k 0>0 then (bZ c c.sts.length).getD k 0 else 0).toNat false) by rw[hmx];unfold lU;rw[if_neg g3]];exact kY _ _
 ·have ek:k=c.sts.length:=by omega
  refine eN (iR (jX c s)) ?_
  rw[show jX c s=(List.range k).map (lU c s) by rw[ek];rfl]
  exact (ai rfl (fun _ _=>rfl))
def pY (c:aB) (s:dw):List Bool:=(dn s).take (aJ c).toNat
def jY (a d:List Bool) (k:Nat):Bool:=a.getD k false&&d.getD k false
def fG (c:aB) (s:dw) (a d:List Bool) (k:Nat):List Bool:=pY c s++(List.range k).map (jY a d)
def iW (c:aB) (s:dw) (a d:List Bool):List Bool:=fG c s a d c.sts.length
theorem nR (c:aB) (s:dw) (a d:List Bool) (k:Nat):fG c s a d (k+1)=fG c s a d k++[jY a d k]:=by unfold fG;rw[qo,ava]
theorem zx {c:aB} {s:dw} (h:uG (c,s)):(pY c s).length=(aJ c).toNat:=by
 obtain ⟨_,_,_,hl,_⟩:=mq h
 obtain ⟨⟨ha1,ha6⟩,hi16,hs24,ht32⟩:=dA h.1
 have hb:aJ c=2*c.act+c.ins.length:=rfl
 have hln:dG (dH c)=aJ c+(dH c).sgs.length:=rfl
 unfold pY;rw[al5];omega
theorem dJ {c:aB} {s:dw} (h:uG (c,s)) (a d:List Bool) (k:Nat):(fG c s a d k).length=(aJ c).toNat+k:=by unfold fG;rw[aaJ,zx h,fJ]
structure SeA where
 c:aB
 s:dw
 a:List Bool
 d:List Bool
def av5 (x:SeA):Prop:=uG (x.c,x.s)∧x.a.length=x.c.sts.length∧x.d.length=x.c.sts.length
set_option maxHeartbeats 4000000 in
theorem ap8:av Tryz.prog 72 (bC (fun x:SeA=>[iG x.c,kE x.s,qh x.a,qh x.d]) av5 (fun x=>iR (iW x.c x.s x.a x.d))):=by
 refine vF Tryz.func72 ?_
 rintro ⟨c,s,a,d⟩ hpre
 obtain ⟨hr,ha,hd⟩:=hpre
 have hr:uG (c,s):=hr
 have ha:a.length=c.sts.length:=ha
 have hd:d.length=c.sts.length:=hd
 have hol:=zx hr
 obtain ⟨h1,_,_,hl,_⟩:=mq hr
 have hc:jP c:=hr.1
 have hs:=iJ hc.1
 obtain ⟨⟨ha1,ha6⟩,hi16,hs24,ht32⟩:=dA hc
 have hb:aJ c=2*c.act+c.ins.length:=rfl
 have hln:dG (dH c)=aJ c+(dH c).sgs.length:=rfl
 refine dR (.one 1 (.one 3 (.one 5 (.alt 0 (.one 2 (.one 4 (.one 6 (.one 7 (.one 8 (.one 9 .done)))))) (.alt 2 (.alt 0 (.one 4 (.one 6 (.one 7 (.one 8 (.one 9 .done))))) (.alt 4 (.alt 0 (.one 6 (.one 7 (.one 8 (.one 9 .done)))) (.alt 6 (.one 7 (.one 0 (.one 8 (.one 9 .done)))) .stop)) .stop)) .stop))))) ?_
 refine ai ?_ (ai ?_ trivial)
 ·refine cK (xD) (c) (by exact (ai rfl (ai (ai rfl (fun _ _=>rfl)) (ai (ai rfl (fun _ _=>rfl)) (ai rfl (fun _ _=>rfl)))))) (hc) ?_
  refine cK (yw) ((dH c,s)) (by exact (ai (ai rfl (ai (ai rfl (fun _ _=>rfl)) (ai (ai rfl (fun _ _=>rfl)) (ai (ai rfl (fun _ _=>rfl)) (ai rfl (fun _ _=>rfl)))))) (ai (ai rfl (fun _ _=>rfl)) (ai (ai rfl (fun _ _=>rfl)) (ai (ai rfl (fun _ _=>rfl)) (ai (ai rfl (fun _ _=>rfl)) (ai rfl (fun _ _=>rfl)))))))) (⟨hr.2.2,h1⟩) ?_
  refine cK (rD) (c) (by exact (ai rfl (ai (ai rfl (fun _ _=>rfl)) (ai (ai rfl (fun _ _=>rfl)) (ai rfl (fun _ _=>rfl)))))) (hs) ?_
  refine ai (ai (awF _) (ai (by show 0≤aJ c;omega) (by show aJ c≤(((dn s).length:Nat):Int);omega))) ?_
  refine ai (fun _ _=>rfl) ?_
  refine ai (mxL (n:=0+((aJ c).toNat-0)) (by omega) (by decide)) (ai (fun _ _=>rfl) ?_)
  refine fR (c.sts.length) (fun k=>[(10,.s (iA k)),(9,vP (fG c s a d k))]) (fun k=>[]) (fun k=>True) ?_ ?_ ?_ ?_
  ·refine (ai (ai (ai (fun _=>rfl) (iE (by omega))) rfl) (ai rfl (ai rfl (ai ?_ ?_))))
   ·show 0+((aJ c).toNat-0)=(fG c s a d 0).length
    rw[dJ hr];omega
   ·intro k hk
    have hk:k<0+((aJ c).toNat-0):=hk
    show aY 0 (aT 1 []) (fun k=>[bP ((dn s).getD (0+k) false)]) k=[bP ((fG c s a d 0).getD k false)]
    unfold aY
    rw[if_neg (aeH _),auq]
    show [bP ((dn s).getD (0+k) false)]=_
    rw[ahv]
    unfold fG pY
    rw[xC (by rw[al5];omega),aaG,aaG,ar8,if_pos (by omega)]
  ·exact trivial
  ·trivial
  intro (k:Nat) ⟨hk,_⟩
  have hlk:=dJ hr a d k
  refine ah (p:=k<c.sts.length) (aA (by dsimp only;omega)) (fun g=>?_) (fun g=>?_)
  ·refine iX (k) (a.length) ?_
   refine aC (b:=a.getD k false) rfl (fun q=>?_) (fun q=>?_)
   ·refine iX (k) (d.length) ?_
    refine ai (mxL (n:=(fG c s a d k).length+1) (by omega) (by decide)) (ai (dW 1 rfl) ?_)
    refine nX (k) (ai (ai (ai (fun _=>rfl) (aG (by omega))) rfl) (ai rfl (ai rfl (ai ?_ ?_)))) trivial trivial
    ·rw[dJ hr,dJ hr];rfl
    ·rw[nR,show jY a d k=d.getD k false by unfold jY;rw[q,aer]];exact kY _ _
   ·refine ai (mxL (n:=(fG c s a d k).length+1) (by omega) (by decide)) (ai (dW 1 rfl) ?_)
    refine nX (k) (ai (ai (ai (fun _=>rfl) (aG (by omega))) rfl) (ai rfl (ai rfl (ai ?_ ?_)))) trivial trivial
    ·rw[dJ hr,dJ hr];rfl
    ·rw[nR,show jY a d k=false by unfold jY;rw[q,apT]];exact kY _ _
  ·have ek:k=c.sts.length:=by omega
   refine eN (iR (iW c s a d)) ?_
   rw[show iW c s a d=fG c s a d k by rw[ek];rfl]
   exact (ai rfl (fun _ _=>rfl))
 ·refine cK (xD) (c) (by exact (ai rfl (ai (ai rfl (fun _ _=>rfl)) (ai (ai rfl (fun _ _=>rfl)) (ai rfl (fun _ _=>rfl)))))) (hc) ?_
  refine ai ?_ (ai ?_ trivial)
  ·refine cK (yw) ((dH c,s)) (by exact (ai (ai rfl (ai (ai rfl (fun _ _=>rfl)) (ai (ai rfl (fun _ _=>rfl)) (ai (ai rfl (fun _ _=>rfl)) (ai rfl (fun _ _=>rfl)))))) (ai (ai rfl (fun _ _=>rfl)) (ai (ai rfl (fun _ _=>rfl)) (ai (ai rfl (fun _ _=>rfl)) (ai (ai rfl (fun _ _=>rfl)) (ai rfl (fun _ _=>rfl)))))))) (⟨hr.2.2,h1⟩) ?_
   refine cK (rD) (c) (by exact (ai rfl (ai (ai rfl (fun _ _=>rfl)) (ai (ai rfl (fun _ _=>rfl)) (ai rfl (fun _ _=>rfl)))))) (hs) ?_
   refine ai (ai (awF _) (ai (by show 0≤aJ c;omega) (by show aJ c≤(((dn s).length:Nat):Int);omega))) ?_
   refine ai (fun _ _=>rfl) ?_
   refine ai (mxL (n:=0+((aJ c).toNat-0)) (by omega) (by decide)) (ai (fun _ _=>rfl) ?_)
   refine fR (c.sts.length) (fun k=>[(10,.s (iA k)),(9,vP (fG c s a d k))]) (fun k=>[]) (fun k=>True) ?_ ?_ ?_ ?_
   ·refine (ai (ai (ai (fun _=>rfl) (iE (by omega))) rfl) (ai rfl (ai rfl (ai ?_ ?_))))
    ·show 0+((aJ c).toNat-0)=(fG c s a d 0).length
     rw[dJ hr];omega
    ·intro k hk
     have hk:k<0+((aJ c).toNat-0):=hk
     show aY 0 (aT 1 []) (fun k=>[bP ((dn s).getD (0+k) false)]) k=[bP ((fG c s a d 0).getD k false)]
     unfold aY
     rw[if_neg (aeH _),auq]
     show [bP ((dn s).getD (0+k) false)]=_
     rw[ahv]
     unfold fG pY
     rw[xC (by rw[al5];omega),aaG,aaG,ar8,if_pos (by omega)]
   ·exact trivial
   ·trivial
   intro (k:Nat) ⟨hk,_⟩
   have hlk:=dJ hr a d k
   refine ah (p:=k<c.sts.length) (aA (by dsimp only;omega)) (fun g=>?_) (fun g=>?_)
   ·refine iX (k) (a.length) ?_
    refine aC (b:=a.getD k false) rfl (fun q=>?_) (fun q=>?_)
    ·refine iX (k) (d.length) ?_
     refine ai (mxL (n:=(fG c s a d k).length+1) (by omega) (by decide)) (ai (dW 1 rfl) ?_)
     refine nX (k) (ai (ai (ai (fun _=>rfl) (aG (by omega))) rfl) (ai rfl (ai rfl (ai ?_ ?_)))) trivial trivial
     ·rw[dJ hr,dJ hr];rfl
     ·rw[nR,show jY a d k=d.getD k false by unfold jY;rw[q,aer]];exact kY _ _
    ·refine ai (mxL (n:=(fG c s a d k).length+1) (by omega) (by decide)) (ai (dW 1 rfl) ?_)
     refine nX (k) (ai (ai (ai (fun _=>rfl) (aG (by omega))) rfl) (ai rfl (ai rfl (ai ?_ ?_)))) trivial trivial
     ·rw[dJ hr,dJ hr];rfl
     ·rw[nR,show jY a d k=false by unfold jY;rw[q,apT]];exact kY _ _
   ·have ek:k=c.sts.length:=by omega
    refine eN (iR (iW c s a d)) ?_
    rw[show iW c s a d=fG c s a d k by rw[ek];rfl]
    exact (ai rfl (fun _ _=>rfl))
  ·refine cK (yw) ((dH c,s)) (by exact (ai (ai rfl (ai (ai rfl (fun _ _=>rfl)) (ai (ai rfl (fun _ _=>rfl)) (ai (ai rfl (fun _ _=>rfl)) (ai rfl (fun _ _=>rfl)))))) (ai (ai rfl (fun _ _=>rfl)) (ai (ai rfl (fun _ _=>rfl)) (ai (ai rfl (fun _ _=>rfl)) (ai (ai rfl (fun _ _=>rfl)) (ai rfl (fun _ _=>rfl)))))))) (⟨hr.2.2,h1⟩) ?_
   refine ai ?_ (ai ?_ trivial)
   ·refine cK (rD) (c) (by exact (ai rfl (ai (ai rfl (fun _ _=>rfl)) (ai (ai rfl (fun _ _=>rfl)) (ai rfl (fun _ _=>rfl)))))) (hs) ?_
    refine ai (ai (awF _) (ai (by show 0≤aJ c;omega) (by show aJ c≤(((dn s).length:Nat):Int);omega))) ?_
    refine ai (fun _ _=>rfl) ?_
    refine ai (mxL (n:=0+((aJ c).toNat-0)) (by omega) (by decide)) (ai (fun _ _=>rfl) ?_)
    refine fR (c.sts.length) (fun k=>[(10,.s (iA k)),(9,vP (fG c s a d k))]) (fun k=>[]) (fun k=>True) ?_ ?_ ?_ ?_
    ·refine (ai (ai (ai (fun _=>rfl) (iE (by omega))) rfl) (ai rfl (ai rfl (ai ?_ ?_))))
     ·show 0+((aJ c).toNat-0)=(fG c s a d 0).length
      rw[dJ hr];omega
     ·intro k hk
      have hk:k<0+((aJ c).toNat-0):=hk
      show aY 0 (aT 1 []) (fun k=>[bP ((dn s).getD (0+k) false)]) k=[bP ((fG c s a d 0).getD k false)]
      unfold aY
      rw[if_neg (aeH _),auq]
      show [bP ((dn s).getD (0+k) false)]=_
      rw[ahv]
      unfold fG pY
      rw[xC (by rw[al5];omega),aaG,aaG,ar8,if_pos (by omega)]
    ·exact trivial
    ·trivial
    intro (k:Nat) ⟨hk,_⟩
    have hlk:=dJ hr a d k
    refine ah (p:=k<c.sts.length) (aA (by dsimp only;omega)) (fun g=>?_) (fun g=>?_)
    ·refine iX (k) (a.length) ?_
     refine aC (b:=a.getD k false) rfl (fun q=>?_) (fun q=>?_)
     ·refine iX (k) (d.length) ?_
      refine ai (mxL (n:=(fG c s a d k).length+1) (by omega) (by decide)) (ai (dW 1 rfl) ?_)
      refine nX (k) (ai (ai (ai (fun _=>rfl) (aG (by omega))) rfl) (ai rfl (ai rfl (ai ?_ ?_)))) trivial trivial
      ·rw[dJ hr,dJ hr];rfl
      ·rw[nR,show jY a d k=d.getD k false by unfold jY;rw[q,aer]];exact kY _ _
     ·refine ai (mxL (n:=(fG c s a d k).length+1) (by omega) (by decide)) (ai (dW 1 rfl) ?_)
      refine nX (k) (ai (ai (ai (fun _=>rfl) (aG (by omega))) rfl) (ai rfl (ai rfl (ai ?_ ?_)))) trivial trivial
      ·rw[dJ hr,dJ hr];rfl
      ·rw[nR,show jY a d k=false by unfold jY;rw[q,apT]];exact kY _ _
    ·have ek:k=c.sts.length:=by omega
     refine eN (iR (iW c s a d)) ?_
     rw[show iW c s a d=fG c s a d k by rw[ek];rfl]
     exact (ai rfl (fun _ _=>rfl))
   ·refine cK (rD) (c) (by exact (ai rfl (ai (ai rfl (fun _ _=>rfl)) (ai (ai rfl (fun _ _=>rfl)) (ai rfl (fun _ _=>rfl)))))) (hs) ?_
    refine ai (ai (awF _) (ai (by show 0≤aJ c;omega) (by show aJ c≤(((dn s).length:Nat):Int);omega))) ?_
    refine ai (fun _ _=>rfl) ?_
    refine ai (mxL (n:=0+((aJ c).toNat-0)) (by omega) (by decide)) (ai (fun _ _=>rfl) ?_)
    refine fR (c.sts.length) (fun k=>[(10,.s (iA k)),(9,vP (fG c s a d k))]) (fun k=>[]) (fun k=>True) ?_ ?_ ?_ ?_
    ·refine (ai (ai (ai (fun _=>rfl) (iE (by omega))) rfl) (ai rfl (ai rfl (ai ?_ ?_))))
     ·show 0+((aJ c).toNat-0)=(fG c s a d 0).length
      rw[dJ hr];omega
     ·intro k hk
      have hk:k<0+((aJ c).toNat-0):=hk
      show aY 0 (aT 1 []) (fun k=>[bP ((dn s).getD (0+k) false)]) k=[bP ((fG c s a d 0).getD k false)]
      unfold aY
      rw[if_neg (aeH _),auq]
      show [bP ((dn s).getD (0+k) false)]=_
      rw[ahv]
      unfold fG pY
      rw[xC (by rw[al5];omega),aaG,aaG,ar8,if_pos (by omega)]
    ·exact trivial
    ·trivial
    intro (k:Nat) ⟨hk,_⟩
    have hlk:=dJ hr a d k
    refine ah (p:=k<c.sts.length) (aA (by dsimp only;omega)) (fun g=>?_) (fun g=>?_)
    ·refine iX (k) (a.length) ?_
     refine aC (b:=a.getD k false) rfl (fun q=>?_) (fun q=>?_)
     ·refine iX (k) (d.length) ?_
      refine ai (mxL (n:=(fG c s a d k).length+1) (by omega) (by decide)) (ai (dW 1 rfl) ?_)
      refine nX (k) (ai (ai (ai (fun _=>rfl) (aG (by omega))) rfl) (ai rfl (ai rfl (ai ?_ ?_)))) trivial trivial
      ·rw[dJ hr,dJ hr];rfl
      ·rw[nR,show jY a d k=d.getD k false by unfold jY;rw[q,aer]];exact kY _ _
     ·refine ai (mxL (n:=(fG c s a d k).length+1) (by omega) (by decide)) (ai (dW 1 rfl) ?_)
      refine nX (k) (ai (ai (ai (fun _=>rfl) (aG (by omega))) rfl) (ai rfl (ai rfl (ai ?_ ?_)))) trivial trivial
      ·rw[dJ hr,dJ hr];rfl
      ·rw[nR,show jY a d k=false by unfold jY;rw[q,apT]];exact kY _ _
    ·have ek:k=c.sts.length:=by omega
     refine eN (iR (iW c s a d)) ?_
     rw[show iW c s a d=fG c s a d k by rw[ek];rfl]
     exact (ai rfl (fun _ _=>rfl))
def adj (e:Int) (l:List Bool):PV:=.tup [iR (if e=0 then l else []),iP e]
def dz (e:Int) (l:List Bool):PV:=if e=0 then .tup [iR l,iP 0] else .tup [.val (.slice none 0 0),iP e]
theorem adN (e:Int) (l:List Bool):gB (dz e l) (adj e l):=by
 unfold dz adj
 split
 ·rename_i h;rw[h];exact .refl _
 ·exact wC (aH (.nil _) (oC (.refl _)))
def og (a:aB×dw):Prop:=jr a.1∧aaM a.2∧acC a.2
theorem aaD {c:aB} {s:dw} (h:og (c,s)) (h0:bR c s=0):uG (c,s):=by
 obtain ⟨ho,_,hm⟩:=h
 unfold bR at h0
 split at h0
 ·rename_i h1;exact absurd h0 h1
 ·rename_i h1
  exact ⟨⟨(mo.1 (alF.1 h1)).1,ho⟩,h0,hm⟩
theorem yX {c:aB} {s:dw} (h:uG (c,s)):(gV c s).length=c.sts.length:=by
 obtain ⟨_,_,_,_,h5⟩:=mq h
 unfold gV;rw[al5];omega
theorem amS:av Tryz.prog 34 (bO (fun a:aB×dw=>[iG a.1,kE a.2]) og (fun a=>adj (bR a.1 a.2) (gV a.1 a.2))):=by
 have h:av Tryz.prog 34 (bO (fun a:aB×dw=>[iG a.1,kE a.2]) og (fun a=>dz (bR a.1 a.2) (gV a.1 a.2))):=by
  refine vF Tryz.func34 ?_
  rintro ⟨c,s⟩ hpre
  have hp:og (c,s):=hpre
  refine cK (akz) ((c,s)) (by exact (ai (ai rfl (ai (ai rfl (fun _ _=>rfl)) (ai (ai rfl (fun _ _=>rfl)) (ai rfl (fun _ _=>rfl))))) (ai (ai rfl (fun _ _=>rfl)) (ai (ai rfl (fun _ _=>rfl)) (ai (ai rfl (fun _ _=>rfl)) (ai (ai rfl (fun _ _=>rfl)) (ai rfl (fun _ _=>rfl)))))))) (⟨hp.1,hp.2.1⟩) ?_
  refine aW (p:=bR c s=0) (bn (by dsimp only;omega)) (fun h1=>?_) (fun h1=>?_)
  ·refine eF (dz (bR c s) (gV c s)) ?_
   rw[dz,if_neg h1]
   exact (ai rfl rfl)
  refine cK (aoh) ((c,s)) (by exact (ai (ai rfl (ai (ai rfl (fun _ _=>rfl)) (ai (ai rfl (fun _ _=>rfl)) (ai rfl (fun _ _=>rfl))))) (ai (ai rfl (fun _ _=>rfl)) (ai (ai rfl (fun _ _=>rfl)) (ai (ai rfl (fun _ _=>rfl)) (ai (ai rfl (fun _ _=>rfl)) (ai rfl (fun _ _=>rfl)))))))) (aaD hp h1) ?_
  refine eF (dz (bR c s) (gV c s)) ?_
  rw[dz,if_pos h1]
  exact (ai (ai rfl (fun _ _=>rfl)) rfl)
 exact gW h fun a _=>adN _ _
theorem alc:av Tryz.prog 36 (bO (fun a:aB×dw=>[iG a.1,kE a.2]) og (fun a=>adj (bR a.1 a.2) (iW a.1 a.2 (gV a.1 a.2) (jX a.1 a.2)))):=by
 have h:av Tryz.prog 36 (bO (fun a:aB×dw=>[iG a.1,kE a.2]) og (fun a=>dz (bR a.1 a.2) (iW a.1 a.2 (gV a.1 a.2) (jX a.1 a.2)))):=by
  refine vF Tryz.func36 ?_
  rintro ⟨c,s⟩ hpre
  have hp:og (c,s):=hpre
  refine cK (akz) ((c,s)) (by exact (ai (ai rfl (ai (ai rfl (fun _ _=>rfl)) (ai (ai rfl (fun _ _=>rfl)) (ai rfl (fun _ _=>rfl))))) (ai (ai rfl (fun _ _=>rfl)) (ai (ai rfl (fun _ _=>rfl)) (ai (ai rfl (fun _ _=>rfl)) (ai (ai rfl (fun _ _=>rfl)) (ai rfl (fun _ _=>rfl)))))))) (⟨hp.1,hp.2.1⟩) ?_
  refine aW (p:=bR c s=0) (bn (by dsimp only;omega)) (fun h1=>?_) (fun h1=>?_)
  ·refine eF (dz (bR c s) (iW c s (gV c s) (jX c s))) ?_
   rw[dz,if_neg h1]
   exact (ai rfl rfl)
  have hr:=aaD hp h1
  refine dR (.seq [0,1,2,3,5,6,4,7,8,9,10]) ?_
  refine cK (aoh) ((c,s)) (by exact (ai (ai rfl (ai (ai rfl (fun _ _=>rfl)) (ai (ai rfl (fun _ _=>rfl)) (ai rfl (fun _ _=>rfl))))) (ai (ai rfl (fun _ _=>rfl)) (ai (ai rfl (fun _ _=>rfl)) (ai (ai rfl (fun _ _=>rfl)) (ai (ai rfl (fun _ _=>rfl)) (ai rfl (fun _ _=>rfl)))))))) (hr) ?_
  refine cK (ap0) ((c,s)) (by exact (ai (ai rfl (ai (ai rfl (fun _ _=>rfl)) (ai (ai rfl (fun _ _=>rfl)) (ai rfl (fun _ _=>rfl))))) (ai (ai rfl (fun _ _=>rfl)) (ai (ai rfl (fun _ _=>rfl)) (ai (ai rfl (fun _ _=>rfl)) (ai (ai rfl (fun _ _=>rfl)) (ai rfl (fun _ _=>rfl)))))))) (hr) ?_
  refine cK (ap8) (⟨c,s,gV c s,jX c s⟩) (by exact (ai (ai rfl (ai (ai rfl (fun _ _=>rfl)) (ai (ai rfl (fun _ _=>rfl)) (ai rfl (fun _ _=>rfl))))) (ai (ai (ai rfl (fun _ _=>rfl)) (ai (ai rfl (fun _ _=>rfl)) (ai (ai rfl (fun _ _=>rfl)) (ai (ai rfl (fun _ _=>rfl)) (ai rfl (fun _ _=>rfl)))))) (ai (ai rfl (fun _ _=>rfl)) (ai rfl (fun _ _=>rfl)))))) (⟨hr,yX hr,fJ _ _⟩) ?_
  refine eF (dz (bR c s) (iW c s (gV c s) (jX c s))) ?_
  rw[dz,if_pos h1]
  exact (ai (ai rfl (fun _ _=>rfl)) rfl)
 exact gW h fun a _=>adN _ _
def rR (c:aB) (a d:List Bool) (k:Nat):Bool:=d.getD k false&&(((c.sts.getD k st0).wt==0)||a.getD k false)
def adV (c:aB) (a d:List Bool):List Bool:=(List.range c.sts.length).map (rR c a d)
def af6 (c:aB) (s:dw) (a d:List Bool):List Bool:=adJ c a (aat c a (iW c s a d))
def bJ (c:aB) (s:dw):Nat→List Bool×List Bool
 | 0=>(gV c s,jX c s)
 | r+1=>(af6 c s (bJ c s r).1 (bJ c s r).2,adV c (bJ c s r).1 (bJ c s r).2)
def ru (c:aB) (s:dw) (r:Nat):Bool:=decide (af6 c s (bJ c s r).1 (bJ c s r).2=(bJ c s r).1)&&decide (adV c (bJ c s r).1 (bJ c s r).2=(bJ c s r).2)
def orN (o:Option Nat) (q:Bool) (m:Nat):Option Nat:=if o.isSome then o else if q then some m else none
def aaB (c:aB) (s:dw):Nat→Option Nat
 | 0=>none
 | m+1=>orN (aaB c s m) (ru c s m) m
theorem ac3 {c:aB} {s:dw}:∀{m:Nat},(∀r,r<m→ru c s r=false)→aaB c s m=none
 | 0,_=>by rw[aaB]
 | m+1,h=>by
  rw[aaB,ac3 fun r hr=>h r (by omega),h m (by omega)];rfl
theorem ahz {c:aB} {s:dw} {r:Nat} (h0:∀q,q<r→ru c s q=false) (h:ru c s r=true):∀{m:Nat},r<m→aaB c s m=some r
 | 0,hm=>by omega
 | m+1,hm=>by
  rw[aaB]
  by_cases e:r<m
  ·rw[ahz h0 h e];rfl
  ·obtain rfl:r=m:=by omega
   rw[ac3 h0,h];rfl
@[irreducible] def anE (c:aB) (s:dw):Option Nat:=aaB c s 65
theorem al7 (c:aB) (s:dw):anE c s=aaB c s 65:=by unfold anE;rfl
def zo (c:aB) (s:dw):List Bool:=match anE c s with
 | some r=>(bJ c s r).1
 | none=>[]
theorem aml (c:aB) (a:List Bool) (l:List Int):(adJ c a l).length=a.length:=by unfold adJ;rw[aaC,xY]
theorem ahe {c:aB} {s:dw} (h:uG (c,s)):∀r,(bJ c s r).1.length=c.sts.length∧(bJ c s r).2.length=c.sts.length
 | 0=>⟨yX h,fJ _ _⟩
 | r+1=>⟨by show (adJ c _ _).length=_;rw[aml];exact (ahe h r).1,fJ _ _⟩
theorem apW {c:aB} {s:dw} (h:uG (c,s)) {a d:List Bool} (ha:a.length=c.sts.length):mZ c a (iW c s a d)=0:=by
 have hl:(iW c s a d).length=(aJ c).toNat+c.sts.length:=dJ h a d c.sts.length
 have hc:jP c:=h.1
 obtain ⟨⟨ha1,ha6⟩,hi16,hs24,ht32⟩:=dA hc
 have hb:aJ c=2*c.act+c.ins.length:=rfl
 have hv:lF c=2*c.act+c.ins.length+c.sts.length:=rfl
 have g0:pF c a=0:=by unfold pF;rw[if_neg (fun e=>e h.1.1),if_neg (fun e=>e ha)]
 unfold mZ
 rw[if_neg (fun e=>e g0),if_neg]
 intro e
 apply e
 omega
theorem alU:av Tryz.prog 153 (bC (fun l:List (List UInt8)=>[ssA l]) (fun l=>l.length≤1000000) (fun l=>xV l)):=by
 refine vF Tryz.func153 ?_
 rintro (l:List (List UInt8)) hpre
 have hl:l.length≤1000000:=hpre
 intro b hb
 refine iB (fun h1=>?_) (fun h1=>?_)
 ·have h1:l.length=0:=hb h1
  refine eN (xV l) ?_
  rw[axn.1 h1]
  exact rfl
 ·refine ai (mxL (n:=0+l.length) (by omega) (by decide)) (ai (fun _ _=>rfl) ?_)
  refine ai (ai (fun _ k hk=>by rw[abX k hk];rfl) ?_) trivial
  refine (ai ?_ (fun _ _=>rfl))
  exact ahv _
def ahi (c:aB) (s:List tN):List LV:=[.s (iA (aJ c)),sgU s,.s (iA c.act),.s (.p false (xV c.ins)),.s (.p false (abb c.sts)),.s (.p false (adz c.trs)),.s (akc c),.s (akT c),.s (akA c)]
def ctV (c:aB) (s:List tN) (p m:LV):List LV:=[.s (iA c.act),.s (.p false (xV c.ins)),sgU s,p,m]
def aa7:PV:=.val (.string ByteArray.empty)
def aa3:PV:=.val (.slice none 0 0)
theorem wm {nm:List UInt8} {kd dl:Int} {ini:Bool} {on x:Ex} {f:PV} (h:gB f (.seq x.args.length (jI x.args))):bS [sP nm,iP kd,iP on.op,iP on.idx,.seq on.args.length (jI on.args),iP x.op,iP x.idx,f,iP dl,bP ini] (sgK ⟨nm,kd,on,x,dl,ini⟩):=
 aH (.refl _) (aH (.refl _) (aH (.refl _) (aH (.refl _) (aH (.refl _) (aH (.refl _) (aH (.refl _) (aH h (aH (.refl _) (oC (.refl _))))))))))
theorem alO (x y:Ex):gB (.seq 2 (aT 3 (kN x++kN y))) (.seq 2 (jI [x,y])):=iT fun k hk=>by
 rcases (show k=0∨k=1 by omega) with rfl | rfl
 ·exact tJ x
 ·exact tJ y
def au7 (b:Bool) (c:aB):Prop:=jP c∧decide (bH (dH c)=0)=b
def auD (b:Bool) (res:aB→SV):yQ:={ A:=aB,fix:=1,args:=fun _=>[.own 0 0],objs:=fun c=>[anD c jd],pre:=au7 b,res:=res,objs':=fun c=>[anD c .any],inl:=[154,155,4000045,4000077,5000125] }
set_option maxHeartbeats 16000000 in
theorem yZ:tH Tryz.prog 96 (auD true fun c=>.tup [.p false (ctP (dH c)),.p false (iP 0)]):=by
 refine vG Tryz.func96 ?_
 rintro (c:aB) hpre
 obtain ⟨hc,hB⟩:=hpre
 have hc:jP c:=hc
 have hB:decide (bH (dH c)=0)=true:=hB
 have hs:=iJ hc.1
 obtain ⟨⟨ha1,ha6⟩,hi16,hs24,ht32⟩:=dA hc
 have hb:aJ c=2*c.act+c.ins.length:=rfl
 have hon:∀k,(bQ c k).length≤c.trs.length:=fun k=>lQ c _ _ _
 have hof:∀k,(dh c k).length≤c.trs.length:=fun k=>lQ c _ _ _
 have hal:∀x,(dZ c x c.sts.length).length≤c.sts.length:=fun x=>uq c x _
 have htm:=lq c c.sts.length
 have hml:=q8 c c.sts.length
 have hlp:∀k,afF (c,k):=fun k=>⟨hc.2,by show c.trs.length≤1000000;omega⟩
 refine dR (.one 0 (.one 1 (.one 2 (.one 3 (.one 4 (.one 5 (.one 6 (.one 7 (.one 8 (.one 9 (.alt 10 (.one 11 (.one 12 (.one 13 .done))) (.alt 12 (.one 10 (.one 11 (.one 13 .done))) .stop)))))))))))) ?_
 refine ai ?_ (ai ?_ trivial)
 all_goals
  refine cK (alU) (c.ins) (by exact (ai rfl (fun _ _=>rfl))) ((by show c.ins.length≤1000000;omega)) ?_
  refine mY mixed fQ Tryz.func154 rfl rfl ?_
  refine ai rfl ?_
  refine fR (c.sts.length) (fun k=>[(16,.s (iA k))]) (fun k=>[⟨0,106,ahi c (fB c k)⟩]) (fun k=>True) ?_ ?_ ?_ ?_
  ·exact (ai (ai (fun _=>rfl) (iE (by omega))) rfl)
  ·exact (ai (ai (ai (ai nof rfl) rfl) (ai rfl (ai (ai (ai nof rfl) rfl) (ai (ai (ai nof (ai rfl (fun _ _=>rfl))) rfl) (ai (ai (ai nof (ai rfl (fun _ _=>rfl))) rfl) (ai (ai (ai nof (ai rfl (fun _ _=>rfl))) rfl) (ai (ai (ai nof (ai rfl (fun _ _=>rfl))) rfl) (ai (ai (ai nof (ai rfl (fun _ _=>rfl))) rfl) (ai (ai nof (ai rfl (fun _ _=>rfl))) rfl))))))))) trivial)
  ·trivial
  intro (k:Nat) ⟨hk,_⟩
  have hl:=vR c k
  refine bL (k<c.sts.length) (fun g=>?_) fun g=>?_
  ·refine ei _ (ai (ahN) (ei ((c,k)) (ei [0] (ai (a4 (ai (fun _=>Or.inl rfl) (ai nof (Or.inl rfl)))) (ai (by exact (ai (ai rfl rfl) (ai rfl (ai rfl trivial)))) (ai (by exact (ai rfl (ai trivial (ai trivial (ai trivial (ai trivial (ai trivial (ai (ai rfl (fun _ _=>rfl)) (ai trivial (ai trivial (ai rfl (fun _ _=>rfl)))))))))))) (ai (hlp k) ?_)))))))
   refine ei _ (ai (ahU) (ei ((c,k)) (ei [0] (ai (a4 (ai (fun _=>Or.inl rfl) (ai nof (Or.inl rfl)))) (ai (by exact (ai (ai rfl rfl) (ai rfl (ai rfl trivial)))) (ai (by exact (ai rfl (ai trivial (ai trivial (ai trivial (ai trivial (ai trivial (ai (ai rfl (fun _ _=>rfl)) (ai trivial (ai trivial (ai rfl (fun _ _=>rfl)))))))))))) (ai (hlp k) ?_)))))))
   refine cK (qP) (bQ c k) (by exact (ai rfl (fun _ _=>rfl))) ((by have:=hon k;show (bQ c k).length≤1000000;omega)) ?_
   refine cK (qP) (dh c k) (by exact (ai rfl (fun _ _=>rfl))) ((by have:=hof k;show (dh c k).length≤1000000;omega)) ?_
   refine ah (p:=0<(bQ c k).length) (by exact aA (show (0:Int)<(((bQ c k).length:Nat):Int)↔_ by omega)) (fun g1=>?_) (fun g1=>?_)
   ·refine ah (p:=0<(dh c k).length) (by exact aA (show (0:Int)<(((dh c k).length:Nat):Int)↔_ by omega)) (fun g2=>?_) (fun g2=>?_)
    ·refine dR (.seq [0,1,2,3,4,5,6,7,8]) ?_
     refine cK (alx) (aF (bQ c k)) (by exact (ai rfl (ai rfl (ai rfl (fun _ _=>rfl))))) (trivial) ?_
     refine cK (abz) ((2,aT 3 (kN (aF (dh c k))++kN (mP (aF (bQ c k)))))) (by exact (ai rfl (fun _ _=>rfl))) (trivial) ?_
     have e:qH c k=vD (aF (dh c k)) (mP (aF (bQ c k))):=if_pos ⟨g1,g2⟩
     have hLe:bS [sP ([120]++dec k),iP 1,iP (aF (bQ c k)).op,iP (aF (bQ c k)).idx,.seq (aF (bQ c k)).args.length (jI (aF (bQ c k)).args),iP 3,iP 0,.seq 2 (aT 3 (kN (aF (dh c k))++kN (mP (aF (bQ c k))))),iP 0,bP ((k:Int)==0)] (sgK (mJ c k)):=by
      unfold mJ
      rw[e]
      exact wm (x:=vD (aF (dh c k)) (mP (aF (bQ c k)))) (alO _ _)
     refine gI (qp) (⟨c,(fB c k).length,sS (fB c k),[120],k,aa7,iP 1,iP (aF (bQ c k)).op,iP (aF (bQ c k)).idx,.seq (aF (bQ c k)).args.length (jI (aF (bQ c k)).args),iP 3,iP 0,.seq 2 (aT 3 (kN (aF (dh c k))++kN (mP (aF (bQ c k))))),iP 0,bP ((k:Int)==0)⟩) [0,3] (by exact (ai (ai rfl rfl) (ai rfl (ai rfl (ai rfl (ai rfl (ai rfl (ai rfl (ai (ai rfl (fun _ _=>rfl)) (ai rfl (ai rfl (ai (ai rfl (fun _ _=>rfl)) (ai rfl rfl))))))))))))) (by exact (ai (ai rfl (ai rfl (ai rfl (ai rfl (ai (ai rfl (fun _ _=>rfl)) (ai (ai rfl (fun _ _=>rfl)) (ai (ai rfl (fun _ _=>rfl)) (ai (ai rfl (fun _ _=>rfl)) (ai (ai rfl (fun _ _=>rfl)) (ai rfl (fun _ _=>rfl))))))))))) (ai rfl (ai rfl (ai rfl (fun _ _=>rfl)))))) (⟨by show (fB c k).length≤1000;omega,by show k<100;omega,by show 1≤10;omega⟩) ?_
     refine nX (k) (ai (ai (fun _=>rfl) (aG (by omega))) rfl) (ai (ai (ai (ai nof rfl) rfl) (ai (ai rfl (ai rfl (ai ?_ ?_))) (ai (ai (ai nof rfl) rfl) (ai (ai (ai nof (ai rfl (fun _ _=>rfl))) rfl) (ai (ai (ai nof (ai rfl (fun _ _=>rfl))) rfl) (ai (ai (ai nof (ai rfl (fun _ _=>rfl))) rfl) (ai (ai (ai nof (ai rfl (fun _ _=>rfl))) rfl) (ai (ai (ai nof (ai rfl (fun _ _=>rfl))) rfl) (ai (ai nof (ai rfl (fun _ _=>rfl))) rfl))))))))) trivial) trivial
     ·rw[bX,aaJ];rfl
     ·rw[bX]
      exact bU rfl (fun _ _=>.of rfl) hLe
    ·have e:qH c k=aF (dh c k):=if_neg (fun h=>g2 h.2)
     have hLe:bS [sP ([120]++dec k),iP 1,iP (aF (bQ c k)).op,iP (aF (bQ c k)).idx,.seq (aF (bQ c k)).args.length (jI (aF (bQ c k)).args),iP (aF (dh c k)).op,iP (aF (dh c k)).idx,.seq (aF (dh c k)).args.length (jI (aF (dh c k)).args),iP 0,bP ((k:Int)==0)] (sgK (mJ c k)):=by
      unfold mJ
      rw[e]
      exact wm (.refl _)
     refine gI (qp) (⟨c,(fB c k).length,sS (fB c k),[120],k,aa7,iP 1,iP (aF (bQ c k)).op,iP (aF (bQ c k)).idx,.seq (aF (bQ c k)).args.length (jI (aF (bQ c k)).args),iP (aF (dh c k)).op,iP (aF (dh c k)).idx,.seq (aF (dh c k)).args.length (jI (aF (dh c k)).args),iP 0,bP ((k:Int)==0)⟩) [0,3] (by exact (ai (ai rfl rfl) (ai rfl (ai rfl (ai rfl (ai rfl (ai rfl (ai rfl (ai (ai rfl (fun _ _=>rfl)) (ai rfl (ai rfl (ai (ai rfl (fun _ _=>rfl)) (ai rfl rfl))))))))))))) (by exact (ai (ai rfl (ai rfl (ai rfl (ai rfl (ai (ai rfl (fun _ _=>rfl)) (ai (ai rfl (fun _ _=>rfl)) (ai (ai rfl (fun _ _=>rfl)) (ai (ai rfl (fun _ _=>rfl)) (ai (ai rfl (fun _ _=>rfl)) (ai rfl (fun _ _=>rfl))))))))))) (ai rfl (ai rfl (ai rfl (fun _ _=>rfl)))))) (⟨by show (fB c k).length≤1000;omega,by show k<100;omega,by show 1≤10;omega⟩) ?_
     refine nX (k) (ai (ai (fun _=>rfl) (aG (by omega))) rfl) (ai (ai (ai (ai nof rfl) rfl) (ai (ai rfl (ai rfl (ai ?_ ?_))) (ai (ai (ai nof rfl) rfl) (ai (ai (ai nof (ai rfl (fun _ _=>rfl))) rfl) (ai (ai (ai nof (ai rfl (fun _ _=>rfl))) rfl) (ai (ai (ai nof (ai rfl (fun _ _=>rfl))) rfl) (ai (ai (ai nof (ai rfl (fun _ _=>rfl))) rfl) (ai (ai (ai nof (ai rfl (fun _ _=>rfl))) rfl) (ai (ai nof (ai rfl (fun _ _=>rfl))) rfl))))))))) trivial) trivial
     ·rw[bX,aaJ];rfl
     ·rw[bX]
      exact bU rfl (fun _ _=>.of rfl) hLe
   ·have e:qH c k=aF (dh c k):=if_neg (fun h=>g1 h.1)
    have hLe:bS [sP ([120]++dec k),iP 1,iP (aF (bQ c k)).op,iP (aF (bQ c k)).idx,.seq (aF (bQ c k)).args.length (jI (aF (bQ c k)).args),iP (aF (dh c k)).op,iP (aF (dh c k)).idx,.seq (aF (dh c k)).args.length (jI (aF (dh c k)).args),iP 0,bP ((k:Int)==0)] (sgK (mJ c k)):=by
     unfold mJ
     rw[e]
     exact wm (.refl _)
    refine gI (qp) (⟨c,(fB c k).length,sS (fB c k),[120],k,aa7,iP 1,iP (aF (bQ c k)).op,iP (aF (bQ c k)).idx,.seq (aF (bQ c k)).args.length (jI (aF (bQ c k)).args),iP (aF (dh c k)).op,iP (aF (dh c k)).idx,.seq (aF (dh c k)).args.length (jI (aF (dh c k)).args),iP 0,bP ((k:Int)==0)⟩) [0,3] (by exact (ai (ai rfl rfl) (ai rfl (ai rfl (ai rfl (ai rfl (ai rfl (ai rfl (ai (ai rfl (fun _ _=>rfl)) (ai rfl (ai rfl (ai (ai rfl (fun _ _=>rfl)) (ai rfl rfl))))))))))))) (by exact (ai (ai rfl (ai rfl (ai rfl (ai rfl (ai (ai rfl (fun _ _=>rfl)) (ai (ai rfl (fun _ _=>rfl)) (ai (ai rfl (fun _ _=>rfl)) (ai (ai rfl (fun _ _=>rfl)) (ai (ai rfl (fun _ _=>rfl)) (ai rfl (fun _ _=>rfl))))))))))) (ai rfl (ai rfl (ai rfl (fun _ _=>rfl)))))) (⟨by show (fB c k).length≤1000;omega,by show k<100;omega,by show 1≤10;omega⟩) ?_
    refine nX (k) (ai (ai (fun _=>rfl) (aG (by omega))) rfl) (ai (ai (ai (ai nof rfl) rfl) (ai (ai rfl (ai rfl (ai ?_ ?_))) (ai (ai (ai nof rfl) rfl) (ai (ai (ai nof (ai rfl (fun _ _=>rfl))) rfl) (ai (ai (ai nof (ai rfl (fun _ _=>rfl))) rfl) (ai (ai (ai nof (ai rfl (fun _ _=>rfl))) rfl) (ai (ai (ai nof (ai rfl (fun _ _=>rfl))) rfl) (ai (ai (ai nof (ai rfl (fun _ _=>rfl))) rfl) (ai (ai nof (ai rfl (fun _ _=>rfl))) rfl))))))))) trivial) trivial
    ·rw[bX,aaJ];rfl
    ·rw[bX]
     exact bU rfl (fun _ _=>.of rfl) hLe
  have e0:dD c 0=fB c k:=by rw[show k=c.sts.length by omega];rfl
  clear g hl
  refine fR (c.sts.length) (fun j=>[(59,.s (iA j))]) (fun j=>[⟨0,106,ahi c (dD c j)⟩]) (fun j=>True) ?_ ?_ ?_ ?_
  ·exact (ai (ai (fun _=>rfl) (iE (by omega))) rfl)
  ·refine (ai (ai (ai (ai nof rfl) rfl) (ai (ai rfl (ai rfl (ai ?_ ?_))) (ai (ai (ai nof rfl) rfl) (ai (ai (ai nof (ai rfl (fun _ _=>rfl))) rfl) (ai (ai (ai nof (ai rfl (fun _ _=>rfl))) rfl) (ai (ai (ai nof (ai rfl (fun _ _=>rfl))) rfl) (ai (ai (ai nof (ai rfl (fun _ _=>rfl))) rfl) (ai (ai (ai nof (ai rfl (fun _ _=>rfl))) rfl) (ai (ai nof (ai rfl (fun _ _=>rfl))) rfl))))))))) trivial)
   ·rw[e0]
   ·rw[e0];exact fun _ _=>.of rfl
  ·trivial
  intro (j:Nat) ⟨hj,_⟩
  have hl:=qW c j
  have htj:=lq c j
  refine bL (j<c.sts.length) (fun g=>?_) fun g=>?_
  ·refine iX (j) (c.sts.length) ?_
   refine ah (p:=0<(c.sts.getD j st0).wt) (aA Iff.rfl) (fun g1=>?_) (fun g1=>?_)
   ·have e1:dD c (j+1)=dD c j++[adu c j]:=by rw[dD,if_pos g1]
    have em:=um c (n:=c.sts.length) g
    refine dR (.one 0 (.one 1 (.one 2 (.one 3 (.one 4 (.one 5 (.one 6 (.one 7 (.one 8 (.one 10 (.one 11 (.one 9 (.one 12 (.wr 13 .done)))))))))))))) ?_
    refine iX (j) ((fD c c.sts.length).length) ?_
    refine cK (jL) ((fD c c.sts.length).getD j 0) (by exact (iE (by simp only[zz,reduceCtorEq]))) (trivial) ?_
    refine gI (qp) (⟨c,(dD c j).length,sS (dD c j),[116],j,aa7,iP 2,iP 1,iP ((fD c c.sts.length).getD j 0),aa3,iP 0,iP 0,aa3,iP (c.sts.getD j st0).wt,bP false⟩) [0,4] (by exact (ai (ai rfl rfl) (ai rfl (ai rfl (ai rfl (ai rfl (ai rfl (ai rfl (ai rfl (ai rfl (ai rfl (ai rfl (ai (iE (by simp only[zz,reduceCtorEq])) rfl))))))))))))) (by exact (ai (ai rfl (ai rfl (ai rfl (ai rfl (ai (ai rfl (fun _ _=>rfl)) (ai (ai rfl (fun _ _=>rfl)) (ai (ai rfl (fun _ _=>rfl)) (ai (ai rfl (fun _ _=>rfl)) (ai (ai rfl (fun _ _=>rfl)) (ai rfl (fun _ _=>rfl))))))))))) (ai rfl (ai rfl (ai rfl (fun _ _=>rfl)))))) (⟨by show (dD c j).length≤1000;omega,by show j<100;omega,by show 1≤10;omega⟩) ?_
    refine nX (j) (ai (ai (fun _=>rfl) (aG (by omega))) rfl) (ai (ai (ai (ai nof rfl) rfl) (ai (ai rfl (ai rfl (ai ?_ ?_))) (ai (ai (ai nof rfl) rfl) (ai (ai (ai nof (ai rfl (fun _ _=>rfl))) rfl) (ai (ai (ai nof (ai rfl (fun _ _=>rfl))) rfl) (ai (ai (ai nof (ai rfl (fun _ _=>rfl))) rfl) (ai (ai (ai nof (ai rfl (fun _ _=>rfl))) rfl) (ai (ai (ai nof (ai rfl (fun _ _=>rfl))) rfl) (ai (ai nof (ai rfl (fun _ _=>rfl))) rfl))))))))) trivial) trivial
    ·rw[e1,aaJ];rfl
    ·rw[e1]
     exact bU rfl (fun _ _=>.of rfl) (by unfold adu;rw[←em];exact adn)
   ·have e1:dD c (j+1)=dD c j:=by rw[dD,if_neg g1]
    refine nX (j) (ai (ai (fun _=>rfl) (aG (by omega))) rfl) (ai (ai (ai (ai nof rfl) rfl) (ai (ai rfl (ai rfl (ai ?_ ?_))) (ai (ai (ai nof rfl) rfl) (ai (ai (ai nof (ai rfl (fun _ _=>rfl))) rfl) (ai (ai (ai nof (ai rfl (fun _ _=>rfl))) rfl) (ai (ai (ai nof (ai rfl (fun _ _=>rfl))) rfl) (ai (ai (ai nof (ai rfl (fun _ _=>rfl))) rfl) (ai (ai (ai nof (ai rfl (fun _ _=>rfl))) rfl) (ai (ai nof (ai rfl (fun _ _=>rfl))) rfl))))))))) trivial) trivial
    all_goals rw[e1]
    exact fun _ _=>.of rfl
  have e0:gH c 0=dD c j:=by rw[show j=c.sts.length by omega];exact arR _
  clear g hl htj
  refine fR (c.trs.length) (fun i=>[(38,.s (iA i))]) (fun i=>[⟨0,106,ahi c (gH c i)⟩]) (fun i=>True) ?_ ?_ ?_ ?_
  ·exact (ai (ai (fun _=>rfl) (iE (by omega))) rfl)
  ·refine (ai (ai (ai (ai nof rfl) rfl) (ai (ai rfl (ai rfl (ai ?_ ?_))) (ai (ai (ai nof rfl) rfl) (ai (ai (ai nof (ai rfl (fun _ _=>rfl))) rfl) (ai (ai (ai nof (ai rfl (fun _ _=>rfl))) rfl) (ai (ai (ai nof (ai rfl (fun _ _=>rfl))) rfl) (ai (ai (ai nof (ai rfl (fun _ _=>rfl))) rfl) (ai (ai (ai nof (ai rfl (fun _ _=>rfl))) rfl) (ai (ai nof (ai rfl (fun _ _=>rfl))) rfl))))))))) trivial)
   ·rw[e0]
   ·rw[e0];exact fun _ _=>.of rfl
  ·trivial
  intro (i:Nat) ⟨hi,_⟩
  have hl:=jw c i
  refine bL (i<c.trs.length) (fun g=>?_) fun g=>?_
  ·have hcl:ae1 c i=true:=aoS (of_decide_eq_true hB) g
   refine ei _ (ai (aep) (ei ((c,i)) (ei [0] (ai (a4 (ai (fun _=>Or.inl rfl) (ai nof (Or.inl rfl)))) (ai (by exact (ai (ai rfl rfl) rfl)) (ai (by exact (ai rfl (ai rfl (ai trivial (ai trivial (ai trivial (ai (ai rfl (fun _ _=>rfl)) (ai (ai rfl (fun _ _=>rfl)) (ai (ai rfl (fun _ _=>rfl)) (ai (ai rfl (fun _ _=>rfl)) (ai rfl (fun _ _=>rfl)))))))))))) (ai (⟨⟨hc,g⟩,hcl⟩) ?_)))))))
   refine dR (.one 0 (.one 1 (.one 2 (.one 3 (.one 4 (.one 5 (.wr 6 .done))))))) ?_
   refine gI (qp) (⟨c,(gH c i).length,sS (gH c i),[122],i,aa7,iP 0,iP (nu c i).op,iP (nu c i).idx,.seq (nu c i).args.length (jI (nu c i).args),iP 0,iP 0,aa3,iP 0,bP false⟩) [0,5] (by exact (ai (ai rfl rfl) (ai rfl (ai rfl (ai rfl (ai rfl (ai rfl (ai rfl (ai (ai rfl (fun _ _=>rfl)) (ai rfl (ai rfl (ai rfl (ai rfl rfl))))))))))))) (by exact (ai (ai rfl (ai rfl (ai rfl (ai rfl (ai (ai rfl (fun _ _=>rfl)) (ai (ai rfl (fun _ _=>rfl)) (ai (ai rfl (fun _ _=>rfl)) (ai (ai rfl (fun _ _=>rfl)) (ai (ai rfl (fun _ _=>rfl)) (ai rfl (fun _ _=>rfl))))))))))) (ai rfl (ai rfl (ai rfl (fun _ _=>rfl)))))) (⟨by show (gH c i).length≤1000;omega,by show i<100;omega,by show 1≤10;omega⟩) ?_
   refine nX (i) (ai (ai (fun _=>rfl) (aG (by omega))) rfl) (ai (ai (ai (ai nof rfl) rfl) (ai (ai rfl (ai rfl (ai ?_ ?_))) (ai (ai (ai nof rfl) rfl) (ai (ai (ai nof (ai rfl (fun _ _=>rfl))) rfl) (ai (ai (ai nof (ai rfl (fun _ _=>rfl))) rfl) (ai (ai (ai nof (ai rfl (fun _ _=>rfl))) rfl) (ai (ai (ai nof (ai rfl (fun _ _=>rfl))) rfl) (ai (ai (ai nof (ai rfl (fun _ _=>rfl))) rfl) (ai (ai nof (ai rfl (fun _ _=>rfl))) rfl))))))))) trivial) trivial
   ·rw[mg,aaJ];rfl
   ·rw[mg]
    exact bU rfl (fun _ _=>.of rfl) (adX (x:=nu c i))
  have e0:aX c 0=gH c i:=by rw[show i=c.trs.length by omega];rfl
  clear g hl
  have hG:=jw c c.trs.length
  refine fR (c.act.toNat) (fun a=>[(70,.s (iA a))]) (fun a=>[⟨2,32,ctV c (aX c a) (isW (fq c a)) (isW (kC c a))⟩]) (fun a=>True) ?_ ?_ ?_ ?_
  ·exact (ai (ai (fun _=>rfl) (iE (by omega))) rfl)
  ·refine (ai (ai (ai (ai nof rfl) rfl) (ai (ai (ai nof (ai rfl (fun _ _=>rfl))) rfl) (ai (ai rfl (ai rfl (ai ?_ ?_))) (ai rfl rfl)))) trivial)
   ·rw[e0]
   ·rw[e0];exact fun _ _=>.of rfl
  ·trivial
  intro (a:Nat) ⟨hk,_⟩
  have hP:=jq c a
  have hpl:=lI c a
  have hmil:=o7 c a
  refine ah (p:=a<c.act.toNat) (by exact aA (show ((a:Nat):Int)<c.act↔_ by omega)) (fun g=>?_) (fun g=>?_)
  ·have hpn:pR c a=aJ c+((gH c c.trs.length).length:Int)+2*(a:Int):=rfl
   have hpe:IntKind.i64.wrap (aJ c+((aX c a).length:Int))=pR c a:=by rw[dF (by omega) (by omega)];omega
   have hpm:IntKind.i64.wrap (aJ c+(((aX c a).length+1:Nat):Int))=pR c a+1:=by rw[dF (by omega) (by omega)];omega
   have hw1:IntKind.i64.wrap ((a:Int)+1)=((a+1:Nat):Int):=aG (by omega)
   have hx:(strOf six).extract ((a:Nat):Int).toNat (IntKind.i64.wrap ((a:Int)+1)).toNat=strOf [UInt8.ofNat (97+a)]:=by
    rw[hw1,aeI,aeI,uI,abo (by omega)]
   refine ai (ai (abw _) (ai (by rw[hw1];show (a:Int)≤_;omega) (by rw[hw1];show ((a+1:Nat):Int)≤6;omega))) ?_
   refine ei (mK.unroll 3) ?_
   refine ai (ai (by decide) (by decide)) ?_
   refine ai rfl ?_
   refine ai (by show ((((strOf six).extract ((a:Nat):Int).toNat (IntKind.i64.wrap ((a:Int)+1)).toNat).size+1:Nat):Int)≤9223372036854775807;rw[hx];show ((2:Nat):Int)≤9223372036854775807;decide) ?_
   refine ei _ (ai (yu) (ei ((c,((a:Int),true))) (ei [0] (ai (a4 (ai (fun _=>Or.inl rfl) (ai nof (Or.inl rfl)))) (ai (by exact (ai (ai rfl rfl) (ai rfl rfl))) (ai (by exact (ai rfl (ai trivial (ai trivial (ai trivial (ai trivial (ai (ai rfl (fun _ _=>rfl)) (ai trivial (ai (ai rfl (fun _ _=>rfl)) (ai trivial trivial)))))))))) (ai (⟨hc.2,by show c.sts.length≤1000000;omega⟩) ?_)))))))
   refine cK (qP) (dZ c ((a:Int),true) c.sts.length) (by exact (ai rfl (fun _ _=>rfl))) ((by have:=hal ((a:Int),true);show (dZ c ((a:Int),true) c.sts.length).length≤1000000;omega)) ?_
   refine dR (.seq [0,1,2,3,4,5,6,7,8,9]) ?_
   refine ai (by show ((((strOf six).extract ((a:Nat):Int).toNat (IntKind.i64.wrap ((a:Int)+1)).toNat).size+1:Nat):Int)≤9223372036854775807;rw[hx];show ((2:Nat):Int)≤9223372036854775807;decide) ?_
   refine ai (mxL (n:=(fq c a).length+1) (by omega) (by decide)) (ai (dW 1 rfl) ?_)
   refine ai (mxL (n:=(aX c a).length+1) (by omega) (by decide)) (ai (lt1 rfl) ?_)
   refine ai (ai (by decide) (by decide)) ?_
   refine ai rfl ?_
   refine ai (by show ((((strOf six).extract ((a:Nat):Int).toNat (IntKind.i64.wrap ((a:Int)+1)).toNat).size+1:Nat):Int)≤9223372036854775807;rw[hx];show ((2:Nat):Int)≤9223372036854775807;decide) ?_
   refine ei _ (ai (yu) (ei ((c,((a:Int),false))) (ei [0] (ai (a4 (ai (fun _=>Or.inl rfl) (ai nof (Or.inl rfl)))) (ai (by exact (ai (ai rfl rfl) (ai rfl rfl))) (ai (by exact (ai rfl (ai trivial (ai trivial (ai trivial (ai trivial (ai (ai rfl (fun _ _=>rfl)) (ai trivial (ai (ai rfl (fun _ _=>rfl)) (ai trivial trivial)))))))))) (ai (⟨hc.2,by show c.sts.length≤1000000;omega⟩) ?_)))))))
   refine cK (qP) (dZ c ((a:Int),false) c.sts.length) (by exact (ai rfl (fun _ _=>rfl))) ((by have:=hal ((a:Int),false);show (dZ c ((a:Int),false) c.sts.length).length≤1000000;omega)) ?_
   refine dR (.seq [0,1,2,3,4,5,6,7,8,9]) ?_
   refine ai (mxL (n:=(kC c a).length+1) (by omega) (by decide)) (ai (dW 1 rfl) ?_)
   refine ai (mxL (n:=((aX c a).length+1)+1) (by omega) (by decide)) (ai (lt1 rfl) ?_)
   refine nX (a) (ai (ai (fun _=>rfl) (aG (by omega))) rfl) (ai (ai (ai (ai nof rfl) rfl) (ai (ai (ai nof (ai rfl (fun _ _=>rfl))) rfl) (ai (ai rfl (ai rfl (ai ?_ ?_))) (ai (ai rfl (ai rfl (ai ?_ ?_))) (ai rfl (ai rfl (ai ?_ ?_))))))) trivial) trivial
   ·have:=jq c (a+1)
    show (aX c a).length+1+1=(aX c (a+1)).length
    omega
   ·rw[aX]
    refine bU (l:=aX c a++[pJ c a true]) (x:=pJ c a false) (by rw[aaJ];rfl) (fun q hq=>?_) ?_
    ·exact bU (l:=aX c a) (x:=pJ c a true) rfl (fun _ _=>.of rfl) (tK (by show (strOf six).extract _ _++strOf [112]=_;rw[hx];rfl)) q (by rw[aaJ] at hq;exact hq)
    ·exact tK (by show (strOf six).extract _ _++strOf [109]=_;rw[hx];rfl)
   ·rw[hpl,lI]
   ·show ∀k,k<(fq c a).length+1→aY (fq c a).length (fun k=>[iP ((fq c a).getD k 0)]) (aT 1 [iP (IntKind.i64.wrap (aJ c+((aX c a).length:Int)))]) k=[iP ((fq c (a+1)).getD k 0)]
    rw[qR,hpe];exact dS _ _
   ·rw[hmil,o7]
   ·show ∀k,k<(kC c a).length+1→aY (kC c a).length (fun k=>[iP ((kC c a).getD k 0)]) (aT 1 [iP (IntKind.i64.wrap (aJ c+(((aX c a).length+1:Nat):Int)))]) k=[iP ((kC c (a+1)).getD k 0)]
    rw[aaj,hpm];exact dS _ _
  have ea:a=c.act.toNat:=by omega
  refine ei _ (ai (adW) (ei (dH c) (ei [] (ai (a4 (ai (fun _=>Or.inl rfl) (ai nof (Or.inl rfl)))) (ai ?_ (ai (by exact trivial) (ai (vM hc) ?_)))))))
  ·refine (ai (iE rfl) (ai (ai rfl (fun _ _=>rfl)) (ai (ai ?_ ?_) (ai (ai ?_ ?_) (ai ?_ ?_)))))
   all_goals rw[ea]
   all_goals (first | rfl | exact fun _ _=>rfl)
  refine bN (bH (dH c)=0) (fun q=>?_) fun q=>?_
  ·exact absurd (of_decide_eq_true hB) q
  refine ei [0] (ai (ai rfl (ai rfl rfl)) (ai ?_ ?_))
  ·refine (ai (ai (iE rfl) (ai (ai rfl (fun _ _=>rfl)) (ai (ai ?_ ?_) (ai (ai ?_ ?_) (ai ?_ ?_))))) rfl)
   all_goals rw[ea]
   all_goals (first | rfl | exact fun _ _=>rfl)
  ·exact (ai rfl (ai rfl (ai trivial (ai rfl (ai (ai rfl (fun _ _=>rfl)) (ai (ai rfl (fun _ _=>rfl)) (ai (ai rfl (fun _ _=>rfl)) (ai (ai rfl (fun _ _=>rfl)) (ai (ai rfl (fun _ _=>rfl)) (ai rfl (fun _ _=>rfl)))))))))))
set_option maxHeartbeats 16000000 in
theorem wD:tH Tryz.prog 96 (auD false fun c=>.tup [.p false (.agg [iP 0,aa3,aa3,aa3,aa3]),.p false (iP 12)]):=by
 refine vG Tryz.func96 ?_
 rintro (c:aB) hpre
 obtain ⟨hc,hB⟩:=hpre
 have hc:jP c:=hc
 have hB:decide (bH (dH c)=0)=false:=hB
 have hs:=iJ hc.1
 obtain ⟨⟨ha1,ha6⟩,hi16,hs24,ht32⟩:=dA hc
 have hb:aJ c=2*c.act+c.ins.length:=rfl
 have hon:∀k,(bQ c k).length≤c.trs.length:=fun k=>lQ c _ _ _
 have hof:∀k,(dh c k).length≤c.trs.length:=fun k=>lQ c _ _ _
 have hal:∀x,(dZ c x c.sts.length).length≤c.sts.length:=fun x=>uq c x _
 have htm:=lq c c.sts.length
 have hml:=q8 c c.sts.length
 have hlp:∀k,afF (c,k):=fun k=>⟨hc.2,by show c.trs.length≤1000000;omega⟩
 refine dR (.one 0 (.one 1 (.one 2 (.one 3 (.one 4 (.one 5 (.one 6 (.one 7 (.one 8 (.one 9 (.alt 10 (.one 11 (.one 12 (.one 13 .done))) (.alt 12 (.one 10 (.one 11 (.one 13 .done))) .stop)))))))))))) ?_
 refine ai ?_ (ai ?_ trivial)
 all_goals
  refine cK (alU) (c.ins) (by exact (ai rfl (fun _ _=>rfl))) ((by show c.ins.length≤1000000;omega)) ?_
  refine mY mixed fQ Tryz.func154 rfl rfl ?_
  refine ai rfl ?_
  refine fR (c.sts.length) (fun k=>[(16,.s (iA k))]) (fun k=>[⟨0,106,ahi c (fB c k)⟩]) (fun k=>True) ?_ ?_ ?_ ?_
  ·exact (ai (ai (fun _=>rfl) (iE (by omega))) rfl)
  ·exact (ai (ai (ai (ai nof rfl) rfl) (ai rfl (ai (ai (ai nof rfl) rfl) (ai (ai (ai nof (ai rfl (fun _ _=>rfl))) rfl) (ai (ai (ai nof (ai rfl (fun _ _=>rfl))) rfl) (ai (ai (ai nof (ai rfl (fun _ _=>rfl))) rfl) (ai (ai (ai nof (ai rfl (fun _ _=>rfl))) rfl) (ai (ai (ai nof (ai rfl (fun _ _=>rfl))) rfl) (ai (ai nof (ai rfl (fun _ _=>rfl))) rfl))))))))) trivial)
  ·trivial
  intro (k:Nat) ⟨hk,_⟩
  have hl:=vR c k
  refine bL (k<c.sts.length) (fun g=>?_) fun g=>?_
  ·refine ei _ (ai (ahN) (ei ((c,k)) (ei [0] (ai (a4 (ai (fun _=>Or.inl rfl) (ai nof (Or.inl rfl)))) (ai (by exact (ai (ai rfl rfl) (ai rfl (ai rfl trivial)))) (ai (by exact (ai rfl (ai trivial (ai trivial (ai trivial (ai trivial (ai trivial (ai (ai rfl (fun _ _=>rfl)) (ai trivial (ai trivial (ai rfl (fun _ _=>rfl)))))))))))) (ai (hlp k) ?_)))))))
   refine ei _ (ai (ahU) (ei ((c,k)) (ei [0] (ai (a4 (ai (fun _=>Or.inl rfl) (ai nof (Or.inl rfl)))) (ai (by exact (ai (ai rfl rfl) (ai rfl (ai rfl trivial)))) (ai (by exact (ai rfl (ai trivial (ai trivial (ai trivial (ai trivial (ai trivial (ai (ai rfl (fun _ _=>rfl)) (ai trivial (ai trivial (ai rfl (fun _ _=>rfl)))))))))))) (ai (hlp k) ?_)))))))
   refine cK (qP) (bQ c k) (by exact (ai rfl (fun _ _=>rfl))) ((by have:=hon k;show (bQ c k).length≤1000000;omega)) ?_
   refine cK (qP) (dh c k) (by exact (ai rfl (fun _ _=>rfl))) ((by have:=hof k;show (dh c k).length≤1000000;omega)) ?_
   refine ah (p:=0<(bQ c k).length) (by exact aA (show (0:Int)<(((bQ c k).length:Nat):Int)↔_ by omega)) (fun g1=>?_) (fun g1=>?_)
   ·refine ah (p:=0<(dh c k).length) (by exact aA (show (0:Int)<(((dh c k).length:Nat):Int)↔_ by omega)) (fun g2=>?_) (fun g2=>?_)
    ·refine dR (.seq [0,1,2,3,4,5,6,7,8]) ?_
     refine cK (alx) (aF (bQ c k)) (by exact (ai rfl (ai rfl (ai rfl (fun _ _=>rfl))))) (trivial) ?_
     refine cK (abz) ((2,aT 3 (kN (aF (dh c k))++kN (mP (aF (bQ c k)))))) (by exact (ai rfl (fun _ _=>rfl))) (trivial) ?_
     have e:qH c k=vD (aF (dh c k)) (mP (aF (bQ c k))):=if_pos ⟨g1,g2⟩
     have hLe:bS [sP ([120]++dec k),iP 1,iP (aF (bQ c k)).op,iP (aF (bQ c k)).idx,.seq (aF (bQ c k)).args.length (jI (aF (bQ c k)).args),iP 3,iP 0,.seq 2 (aT 3 (kN (aF (dh c k))++kN (mP (aF (bQ c k))))),iP 0,bP ((k:Int)==0)] (sgK (mJ c k)):=by
      unfold mJ
      rw[e]
      exact wm (x:=vD (aF (dh c k)) (mP (aF (bQ c k)))) (alO _ _)
     refine gI (qp) (⟨c,(fB c k).length,sS (fB c k),[120],k,aa7,iP 1,iP (aF (bQ c k)).op,iP (aF (bQ c k)).idx,.seq (aF (bQ c k)).args.length (jI (aF (bQ c k)).args),iP 3,iP 0,.seq 2 (aT 3 (kN (aF (dh c k))++kN (mP (aF (bQ c k))))),iP 0,bP ((k:Int)==0)⟩) [0,3] (by exact (ai (ai rfl rfl) (ai rfl (ai rfl (ai rfl (ai rfl (ai rfl (ai rfl (ai (ai rfl (fun _ _=>rfl)) (ai rfl (ai rfl (ai (ai rfl (fun _ _=>rfl)) (ai rfl rfl))))))))))))) (by exact (ai (ai rfl (ai rfl (ai rfl (ai rfl (ai (ai rfl (fun _ _=>rfl)) (ai (ai rfl (fun _ _=>rfl)) (ai (ai rfl (fun _ _=>rfl)) (ai (ai rfl (fun _ _=>rfl)) (ai (ai rfl (fun _ _=>rfl)) (ai rfl (fun _ _=>rfl))))))))))) (ai rfl (ai rfl (ai rfl (fun _ _=>rfl)))))) (⟨by show (fB c k).length≤1000;omega,by show k<100;omega,by show 1≤10;omega⟩) ?_
     refine nX (k) (ai (ai (fun _=>rfl) (aG (by omega))) rfl) (ai (ai (ai (ai nof rfl) rfl) (ai (ai rfl (ai rfl (ai ?_ ?_))) (ai (ai (ai nof rfl) rfl) (ai (ai (ai nof (ai rfl (fun _ _=>rfl))) rfl) (ai (ai (ai nof (ai rfl (fun _ _=>rfl))) rfl) (ai (ai (ai nof (ai rfl (fun _ _=>rfl))) rfl) (ai (ai (ai nof (ai rfl (fun _ _=>rfl))) rfl) (ai (ai (ai nof (ai rfl (fun _ _=>rfl))) rfl) (ai (ai nof (ai rfl (fun _ _=>rfl))) rfl))))))))) trivial) trivial
     ·rw[bX,aaJ];rfl
     ·rw[bX]
      exact bU rfl (fun _ _=>.of rfl) hLe
    ·have e:qH c k=aF (dh c k):=if_neg (fun h=>g2 h.2)
     have hLe:bS [sP ([120]++dec k),iP 1,iP (aF (bQ c k)).op,iP (aF (bQ c k)).idx,.seq (aF (bQ c k)).args.length (jI (aF (bQ c k)).args),iP (aF (dh c k)).op,iP (aF (dh c k)).idx,.seq (aF (dh c k)).args.length (jI (aF (dh c k)).args),iP 0,bP ((k:Int)==0)] (sgK (mJ c k)):=by
      unfold mJ
      rw[e]
      exact wm (.refl _)
     refine gI (qp) (⟨c,(fB c k).length,sS (fB c k),[120],k,aa7,iP 1,iP (aF (bQ c k)).op,iP (aF (bQ c k)).idx,.seq (aF (bQ c k)).args.length (jI (aF (bQ c k)).args),iP (aF (dh c k)).op,iP (aF (dh c k)).idx,.seq (aF (dh c k)).args.length (jI (aF (dh c k)).args),iP 0,bP ((k:Int)==0)⟩) [0,3] (by exact (ai (ai rfl rfl) (ai rfl (ai rfl (ai rfl (ai rfl (ai rfl (ai rfl (ai (ai rfl (fun _ _=>rfl)) (ai rfl (ai rfl (ai (ai rfl (fun _ _=>rfl)) (ai rfl rfl))))))))))))) (by exact (ai (ai rfl (ai rfl (ai rfl (ai rfl (ai (ai rfl (fun _ _=>rfl)) (ai (ai rfl (fun _ _=>rfl)) (ai (ai rfl (fun _ _=>rfl)) (ai (ai rfl (fun _ _=>rfl)) (ai (ai rfl (fun _ _=>rfl)) (ai rfl (fun _ _=>rfl))))))))))) (ai rfl (ai rfl (ai rfl (fun _ _=>rfl)))))) (⟨by show (fB c k).length≤1000;omega,by show k<100;omega,by show 1≤10;omega⟩) ?_
     refine nX (k) (ai (ai (fun _=>rfl) (aG (by omega))) rfl) (ai (ai (ai (ai nof rfl) rfl) (ai (ai rfl (ai rfl (ai ?_ ?_))) (ai (ai (ai nof rfl) rfl) (ai (ai (ai nof (ai rfl (fun _ _=>rfl))) rfl) (ai (ai (ai nof (ai rfl (fun _ _=>rfl))) rfl) (ai (ai (ai nof (ai rfl (fun _ _=>rfl))) rfl) (ai (ai (ai nof (ai rfl (fun _ _=>rfl))) rfl) (ai (ai (ai nof (ai rfl (fun _ _=>rfl))) rfl) (ai (ai nof (ai rfl (fun _ _=>rfl))) rfl))))))))) trivial) trivial
     ·rw[bX,aaJ];rfl
     ·rw[bX]
      exact bU rfl (fun _ _=>.of rfl) hLe
   ·have e:qH c k=aF (dh c k):=if_neg (fun h=>g1 h.1)
    have hLe:bS [sP ([120]++dec k),iP 1,iP (aF (bQ c k)).op,iP (aF (bQ c k)).idx,.seq (aF (bQ c k)).args.length (jI (aF (bQ c k)).args),iP (aF (dh c k)).op,iP (aF (dh c k)).idx,.seq (aF (dh c k)).args.length (jI (aF (dh c k)).args),iP 0,bP ((k:Int)==0)] (sgK (mJ c k)):=by
     unfold mJ
     rw[e]
     exact wm (.refl _)
    refine gI (qp) (⟨c,(fB c k).length,sS (fB c k),[120],k,aa7,iP 1,iP (aF (bQ c k)).op,iP (aF (bQ c k)).idx,.seq (aF (bQ c k)).args.length (jI (aF (bQ c k)).args),iP (aF (dh c k)).op,iP (aF (dh c k)).idx,.seq (aF (dh c k)).args.length (jI (aF (dh c k)).args),iP 0,bP ((k:Int)==0)⟩) [0,3] (by exact (ai (ai rfl rfl) (ai rfl (ai rfl (ai rfl (ai rfl (ai rfl (ai rfl (ai (ai rfl (fun _ _=>rfl)) (ai rfl (ai rfl (ai (ai rfl (fun _ _=>rfl)) (ai rfl rfl))))))))))))) (by exact (ai (ai rfl (ai rfl (ai rfl (ai rfl (ai (ai rfl (fun _ _=>rfl)) (ai (ai rfl (fun _ _=>rfl)) (ai (ai rfl (fun _ _=>rfl)) (ai (ai rfl (fun _ _=>rfl)) (ai (ai rfl (fun _ _=>rfl)) (ai rfl (fun _ _=>rfl))))))))))) (ai rfl (ai rfl (ai rfl (fun _ _=>rfl)))))) (⟨by show (fB c k).length≤1000;omega,by show k<100;omega,by show 1≤10;omega⟩) ?_
    refine nX (k) (ai (ai (fun _=>rfl) (aG (by omega))) rfl) (ai (ai (ai (ai nof rfl) rfl) (ai (ai rfl (ai rfl (ai ?_ ?_))) (ai (ai (ai nof rfl) rfl) (ai (ai (ai nof (ai rfl (fun _ _=>rfl))) rfl) (ai (ai (ai nof (ai rfl (fun _ _=>rfl))) rfl) (ai (ai (ai nof (ai rfl (fun _ _=>rfl))) rfl) (ai (ai (ai nof (ai rfl (fun _ _=>rfl))) rfl) (ai (ai (ai nof (ai rfl (fun _ _=>rfl))) rfl) (ai (ai nof (ai rfl (fun _ _=>rfl))) rfl))))))))) trivial) trivial
    ·rw[bX,aaJ];rfl
    ·rw[bX]
     exact bU rfl (fun _ _=>.of rfl) hLe
  have e0:dD c 0=fB c k:=by rw[show k=c.sts.length by omega];rfl
  clear g hl
  refine fR (c.sts.length) (fun j=>[(59,.s (iA j))]) (fun j=>[⟨0,106,ahi c (dD c j)⟩]) (fun j=>True) ?_ ?_ ?_ ?_
  ·exact (ai (ai (fun _=>rfl) (iE (by omega))) rfl)
  ·refine (ai (ai (ai (ai nof rfl) rfl) (ai (ai rfl (ai rfl (ai ?_ ?_))) (ai (ai (ai nof rfl) rfl) (ai (ai (ai nof (ai rfl (fun _ _=>rfl))) rfl) (ai (ai (ai nof (ai rfl (fun _ _=>rfl))) rfl) (ai (ai (ai nof (ai rfl (fun _ _=>rfl))) rfl) (ai (ai (ai nof (ai rfl (fun _ _=>rfl))) rfl) (ai (ai (ai nof (ai rfl (fun _ _=>rfl))) rfl) (ai (ai nof (ai rfl (fun _ _=>rfl))) rfl))))))))) trivial)
   ·rw[e0]
   ·rw[e0];exact fun _ _=>.of rfl
  ·trivial
  intro (j:Nat) ⟨hj,_⟩
  have hl:=qW c j
  have htj:=lq c j
  refine bL (j<c.sts.length) (fun g=>?_) fun g=>?_
  ·refine iX (j) (c.sts.length) ?_
   refine ah (p:=0<(c.sts.getD j st0).wt) (aA Iff.rfl) (fun g1=>?_) (fun g1=>?_)
   ·have e1:dD c (j+1)=dD c j++[adu c j]:=by rw[dD,if_pos g1]
    have em:=um c (n:=c.sts.length) g
    refine dR (.one 0 (.one 1 (.one 2 (.one 3 (.one 4 (.one 5 (.one 6 (.one 7 (.one 8 (.one 10 (.one 11 (.one 9 (.one 12 (.wr 13 .done)))))))))))))) ?_
    refine iX (j) ((fD c c.sts.length).length) ?_
    refine cK (jL) ((fD c c.sts.length).getD j 0) (by exact (iE (by simp only[zz,reduceCtorEq]))) (trivial) ?_
    refine gI (qp) (⟨c,(dD c j).length,sS (dD c j),[116],j,aa7,iP 2,iP 1,iP ((fD c c.sts.length).getD j 0),aa3,iP 0,iP 0,aa3,iP (c.sts.getD j st0).wt,bP false⟩) [0,4] (by exact (ai (ai rfl rfl) (ai rfl (ai rfl (ai rfl (ai rfl (ai rfl (ai rfl (ai rfl (ai rfl (ai rfl (ai rfl (ai (iE (by simp only[zz,reduceCtorEq])) rfl))))))))))))) (by exact (ai (ai rfl (ai rfl (ai rfl (ai rfl (ai (ai rfl (fun _ _=>rfl)) (ai (ai rfl (fun _ _=>rfl)) (ai (ai rfl (fun _ _=>rfl)) (ai (ai rfl (fun _ _=>rfl)) (ai (ai rfl (fun _ _=>rfl)) (ai rfl (fun _ _=>rfl))))))))))) (ai rfl (ai rfl (ai rfl (fun _ _=>rfl)))))) (⟨by show (dD c j).length≤1000;omega,by show j<100;omega,by show 1≤10;omega⟩) ?_
    refine nX (j) (ai (ai (fun _=>rfl) (aG (by omega))) rfl) (ai (ai (ai (ai nof rfl) rfl) (ai (ai rfl (ai rfl (ai ?_ ?_))) (ai (ai (ai nof rfl) rfl) (ai (ai (ai nof (ai rfl (fun _ _=>rfl))) rfl) (ai (ai (ai nof (ai rfl (fun _ _=>rfl))) rfl) (ai (ai (ai nof (ai rfl (fun _ _=>rfl))) rfl) (ai (ai (ai nof (ai rfl (fun _ _=>rfl))) rfl) (ai (ai (ai nof (ai rfl (fun _ _=>rfl))) rfl) (ai (ai nof (ai rfl (fun _ _=>rfl))) rfl))))))))) trivial) trivial
    ·rw[e1,aaJ];rfl
    ·rw[e1]
     exact bU rfl (fun _ _=>.of rfl) (by unfold adu;rw[←em];exact adn)
   ·have e1:dD c (j+1)=dD c j:=by rw[dD,if_neg g1]
    refine nX (j) (ai (ai (fun _=>rfl) (aG (by omega))) rfl) (ai (ai (ai (ai nof rfl) rfl) (ai (ai rfl (ai rfl (ai ?_ ?_))) (ai (ai (ai nof rfl) rfl) (ai (ai (ai nof (ai rfl (fun _ _=>rfl))) rfl) (ai (ai (ai nof (ai rfl (fun _ _=>rfl))) rfl) (ai (ai (ai nof (ai rfl (fun _ _=>rfl))) rfl) (ai (ai (ai nof (ai rfl (fun _ _=>rfl))) rfl) (ai (ai (ai nof (ai rfl (fun _ _=>rfl))) rfl) (ai (ai nof (ai rfl (fun _ _=>rfl))) rfl))))))))) trivial) trivial
    all_goals rw[e1]
    exact fun _ _=>.of rfl
  have e0:gH c 0=dD c j:=by rw[show j=c.sts.length by omega];exact arR _
  clear g hl htj
  refine fR (c.trs.length) (fun i=>[(38,.s (iA i))]) (fun i=>[⟨0,106,ahi c (gH c i)⟩]) (fun i=>True) ?_ ?_ ?_ ?_
  ·exact (ai (ai (fun _=>rfl) (iE (by omega))) rfl)
  ·refine (ai (ai (ai (ai nof rfl) rfl) (ai (ai rfl (ai rfl (ai ?_ ?_))) (ai (ai (ai nof rfl) rfl) (ai (ai (ai nof (ai rfl (fun _ _=>rfl))) rfl) (ai (ai (ai nof (ai rfl (fun _ _=>rfl))) rfl) (ai (ai (ai nof (ai rfl (fun _ _=>rfl))) rfl) (ai (ai (ai nof (ai rfl (fun _ _=>rfl))) rfl) (ai (ai (ai nof (ai rfl (fun _ _=>rfl))) rfl) (ai (ai nof (ai rfl (fun _ _=>rfl))) rfl))))))))) trivial)
   ·rw[e0]
   ·rw[e0];exact fun _ _=>.of rfl
  ·trivial
  intro (i:Nat) ⟨hi,_⟩
  have hl:=jw c i
  refine bL (i<c.trs.length) (fun g=>?_) fun g=>?_
  ·by_cases hcl:ae1 c i=true
   ·refine ei _ (ai (aep) (ei ((c,i)) (ei [0] (ai (a4 (ai (fun _=>Or.inl rfl) (ai nof (Or.inl rfl)))) (ai (by exact (ai (ai rfl rfl) rfl)) (ai (by exact (ai rfl (ai rfl (ai trivial (ai trivial (ai trivial (ai (ai rfl (fun _ _=>rfl)) (ai (ai rfl (fun _ _=>rfl)) (ai (ai rfl (fun _ _=>rfl)) (ai (ai rfl (fun _ _=>rfl)) (ai rfl (fun _ _=>rfl)))))))))))) (ai (⟨⟨hc,g⟩,hcl⟩) ?_)))))))
    refine dR (.one 0 (.one 1 (.one 2 (.one 3 (.one 4 (.one 5 (.wr 6 .done))))))) ?_
    refine gI (qp) (⟨c,(gH c i).length,sS (gH c i),[122],i,aa7,iP 0,iP (nu c i).op,iP (nu c i).idx,.seq (nu c i).args.length (jI (nu c i).args),iP 0,iP 0,aa3,iP 0,bP false⟩) [0,5] (by exact (ai (ai rfl rfl) (ai rfl (ai rfl (ai rfl (ai rfl (ai rfl (ai rfl (ai (ai rfl (fun _ _=>rfl)) (ai rfl (ai rfl (ai rfl (ai rfl rfl))))))))))))) (by exact (ai (ai rfl (ai rfl (ai rfl (ai rfl (ai (ai rfl (fun _ _=>rfl)) (ai (ai rfl (fun _ _=>rfl)) (ai (ai rfl (fun _ _=>rfl)) (ai (ai rfl (fun _ _=>rfl)) (ai (ai rfl (fun _ _=>rfl)) (ai rfl (fun _ _=>rfl))))))))))) (ai rfl (ai rfl (ai rfl (fun _ _=>rfl)))))) (⟨by show (gH c i).length≤1000;omega,by show i<100;omega,by show 1≤10;omega⟩) ?_
    refine nX (i) (ai (ai (fun _=>rfl) (aG (by omega))) rfl) (ai (ai (ai (ai nof rfl) rfl) (ai (ai rfl (ai rfl (ai ?_ ?_))) (ai (ai (ai nof rfl) rfl) (ai (ai (ai nof (ai rfl (fun _ _=>rfl))) rfl) (ai (ai (ai nof (ai rfl (fun _ _=>rfl))) rfl) (ai (ai (ai nof (ai rfl (fun _ _=>rfl))) rfl) (ai (ai (ai nof (ai rfl (fun _ _=>rfl))) rfl) (ai (ai (ai nof (ai rfl (fun _ _=>rfl))) rfl) (ai (ai nof (ai rfl (fun _ _=>rfl))) rfl))))))))) trivial) trivial
    ·rw[mg,aaJ];rfl
    ·rw[mg]
     exact bU rfl (fun _ _=>.of rfl) (adX (x:=nu c i))
   ·have hcf:ae1 c i=false:=by simpa using hcl
    refine ei _ (ai (apf) (ei ((c,i)) (ei [0] (ai (a4 (ai (fun _=>Or.inl rfl) (ai nof (Or.inl rfl)))) (ai (by exact (ai (ai rfl rfl) rfl)) (ai (by exact (ai rfl (ai rfl (ai trivial (ai trivial (ai trivial (ai (ai rfl (fun _ _=>rfl)) (ai (ai rfl (fun _ _=>rfl)) (ai (ai rfl (fun _ _=>rfl)) (ai (ai rfl (fun _ _=>rfl)) (ai rfl (fun _ _=>rfl)))))))))))) (ai (⟨⟨hc,g⟩,hcf⟩) ?_)))))))
    refine ei [0] (ai (ai rfl (ai rfl rfl)) (ai ?_ ?_))
    ·exact (ai (ai rfl (ai rfl (ai rfl (ai rfl rfl)))) rfl)
    ·exact (ai rfl (ai rfl (ai trivial (ai rfl (ai (ai rfl (fun _ _=>rfl)) (ai (ai rfl (fun _ _=>rfl)) (ai (ai rfl (fun _ _=>rfl)) (ai (ai rfl (fun _ _=>rfl)) (ai (ai rfl (fun _ _=>rfl)) (ai rfl (fun _ _=>rfl)))))))))))
  have e0:aX c 0=gH c i:=by rw[show i=c.trs.length by omega];rfl
  clear g hl
  have hG:=jw c c.trs.length
  refine fR (c.act.toNat) (fun a=>[(70,.s (iA a))]) (fun a=>[⟨2,32,ctV c (aX c a) (isW (fq c a)) (isW (kC c a))⟩]) (fun a=>True) ?_ ?_ ?_ ?_
  ·exact (ai (ai (fun _=>rfl) (iE (by omega))) rfl)
  ·refine (ai (ai (ai (ai nof rfl) rfl) (ai (ai (ai nof (ai rfl (fun _ _=>rfl))) rfl) (ai (ai rfl (ai rfl (ai ?_ ?_))) (ai rfl rfl)))) trivial)
   ·rw[e0]
   ·rw[e0];exact fun _ _=>.of rfl
  ·trivial
  intro (a:Nat) ⟨hk,_⟩
  have hP:=jq c a
  have hpl:=lI c a
  have hmil:=o7 c a
  refine ah (p:=a<c.act.toNat) (by exact aA (show ((a:Nat):Int)<c.act↔_ by omega)) (fun g=>?_) (fun g=>?_)
  ·have hpn:pR c a=aJ c+((gH c c.trs.length).length:Int)+2*(a:Int):=rfl
   have hpe:IntKind.i64.wrap (aJ c+((aX c a).length:Int))=pR c a:=by rw[dF (by omega) (by omega)];omega
   have hpm:IntKind.i64.wrap (aJ c+(((aX c a).length+1:Nat):Int))=pR c a+1:=by rw[dF (by omega) (by omega)];omega
   have hw1:IntKind.i64.wrap ((a:Int)+1)=((a+1:Nat):Int):=aG (by omega)
   have hx:(strOf six).extract ((a:Nat):Int).toNat (IntKind.i64.wrap ((a:Int)+1)).toNat=strOf [UInt8.ofNat (97+a)]:=by
    rw[hw1,aeI,aeI,uI,abo (by omega)]
   refine ai (ai (abw _) (ai (by rw[hw1];show (a:Int)≤_;omega) (by rw[hw1];show ((a+1:Nat):Int)≤6;omega))) ?_
   refine ei (mK.unroll 3) ?_
   refine ai (ai (by decide) (by decide)) ?_
   refine ai rfl ?_
   refine ai (by show ((((strOf six).extract ((a:Nat):Int).toNat (IntKind.i64.wrap ((a:Int)+1)).toNat).size+1:Nat):Int)≤9223372036854775807;rw[hx];show ((2:Nat):Int)≤9223372036854775807;decide) ?_
   refine ei _ (ai (yu) (ei ((c,((a:Int),true))) (ei [0] (ai (a4 (ai (fun _=>Or.inl rfl) (ai nof (Or.inl rfl)))) (ai (by exact (ai (ai rfl rfl) (ai rfl rfl))) (ai (by exact (ai rfl (ai trivial (ai trivial (ai trivial (ai trivial (ai (ai rfl (fun _ _=>rfl)) (ai trivial (ai (ai rfl (fun _ _=>rfl)) (ai trivial trivial)))))))))) (ai (⟨hc.2,by show c.sts.length≤1000000;omega⟩) ?_)))))))
   refine cK (qP) (dZ c ((a:Int),true) c.sts.length) (by exact (ai rfl (fun _ _=>rfl))) ((by have:=hal ((a:Int),true);show (dZ c ((a:Int),true) c.sts.length).length≤1000000;omega)) ?_
   refine dR (.seq [0,1,2,3,4,5,6,7,8,9]) ?_
   refine ai (by show ((((strOf six).extract ((a:Nat):Int).toNat (IntKind.i64.wrap ((a:Int)+1)).toNat).size+1:Nat):Int)≤9223372036854775807;rw[hx];show ((2:Nat):Int)≤9223372036854775807;decide) ?_
   refine ai (mxL (n:=(fq c a).length+1) (by omega) (by decide)) (ai (dW 1 rfl) ?_)
   refine ai (mxL (n:=(aX c a).length+1) (by omega) (by decide)) (ai (lt1 rfl) ?_)
   refine ai (ai (by decide) (by decide)) ?_
   refine ai rfl ?_
   refine ai (by show ((((strOf six).extract ((a:Nat):Int).toNat (IntKind.i64.wrap ((a:Int)+1)).toNat).size+1:Nat):Int)≤9223372036854775807;rw[hx];show ((2:Nat):Int)≤9223372036854775807;decide) ?_
   refine ei _ (ai (yu) (ei ((c,((a:Int),false))) (ei [0] (ai (a4 (ai (fun _=>Or.inl rfl) (ai nof (Or.inl rfl)))) (ai (by exact (ai (ai rfl rfl) (ai rfl rfl))) (ai (by exact (ai rfl (ai trivial (ai trivial (ai trivial (ai trivial (ai (ai rfl (fun _ _=>rfl)) (ai trivial (ai (ai rfl (fun _ _=>rfl)) (ai trivial trivial)))))))))) (ai (⟨hc.2,by show c.sts.length≤1000000;omega⟩) ?_)))))))
   refine cK (qP) (dZ c ((a:Int),false) c.sts.length) (by exact (ai rfl (fun _ _=>rfl))) ((by have:=hal ((a:Int),false);show (dZ c ((a:Int),false) c.sts.length).length≤1000000;omega)) ?_
   refine dR (.seq [0,1,2,3,4,5,6,7,8,9]) ?_
   refine ai (mxL (n:=(kC c a).length+1) (by omega) (by decide)) (ai (dW 1 rfl) ?_)
   refine ai (mxL (n:=((aX c a).length+1)+1) (by omega) (by decide)) (ai (lt1 rfl) ?_)
   refine nX (a) (ai (ai (fun _=>rfl) (aG (by omega))) rfl) (ai (ai (ai (ai nof rfl) rfl) (ai (ai (ai nof (ai rfl (fun _ _=>rfl))) rfl) (ai (ai rfl (ai rfl (ai ?_ ?_))) (ai (ai rfl (ai rfl (ai ?_ ?_))) (ai rfl (ai rfl (ai ?_ ?_))))))) trivial) trivial
   ·have:=jq c (a+1)
    show (aX c a).length+1+1=(aX c (a+1)).length
    omega
   ·rw[aX]
    refine bU (l:=aX c a++[pJ c a true]) (x:=pJ c a false) (by rw[aaJ];rfl) (fun q hq=>?_) ?_
    ·exact bU (l:=aX c a) (x:=pJ c a true) rfl (fun _ _=>.of rfl) (tK (by show (strOf six).extract _ _++strOf [112]=_;rw[hx];rfl)) q (by rw[aaJ] at hq;exact hq)
    ·exact tK (by show (strOf six).extract _ _++strOf [109]=_;rw[hx];rfl)
   ·rw[hpl,lI]
   ·show ∀k,k<(fq c a).length+1→aY (fq c a).length (fun k=>[iP ((fq c a).getD k 0)]) (aT 1 [iP (IntKind.i64.wrap (aJ c+((aX c a).length:Int)))]) k=[iP ((fq c (a+1)).getD k 0)]
    rw[qR,hpe];exact dS _ _
   ·rw[hmil,o7]
   ·show ∀k,k<(kC c a).length+1→aY (kC c a).length (fun k=>[iP ((kC c a).getD k 0)]) (aT 1 [iP (IntKind.i64.wrap (aJ c+(((aX c a).length+1:Nat):Int)))]) k=[iP ((kC c (a+1)).getD k 0)]
    rw[aaj,hpm];exact dS _ _
  have ea:a=c.act.toNat:=by omega
  refine ei _ (ai (adW) (ei (dH c) (ei [] (ai (a4 (ai (fun _=>Or.inl rfl) (ai nof (Or.inl rfl)))) (ai ?_ (ai (by exact trivial) (ai (vM hc) ?_)))))))
  ·refine (ai (iE rfl) (ai (ai rfl (fun _ _=>rfl)) (ai (ai ?_ ?_) (ai (ai ?_ ?_) (ai ?_ ?_)))))
   all_goals rw[ea]
   all_goals (first | rfl | exact fun _ _=>rfl)
  refine bN (bH (dH c)=0) (fun q=>?_) fun q=>?_
  ·refine ei [0] (ai (ai rfl (ai rfl rfl)) (ai ?_ ?_))
   ·exact (ai (ai rfl (ai rfl (ai rfl (ai rfl rfl)))) rfl)
   ·exact (ai rfl (ai rfl (ai trivial (ai rfl (ai (ai rfl (fun _ _=>rfl)) (ai (ai rfl (fun _ _=>rfl)) (ai (ai rfl (fun _ _=>rfl)) (ai (ai rfl (fun _ _=>rfl)) (ai (ai rfl (fun _ _=>rfl)) (ai rfl (fun _ _=>rfl)))))))))))
  exact absurd q (of_decide_eq_false hB)
theorem alh:av Tryz.prog 13 (bO (fun c:aB=>[iG c]) jr ard):=by
 have h:av Tryz.prog 13 (bO (fun c:aB=>[iG c]) jr vo):=by
  refine vI [51,95,96,5000029] Tryz.func13 ?_
  rintro (c:aB) hpre
  have ho:jr c:=hpre
  refine mY mixed fQ Tryz.func51 rfl rfl ?_
  refine ai rfl ?_
  refine cK (aaf) (c) (by exact (ai rfl (ai (ai rfl (fun _ _=>rfl)) (ai (ai rfl (fun _ _=>rfl)) (ai rfl (fun _ _=>rfl)))))) (ho) ?_
  refine bN (bV c=0) (fun h1=>?_) fun h1=>?_
  ·have e:cu c=bV c:=if_pos h1
   have h2:¬cu c=0:=by rw[e];exact h1
   refine eF (vo c) ?_
   rw[vo,if_neg h2,e]
   exact (ai (ai rfl (ai rfl (ai rfl (ai rfl rfl)))) rfl)
  have hc:jP c:=⟨h1,ho⟩
  obtain ⟨⟨ha1,ha6⟩,hi16,hs24,ht32⟩:=dA hc
  have hb:aJ c=2*c.act+c.ins.length:=rfl
  have hwf:IntKind.i64.wrap (IntKind.i64.wrap (2*c.act)+(c.ins.length:Int))=aJ c:=by
   rw[dF (n:=2*c.act) (by omega) (by omega),dF (by omega) (by omega)];rfl
  refine gI (wJ) (c) [4] (by exact (ai rfl rfl)) (by exact (ai rfl (ai (iE (by omega)) (ai rfl (ai rfl (ai (ai rfl (fun _ _=>rfl)) (ai (ai rfl (fun _ _=>rfl)) (ai (ai rfl (fun _ _=>rfl)) (ai rfl (ai rfl rfl)))))))))) (hc) ?_
  by_cases hB:bH (dH c)=0
  ·have e0:cu c=0:=mo.2 ⟨h1,hB⟩
   refine gI (yZ) (c) [4] (by exact (ai rfl rfl)) (by exact (ai rfl (ai rfl (ai rfl (ai rfl (ai (ai rfl (fun _ _=>rfl)) (ai (ai rfl (fun _ _=>rfl)) (ai (ai rfl (fun _ _=>rfl)) (ai (ai rfl (fun _ _=>rfl)) (ai (ai rfl (fun _ _=>rfl)) (ai rfl (fun _ _=>rfl)))))))))))) (⟨hc,decide_eq_true hB⟩) ?_
   refine dR (.seq [0,1,2,3,4,5]) ?_
   refine eF (vo c) ?_
   rw[vo,if_pos e0]
   exact (ai (ai rfl (ai (ai rfl (fun _ _=>rfl)) (ai (ai rfl (fun _ _=>rfl)) (ai (ai rfl (fun _ _=>rfl)) (ai rfl (fun _ _=>rfl)))))) rfl)
  ·have e:cu c=12:=by unfold cu;rw[if_neg (fun h=>h h1),if_pos hB]
   have h2:¬cu c=0:=by rw[e];decide
   refine gI (wD) (c) [4] (by exact (ai rfl rfl)) (by exact (ai rfl (ai rfl (ai rfl (ai rfl (ai (ai rfl (fun _ _=>rfl)) (ai (ai rfl (fun _ _=>rfl)) (ai (ai rfl (fun _ _=>rfl)) (ai (ai rfl (fun _ _=>rfl)) (ai (ai rfl (fun _ _=>rfl)) (ai rfl (fun _ _=>rfl)))))))))))) (⟨hc,decide_eq_false hB⟩) ?_
   refine dR (.seq [0,1,2,3,4,5]) ?_
   refine eF (vo c) ?_
   rw[vo,if_neg h2,e]
   exact (ai (ai rfl (ai rfl (ai rfl (ai rfl rfl)))) rfl)
 exact gW h fun c _=>avw c
def sK (c:aB) (s:dw):Int:=if ¬bR c s=0 then bR c s else if (anE c s).isSome then 0 else 21
theorem apz:av Tryz.prog 16 (bO (fun c:aB=>[iG c]) jr (fun c=>ahb (cu c) (fD c c.sts.length))):=by
 have h:av Tryz.prog 16 (bO (fun c:aB=>[iG c]) jr (fun c=>lT (cu c) (fD c c.sts.length))):=by
  refine vI [51,95,96,5000029] Tryz.func16 ?_
  rintro (c:aB) hpre
  have ho:jr c:=hpre
  refine mY mixed fQ Tryz.func51 rfl rfl ?_
  refine ai rfl ?_
  refine cK (aaf) (c) (by exact (ai rfl (ai (ai rfl (fun _ _=>rfl)) (ai (ai rfl (fun _ _=>rfl)) (ai rfl (fun _ _=>rfl)))))) (ho) ?_
  refine bN (bV c=0) (fun h1=>?_) fun h1=>?_
  ·have e:cu c=bV c:=if_pos h1
   have h2:¬cu c=0:=by rw[e];exact h1
   refine bT (by exact bn (p:=True) ⟨fun _=>trivial,fun _=>h1⟩ |>.2 trivial) ?_
   refine eF (lT (cu c) (fD c c.sts.length)) ?_
   rw[lT,if_neg h2,e]
   exact (ai rfl rfl)
  have hc:jP c:=⟨h1,ho⟩
  obtain ⟨⟨ha1,ha6⟩,hi16,hs24,ht32⟩:=dA hc
  have hb:aJ c=2*c.act+c.ins.length:=rfl
  have hwf:IntKind.i64.wrap (IntKind.i64.wrap (2*c.act)+(c.ins.length:Int))=aJ c:=by
   rw[dF (n:=2*c.act) (by omega) (by omega),dF (by omega) (by omega)];rfl
  refine gI (wJ) (c) [3] (by exact (ai rfl rfl)) (by exact (ai rfl (ai (iE (by omega)) (ai rfl (ai rfl (ai (ai rfl (fun _ _=>rfl)) (ai (ai rfl (fun _ _=>rfl)) (ai (ai rfl (fun _ _=>rfl)) (ai rfl (ai rfl rfl)))))))))) (hc) ?_
  by_cases hB:bH (dH c)=0
  ·have e0:cu c=0:=mo.2 ⟨h1,hB⟩
   refine gI (yZ) (c) [3] (by exact (ai rfl rfl)) (by exact (ai rfl (ai rfl (ai rfl (ai rfl (ai (ai rfl (fun _ _=>rfl)) (ai (ai rfl (fun _ _=>rfl)) (ai (ai rfl (fun _ _=>rfl)) (ai (ai rfl (fun _ _=>rfl)) (ai (ai rfl (fun _ _=>rfl)) (ai rfl (fun _ _=>rfl)))))))))))) (⟨hc,decide_eq_true hB⟩) ?_
   refine dR (.seq [0,1,2,3,4,5]) ?_
   refine eF (lT (cu c) (fD c c.sts.length)) ?_
   rw[lT,if_pos e0]
   exact (ai (ai rfl (fun _ _=>rfl)) rfl)
  ·have e:cu c=12:=by unfold cu;rw[if_neg (fun h=>h h1),if_pos hB]
   have h2:¬cu c=0:=by rw[e];decide
   refine gI (wD) (c) [3] (by exact (ai rfl rfl)) (by exact (ai rfl (ai rfl (ai rfl (ai rfl (ai (ai rfl (fun _ _=>rfl)) (ai (ai rfl (fun _ _=>rfl)) (ai (ai rfl (fun _ _=>rfl)) (ai (ai rfl (fun _ _=>rfl)) (ai (ai rfl (fun _ _=>rfl)) (ai rfl (fun _ _=>rfl)))))))))))) (⟨hc,decide_eq_false hB⟩) ?_
   refine dR (.seq [0,1,2,3,4,5]) ?_
   refine eF (lT (cu c) (fD c c.sts.length)) ?_
   rw[lT,if_neg h2,e]
   exact (ai rfl rfl)
 exact gW h fun c _=>apB _ _
theorem anf:av Tryz.prog 18 (bO (fun c:aB=>[iG c]) jr (fun c=>ahb (cu c) (bZ c c.sts.length))):=by
 have h:av Tryz.prog 18 (bO (fun c:aB=>[iG c]) jr (fun c=>lT (cu c) (bZ c c.sts.length))):=by
  refine vI [51,95,96,5000029] Tryz.func18 ?_
  rintro (c:aB) hpre
  have ho:jr c:=hpre
  refine mY mixed fQ Tryz.func51 rfl rfl ?_
  refine ai rfl ?_
  refine cK (aaf) (c) (by exact (ai rfl (ai (ai rfl (fun _ _=>rfl)) (ai (ai rfl (fun _ _=>rfl)) (ai rfl (fun _ _=>rfl)))))) (ho) ?_
  refine bN (bV c=0) (fun h1=>?_) fun h1=>?_
  ·have e:cu c=bV c:=if_pos h1
   have h2:¬cu c=0:=by rw[e];exact h1
   refine bT (by exact bn (p:=True) ⟨fun _=>trivial,fun _=>h1⟩ |>.2 trivial) ?_
   refine eF (lT (cu c) (bZ c c.sts.length)) ?_
   rw[lT,if_neg h2,e]
   exact (ai rfl rfl)
  have hc:jP c:=⟨h1,ho⟩
  obtain ⟨⟨ha1,ha6⟩,hi16,hs24,ht32⟩:=dA hc
  have hb:aJ c=2*c.act+c.ins.length:=rfl
  have hwf:IntKind.i64.wrap (IntKind.i64.wrap (2*c.act)+(c.ins.length:Int))=aJ c:=by
   rw[dF (n:=2*c.act) (by omega) (by omega),dF (by omega) (by omega)];rfl
  refine gI (wJ) (c) [3] (by exact (ai rfl rfl)) (by exact (ai rfl (ai (iE (by omega)) (ai rfl (ai rfl (ai (ai rfl (fun _ _=>rfl)) (ai (ai rfl (fun _ _=>rfl)) (ai (ai rfl (fun _ _=>rfl)) (ai rfl (ai rfl rfl)))))))))) (hc) ?_
  by_cases hB:bH (dH c)=0
  ·have e0:cu c=0:=mo.2 ⟨h1,hB⟩
   refine gI (yZ) (c) [3] (by exact (ai rfl rfl)) (by exact (ai rfl (ai rfl (ai rfl (ai rfl (ai (ai rfl (fun _ _=>rfl)) (ai (ai rfl (fun _ _=>rfl)) (ai (ai rfl (fun _ _=>rfl)) (ai (ai rfl (fun _ _=>rfl)) (ai (ai rfl (fun _ _=>rfl)) (ai rfl (fun _ _=>rfl)))))))))))) (⟨hc,decide_eq_true hB⟩) ?_
   refine dR (.seq [0,1,2,3,4,5]) ?_
   refine eF (lT (cu c) (bZ c c.sts.length)) ?_
   rw[lT,if_pos e0]
   exact (ai (ai rfl (fun _ _=>rfl)) rfl)
  ·have e:cu c=12:=by unfold cu;rw[if_neg (fun h=>h h1),if_pos hB]
   have h2:¬cu c=0:=by rw[e];decide
   refine gI (wD) (c) [3] (by exact (ai rfl rfl)) (by exact (ai rfl (ai rfl (ai rfl (ai rfl (ai (ai rfl (fun _ _=>rfl)) (ai (ai rfl (fun _ _=>rfl)) (ai (ai rfl (fun _ _=>rfl)) (ai (ai rfl (fun _ _=>rfl)) (ai (ai rfl (fun _ _=>rfl)) (ai rfl (fun _ _=>rfl)))))))))))) (⟨hc,decide_eq_false hB⟩) ?_
   refine dR (.seq [0,1,2,3,4,5]) ?_
   refine eF (lT (cu c) (bZ c c.sts.length)) ?_
   rw[lT,if_neg h2,e]
   exact (ai rfl rfl)
 exact gW h fun c _=>apB _ _
structure VaA where
 o:List Bool
 a:List Bool
 d:List Bool
def awj (x:VaA):Prop:=0<x.o.length∧x.o.length≤1000∧x.a.length≤1000∧x.d.length=x.a.length
def vaK (x:VaA) (k:Nat):List Bool:=x.o++(List.range k).map (jY x.a x.d)
theorem zi (x:VaA) (k:Nat):(vaK x k).length=x.o.length+k:=by unfold vaK;rw[aaJ,fJ]
theorem akq (x:VaA) (k:Nat):vaK x (k+1)=vaK x k++[jY x.a x.d k]:=by unfold vaK;rw[qo,ava]
theorem aiV:av Tryz.prog 63 (bC (fun x:VaA=>[qh x.o,qh x.a,qh x.d]) awj (fun x=>iR (vaK x x.a.length))):=by
 refine vI [61] Tryz.func63 ?_
 rintro (x:VaA) hpre
 obtain ⟨h0,h1,h2,h3⟩:=hpre
 have h0:0<x.o.length:=h0
 have h1:x.o.length≤1000:=h1
 have h2:x.a.length≤1000:=h2
 have h3:x.d.length=x.a.length:=h3
 refine mY mixed fQ Tryz.func61 rfl rfl ?_
 refine ai rfl ?_
 intro b hb
 refine iB (fun hb0=>?_) (fun hb0=>?_)
 ·have hb1:x.o.length=0:=hb hb0
  exact absurd hb1 (by omega)
 refine ai (mxL (n:=0+x.o.length) (by omega) (by decide)) (ai (fun _ _=>rfl) ?_)
 refine fR (x.a.length) (fun k=>[(14,.s (iA k)),(7,vP (vaK x k))]) (fun k=>[]) (fun k=>True) ?_ ?_ ?_ ?_
 ·refine (ai (ai (ai (fun _=>rfl) (iE (by omega))) rfl) (ai rfl (ai rfl (ai ?_ ?_))))
  ·show 0+x.o.length=(vaK x 0).length
   rw[zi];omega
  ·intro q hq
   have hq:q<0+x.o.length:=hq
   show aY 0 (aT 1 []) (fun k=>[bP (x.o.getD k false)]) q=[bP ((vaK x 0).getD q false)]
   rw[abX q hq]
   show [bP (x.o.getD q false)]=[bP ((x.o++[]).getD q false)]
   rw[arR]
 ·exact trivial
 ·trivial
 intro (k:Nat) ⟨hk,_⟩
 have hlk:=zi x k
 refine bL (k<x.a.length) (fun g=>?_) fun g=>?_
 ·refine iX (k) (x.a.length) ?_
  refine aC (b:=x.a.getD k false) rfl (fun q=>?_) (fun q=>?_)
  ·refine iX (k) (x.d.length) ?_
   refine ai (mxL (n:=(vaK x k).length+1) (by omega) (by decide)) (ai (dW 1 rfl) ?_)
   refine nX (k) (ai (ai (ai (fun _=>rfl) (aG (by omega))) rfl) (ai rfl (ai rfl (ai ?_ ?_)))) trivial trivial
   ·rw[zi,zi];rfl
   ·rw[akq,show jY x.a x.d k=x.d.getD k false by unfold jY;rw[q,aer]];exact kY _ _
  ·refine ai (mxL (n:=(vaK x k).length+1) (by omega) (by decide)) (ai (dW 1 rfl) ?_)
   refine nX (k) (ai (ai (ai (fun _=>rfl) (aG (by omega))) rfl) (ai rfl (ai rfl (ai ?_ ?_)))) trivial trivial
   ·rw[zi,zi];rfl
   ·rw[akq,show jY x.a x.d k=false by unfold jY;rw[q,apT]];exact kY _ _
 ·obtain rfl:k=x.a.length:=by omega
  refine eN _ ?_
  exact (ai rfl (fun _ _=>rfl))
def axg (c:aB):Ob:=.cells 106 [iA (aJ c),.any,.any,.any,.any,.any,.any,.any,.any]
theorem aij:av Tryz.prog 60 { A:=aB×dw,args:=fun a=>[.own 0 0,sH (dH a.1),kE a.2],objs:=fun a=>[axg a.1],pre:=fun a=>uG a∧aaM a.2,res:=fun a=>.tup [iR (pY a.1 a.2),iP 0],objs':=fun _=>[],fresh:=true,ro:=1 }:=by
 refine vF Tryz.func60 ?_
 rintro ⟨c,s⟩ hpre
 obtain ⟨hr,hsl⟩:=hpre
 have hr:uG (c,s):=hr
 obtain ⟨_,_,_,hl,_⟩:=mq hr
 have hc:jP c:=hr.1
 obtain ⟨⟨ha1,ha6⟩,hi16,hs24,ht32⟩:=dA hc
 have hb:aJ c=2*c.act+c.ins.length:=rfl
 have hln:dG (dH c)=aJ c+(dH c).sgs.length:=rfl
 have htl:∀k,k≤(aJ c).toNat→((dn s).take k).length=k:=fun k hk=>by rw[al5];omega
 refine fR ((aJ c).toNat) (fun k=>[(17,.s (iA k)),(8,vP ((dn s).take k))]) (fun k=>[]) (fun k=>True) ?_ ?_ ?_ ?_
 ·exact (ai (ai (ai (fun _=>rfl) (iE (by omega))) rfl) rfl)
 ·exact trivial
 ·trivial
 intro (k:Nat) ⟨hk,_⟩
 have hlk:=htl k hk
 refine ah (p:=k<(aJ c).toNat) (by exact aA (show ((k:Nat):Int)<aJ c↔_ by omega)) (fun g=>?_) (fun g=>?_)
 ·refine cK (aoi) ((dH c,s,k)) (by exact (ai (ai rfl (ai (ai rfl (fun _ _=>rfl)) (ai (ai rfl (fun _ _=>rfl)) (ai (ai rfl (fun _ _=>rfl)) (ai rfl (fun _ _=>rfl)))))) (ai (ai (ai rfl (fun _ _=>rfl)) (ai (ai rfl (fun _ _=>rfl)) (ai (ai rfl (fun _ _=>rfl)) (ai (ai rfl (fun _ _=>rfl)) (ai rfl (fun _ _=>rfl)))))) rfl))) (⟨vM hc,hsl,hr.2.2,hr.2.1,by show ((k:Nat):Int)<dG (dH c);omega⟩) ?_
  refine ai (mxL (n:=((dn s).take k).length+1) (by omega) (by decide)) (ai (dW 1 rfl) ?_)
  refine nX (k) (ai (ai (ai (fun _=>rfl) (aG (by omega))) rfl) (ai rfl (ai rfl (ai ?_ ?_)))) trivial trivial
  ·rw[htl k (by omega),htl (k+1) (by omega)]
  ·rw[aR false (by omega)];exact kY _ _
 ·have ek:k=(aJ c).toNat:=by omega
  refine eN (.tup [iR (pY c s),iP 0]) ?_
  rw[show pY c s=(dn s).take k by rw[ek];rfl]
  exact (ai (ai rfl (fun _ _=>rfl)) rfl)
def awL (c:aB):Ob:=.cells 106 [iA (aJ c),.any,.any,.any,.any,.any,.any,akT c,.any]
theorem ajb:av Tryz.prog 62 { A:=aB×dw,args:=fun a=>[.own 0 0,kE a.2],objs:=fun a=>[awL a.1],pre:=uG,res:=fun a=>iR (jX a.1 a.2),objs':=fun _=>[],fresh:=true,ro:=1 }:=by
 refine vF Tryz.func62 ?_
 rintro ⟨c,s⟩ hpre
 have hr:uG (c,s):=hpre
 obtain ⟨he,hin,hvl,hl,_⟩:=mq hr
 have hc:jP c:=hr.1
 have hs:=iJ hc.1
 obtain ⟨⟨ha1,ha6⟩,hi16,hs24,ht32⟩:=dA hc
 have hb:aJ c=2*c.act+c.ins.length:=rfl
 have hp:=jq c c.act.toNat
 have hg:=jw c c.trs.length
 have hsg:(dH c).sgs.length=(aX c c.act.toNat).length:=rfl
 have hcl:=p9 c c.sts.length
 have hev:=uM s.en
 refine fR (c.sts.length) (fun k=>[(13,.s (iA k)),(5,vP ((List.range k).map (lU c s)))]) (fun k=>[]) (fun k=>True) ?_ ?_ ?_ ?_
 ·exact (ai (ai (ai (fun _=>rfl) (iE (by omega))) rfl) rfl)
 ·exact trivial
 ·trivial
 intro (k:Nat) ⟨hk,_⟩
 have hlk:=fJ (lU c s) k
 refine ah (p:=k<c.sts.length) (by exact aA (show ((k:Nat):Int)<(((bZ c c.sts.length).length:Nat):Int)↔_ by omega)) (fun g=>?_) (fun g=>?_)
 ·have hck:=vW c c.sts.length k g
  have htk:=lq c k
  have hti:fK c k≤fK c c.sts.length:=by
   have:∀d,fK c k≤fK c (k+d):=fun d=>by
    induction d with
    | zero=>exact acM _
    | succ d ih=>rw[←axA,fK];split<;>omega
   have:=this (c.sts.length-k)
   rwa [show k+(c.sts.length-k)=c.sts.length by omega] at this
  refine iX (k) ((bZ c c.sts.length).length) ?_
  refine dR (.seq [0,1,2,3,4,5,6,7,8,9,10,11,12,13,14,15,16,17,18]) ?_
  refine ah (p:=(c.sts.getD k st0).wt=0) (by exact sW (by show (bZ c c.sts.length).getD k 0=-1099511627776↔_;rw[hck];exact xq hs)) (fun g3=>?_) (fun g3=>?_)
  ·refine ai (mxL (n:=((List.range k).map (lU c s)).length+1) (by omega) (by decide)) (ai (dW 1 rfl) ?_)
   refine nX (k) (ai (ai (ai (fun _=>rfl) (aG (by omega))) rfl) (ai rfl (ai rfl (ai ?_ ?_)))) trivial trivial
   ·rw[fJ,fJ]
   ·rw[qo,show lU c s k=true by unfold lU;rw[if_pos g3]];exact kY _ _
  ·have hcv:sI c k=aJ c+c.sts.length+fK c k:=if_neg g3
   have hmx:IntKind.i64.wrap ((bZ c c.sts.length).getD k 0-aJ c)=((c.sts.length+fK c k:Nat):Int):=by rw[hck,hcv,dF (by omega) (by omega)];omega
   refine ai (ai (by show 0≤IntKind.i64.wrap ((bZ c c.sts.length).getD k 0-aJ c);rw[hmx];omega) (by show IntKind.i64.wrap ((bZ c c.sts.length).getD k 0-aJ c)<((s.vl.length:Nat):Int);rw[hmx];omega)) ?_
   refine ai rfl ?_
   have hv:(dn s).getD (sI c k).toNat false=s.vl.getD (c.sts.length+fK c k) false:=by
    unfold dn
    rw[show (sI c k).toNat=(eP s.en++s.inp).length+(c.sts.length+fK c k) by rw[aaJ];omega]
    exact afr rfl
   refine ai (mxL (n:=((List.range k).map (lU c s)).length+1) (by omega) (by decide)) (ai (dW 1 rfl) ?_)
   refine nX (k) (ai (ai (ai (fun _=>rfl) (aG (by omega))) rfl) (ai rfl (ai rfl (ai ?_ ?_)))) trivial trivial
   ·rw[fJ,fJ]
   ·rw[qo,show lU c s k=(s.vl.getD (IntKind.i64.wrap ((bZ c c.sts.length).getD k 0-aJ c)).toNat false) by rw[hmx,aeI];unfold lU;rw[if_neg g3,hv]];exact kY _ _
 ·have ek:k=c.sts.length:=by omega
  refine eN (iR (jX c s)) ?_
  rw[show jX c s=(List.range k).map (lU c s) by rw[ek];rfl]
  exact (ai rfl (fun _ _=>rfl))
theorem am9:av Tryz.prog 31 (bO (fun a:aB×dw=>[iG a.1,kE a.2]) og (fun a=>adj (bR a.1 a.2) (gV a.1 a.2))):=by
 have h:av Tryz.prog 31 (bO (fun a:aB×dw=>[iG a.1,kE a.2]) og (fun a=>dz (bR a.1 a.2) (gV a.1 a.2))):=by
  refine vI [59,51,95,96,5000029] Tryz.func31 ?_
  rintro ⟨c,s⟩ hpre
  obtain ⟨ho,hsl,hsm⟩:=hpre
  have ho:jr c:=ho
  refine mY mixed fQ Tryz.func59 rfl rfl ?_
  refine ai rfl ?_
  refine mY mixed fQ Tryz.func51 rfl rfl ?_
  refine ai rfl ?_
  refine cK (aaf) (c) (by exact (ai rfl (ai (ai rfl (fun _ _=>rfl)) (ai (ai rfl (fun _ _=>rfl)) (ai rfl (fun _ _=>rfl)))))) (ho) ?_
  refine bN (bV c=0) (fun h1=>?_) fun h1=>?_
  ·have e:cu c=bV c:=if_pos h1
   have h2:¬cu c=0:=by rw[e];exact h1
   refine bT (by exact bn (p:=True) ⟨fun _=>trivial,fun _=>h1⟩ |>.2 trivial) ?_
   refine dR (.seq [0,1,2,3,4]) ?_
   refine bT (by exact bn (p:=True) ⟨fun _=>trivial,fun _=>h1⟩ |>.2 trivial) ?_
   have e:bR c s=bV c:=by unfold bR;rw[if_pos h2,e]
   have h2:¬bR c s=0:=by rw[e];exact h1
   refine eF (dz (bR c s) (gV c s)) ?_
   rw[dz,if_neg h2,e]
   exact (ai rfl rfl)
  have hc:jP c:=⟨h1,ho⟩
  obtain ⟨⟨ha1,ha6⟩,hi16,hs24,ht32⟩:=dA hc
  have hb:aJ c=2*c.act+c.ins.length:=rfl
  have hwf:IntKind.i64.wrap (IntKind.i64.wrap (2*c.act)+(c.ins.length:Int))=aJ c:=by
   rw[dF (n:=2*c.act) (by omega) (by omega),dF (by omega) (by omega)];rfl
  refine gI (wJ) (c) [7] (by exact (ai rfl rfl)) (by exact (ai rfl (ai (iE (by simp only[zz,reduceCtorEq];omega)) (ai rfl (ai rfl (ai (ai rfl (fun _ _=>rfl)) (ai (ai rfl (fun _ _=>rfl)) (ai (ai rfl (fun _ _=>rfl)) (ai rfl (ai rfl rfl)))))))))) (hc) ?_
  by_cases hB:bH (dH c)=0
  ·have e0:cu c=0:=mo.2 ⟨h1,hB⟩
   refine gI (yZ) (c) [7] (by exact (ai rfl rfl)) (by exact (ai rfl (ai rfl (ai rfl (ai rfl (ai (ai rfl (fun _ _=>rfl)) (ai (ai rfl (fun _ _=>rfl)) (ai (ai rfl (fun _ _=>rfl)) (ai (ai rfl (fun _ _=>rfl)) (ai (ai rfl (fun _ _=>rfl)) (ai rfl (fun _ _=>rfl)))))))))))) (⟨hc,decide_eq_true hB⟩) ?_
   refine dR (.seq [0,1,2,3,4,5]) ?_
   refine dR (.seq [0,1,2,3,4,5,6,7]) ?_
   refine cK (aaK) ((dH c,s)) (by exact (ai (ai rfl (ai (ai rfl (fun _ _=>rfl)) (ai (ai rfl (fun _ _=>rfl)) (ai (ai rfl (fun _ _=>rfl)) (ai rfl (fun _ _=>rfl)))))) (ai (ai rfl (fun _ _=>rfl)) (ai (ai rfl (fun _ _=>rfl)) (ai (ai rfl (fun _ _=>rfl)) (ai (ai rfl (fun _ _=>rfl)) (ai rfl (fun _ _=>rfl)))))))) (⟨vM hc,hsl⟩) ?_
   have e:bR c s=mW (dH c) s:=by unfold bR;rw[if_neg (fun h=>h e0)]
   refine aW (p:=mW (dH c) s=0) (bn (by dsimp only;omega)) (fun h3=>?_) (fun h3=>?_)
   ·have h2:¬bR c s=0:=by rw[e];exact h3
    refine eF (dz (bR c s) (gV c s)) ?_
    rw[dz,if_neg h2,e]
    exact (ai rfl rfl)
   have hr:uG (c,s):=⟨hc,h3,hsm⟩
   have e0:bR c s=0:=by rw[e];exact h3
   have h5:=(mq hr).2.2.2.2
   have hvl:s.vl.length≤100000:=hsm.2.2
   refine ai (ai (awF _) (ai (abw _) (by show ((c.sts.length:Nat):Int)≤((s.vl.length:Nat):Int);omega))) ?_
   refine ai (fun _ _=>rfl) ?_
   have hl:(gV c s).length=c.sts.length:=yX hr
   refine ei _ (ai (rQ) (ei (gV c s) (ei [] (ai (a4 (ai (fun _=>Or.inl rfl) (ai nof (Or.inl rfl)))) (ai ?_ (ai (by exact trivial) (ai ((by show (gV c s).length≤1000000;omega)) ?_)))))))
   ·refine (ai ?_ ?_)
    ·show c.sts.length-0=(gV c s).length
     omega
    ·intro k hk
     have hk:k<c.sts.length-0:=hk
     show [bP (s.vl.getD (0+k) false)]=[bP ((gV c s).getD k false)]
     rw[ahv]
     unfold gV
     rw[aaG,aaG,ar8,if_pos (by omega)]
   refine eF (dz (bR c s) (gV c s)) ?_
   rw[dz,if_pos e0]
   exact (ai (ai rfl (fun _ _=>rfl)) rfl)
  ·have e:cu c=12:=by unfold cu;rw[if_neg (fun h=>h h1),if_pos hB]
   have h2:¬cu c=0:=by rw[e];decide
   refine gI (wD) (c) [7] (by exact (ai rfl rfl)) (by exact (ai rfl (ai rfl (ai rfl (ai rfl (ai (ai rfl (fun _ _=>rfl)) (ai (ai rfl (fun _ _=>rfl)) (ai (ai rfl (fun _ _=>rfl)) (ai (ai rfl (fun _ _=>rfl)) (ai (ai rfl (fun _ _=>rfl)) (ai rfl (fun _ _=>rfl)))))))))))) (⟨hc,decide_eq_false hB⟩) ?_
   refine dR (.seq [0,1,2,3,4,5]) ?_
   refine dR (.seq [0,1,2,3,4]) ?_
   have e:bR c s=12:=by unfold bR;rw[if_pos h2,e]
   have h2:¬bR c s=0:=by rw[e];decide
   refine eF (dz (bR c s) (gV c s)) ?_
   rw[dz,if_neg h2,e]
   exact (ai rfl rfl)
 exact gW h fun a _=>adN _ _
theorem aj5 (c:aB) (s:dw) (a d:List Bool) (h:a.length=c.sts.length):vaK ⟨pY c s,a,d⟩ a.length=iW c s a d:=by rw[h];rfl
theorem akV:av Tryz.prog 35 (bO (fun a:aB×dw=>[iG a.1,kE a.2]) og (fun a=>adj (bR a.1 a.2) (iW a.1 a.2 (gV a.1 a.2) (jX a.1 a.2)))):=by
 have h:av Tryz.prog 35 (bO (fun a:aB×dw=>[iG a.1,kE a.2]) og (fun a=>dz (bR a.1 a.2) (iW a.1 a.2 (gV a.1 a.2) (jX a.1 a.2)))):=by
  refine vI [59,51,95,96,5000029] Tryz.func35 ?_
  rintro ⟨c,s⟩ hpre
  obtain ⟨ho,hsl,hsm⟩:=hpre
  have ho:jr c:=ho
  refine mY mixed fQ Tryz.func59 rfl rfl ?_
  refine ai rfl ?_
  refine mY mixed fQ Tryz.func51 rfl rfl ?_
  refine ai rfl ?_
  refine cK (aaf) (c) (by exact (ai rfl (ai (ai rfl (fun _ _=>rfl)) (ai (ai rfl (fun _ _=>rfl)) (ai rfl (fun _ _=>rfl)))))) (ho) ?_
  refine bN (bV c=0) (fun h1=>?_) fun h1=>?_
  ·have e:cu c=bV c:=if_pos h1
   have h2:¬cu c=0:=by rw[e];exact h1
   refine bT (by exact bn (p:=True) ⟨fun _=>trivial,fun _=>h1⟩ |>.2 trivial) ?_
   refine dR (.seq [0,1,2,3,4]) ?_
   refine bT (by exact bn (p:=True) ⟨fun _=>trivial,fun _=>h1⟩ |>.2 trivial) ?_
   have e:bR c s=bV c:=by unfold bR;rw[if_pos h2,e]
   have h2:¬bR c s=0:=by rw[e];exact h1
   refine eF (dz (bR c s) (iW c s (gV c s) (jX c s))) ?_
   rw[dz,if_neg h2,e]
   exact (ai rfl rfl)
  have hc:jP c:=⟨h1,ho⟩
  obtain ⟨⟨ha1,ha6⟩,hi16,hs24,ht32⟩:=dA hc
  have hb:aJ c=2*c.act+c.ins.length:=rfl
  have hwf:IntKind.i64.wrap (IntKind.i64.wrap (2*c.act)+(c.ins.length:Int))=aJ c:=by
   rw[dF (n:=2*c.act) (by omega) (by omega),dF (by omega) (by omega)];rfl
  refine gI (wJ) (c) [7] (by exact (ai rfl rfl)) (by exact (ai rfl (ai (iE (by simp only[zz,reduceCtorEq];omega)) (ai rfl (ai rfl (ai (ai rfl (fun _ _=>rfl)) (ai (ai rfl (fun _ _=>rfl)) (ai (ai rfl (fun _ _=>rfl)) (ai rfl (ai rfl rfl)))))))))) (hc) ?_
  by_cases hB:bH (dH c)=0
  ·have e0:cu c=0:=mo.2 ⟨h1,hB⟩
   refine gI (yZ) (c) [7] (by exact (ai rfl rfl)) (by exact (ai rfl (ai rfl (ai rfl (ai rfl (ai (ai rfl (fun _ _=>rfl)) (ai (ai rfl (fun _ _=>rfl)) (ai (ai rfl (fun _ _=>rfl)) (ai (ai rfl (fun _ _=>rfl)) (ai (ai rfl (fun _ _=>rfl)) (ai rfl (fun _ _=>rfl)))))))))))) (⟨hc,decide_eq_true hB⟩) ?_
   refine dR (.seq [0,1,2,3,4,5]) ?_
   refine dR (.seq [0,1,2,3,4,5,6,7]) ?_
   refine cK (aaK) ((dH c,s)) (by exact (ai (ai rfl (ai (ai rfl (fun _ _=>rfl)) (ai (ai rfl (fun _ _=>rfl)) (ai (ai rfl (fun _ _=>rfl)) (ai rfl (fun _ _=>rfl)))))) (ai (ai rfl (fun _ _=>rfl)) (ai (ai rfl (fun _ _=>rfl)) (ai (ai rfl (fun _ _=>rfl)) (ai (ai rfl (fun _ _=>rfl)) (ai rfl (fun _ _=>rfl)))))))) (⟨vM hc,hsl⟩) ?_
   have e:bR c s=mW (dH c) s:=by unfold bR;rw[if_neg (fun h=>h e0)]
   refine aW (p:=mW (dH c) s=0) (bn (by dsimp only;omega)) (fun h3=>?_) (fun h3=>?_)
   ·have h2:¬bR c s=0:=by rw[e];exact h3
    refine eF (dz (bR c s) (iW c s (gV c s) (jX c s))) ?_
    rw[dz,if_neg h2,e]
    exact (ai rfl rfl)
   have hr:uG (c,s):=⟨hc,h3,hsm⟩
   have e0:bR c s=0:=by rw[e];exact h3
   have h5:=(mq hr).2.2.2.2
   have hvl:s.vl.length≤100000:=hsm.2.2
   have hl:(gV c s).length=c.sts.length:=yX hr
   have hol:=zx hr
   have hrl:(jX c s).length=c.sts.length:=fJ _ _
   refine ei _ (ai (aij) (ei ((c,s)) (ei [7] (ai (a4 (ai (fun _=>Or.inl rfl) (ai nof (Or.inl rfl)))) (ai (by exact (ai (ai rfl rfl) (ai (ai rfl (ai (ai rfl (fun _ _=>rfl)) (ai (ai rfl (fun _ _=>rfl)) (ai (ai rfl (fun _ _=>rfl)) (ai rfl (fun _ _=>rfl)))))) (ai (ai rfl (fun _ _=>rfl)) (ai (ai rfl (fun _ _=>rfl)) (ai (ai rfl (fun _ _=>rfl)) (ai (ai rfl (fun _ _=>rfl)) (ai rfl (fun _ _=>rfl))))))))) (ai (by exact (ai rfl (ai rfl (ai trivial (ai trivial (ai trivial (ai trivial (ai trivial (ai trivial (ai trivial trivial)))))))))) (ai (⟨hr,hsl⟩) ?_)))))))
   refine dR (.seq [0,1,2,3,4,5,6,7,8,9,10,11,12]) ?_
   refine ai (ai (awF _) (ai (abw _) (by show ((c.sts.length:Nat):Int)≤((s.vl.length:Nat):Int);omega))) ?_
   refine ai (fun _ _=>rfl) ?_
   refine ei _ (ai (ajb) (ei ((c,s)) (ei [7] (ai (a4 (ai (fun _=>Or.inl rfl) (ai nof (Or.inl rfl)))) (ai (by exact (ai (ai rfl rfl) (ai (ai rfl (fun _ _=>rfl)) (ai (ai rfl (fun _ _=>rfl)) (ai (ai rfl (fun _ _=>rfl)) (ai (ai rfl (fun _ _=>rfl)) (ai rfl (fun _ _=>rfl)))))))) (ai (by exact (ai rfl (ai rfl (ai trivial (ai trivial (ai trivial (ai trivial (ai trivial (ai trivial (ai (ai rfl (fun _ _=>rfl)) trivial)))))))))) (ai (hr) ?_)))))))
   refine ei _ (ai (aiV) (ei (⟨pY c s,gV c s,jX c s⟩) (ei [] (ai (a4 (ai (fun _=>Or.inl rfl) (ai nof (Or.inl rfl)))) (ai ?_ (ai (by exact trivial) (ai (⟨by show 0<(pY c s).length;omega,by show (pY c s).length≤1000;omega,by show (gV c s).length≤1000;omega,by show (jX c s).length=(gV c s).length;omega⟩) ?_)))))))
   ·refine (ai (ai rfl (fun _ _=>rfl)) (ai (ai ?_ ?_) (ai rfl (fun _ _=>rfl))))
    ·show c.sts.length-0=(gV c s).length
     omega
    ·intro k hk
     have hk:k<c.sts.length-0:=hk
     show [bP (s.vl.getD (0+k) false)]=[bP ((gV c s).getD k false)]
     rw[ahv]
     unfold gV
     rw[aaG,aaG,ar8,if_pos (by omega)]
   have ev:=aj5 c s (gV c s) (jX c s) hl
   refine eF (dz (bR c s) (iW c s (gV c s) (jX c s))) ?_
   rw[dz,if_pos e0,←ev]
   exact (ai (ai rfl (fun _ _=>rfl)) rfl)
  ·have e:cu c=12:=by unfold cu;rw[if_neg (fun h=>h h1),if_pos hB]
   have h2:¬cu c=0:=by rw[e];decide
   refine gI (wD) (c) [7] (by exact (ai rfl rfl)) (by exact (ai rfl (ai rfl (ai rfl (ai rfl (ai (ai rfl (fun _ _=>rfl)) (ai (ai rfl (fun _ _=>rfl)) (ai (ai rfl (fun _ _=>rfl)) (ai (ai rfl (fun _ _=>rfl)) (ai (ai rfl (fun _ _=>rfl)) (ai rfl (fun _ _=>rfl)))))))))))) (⟨hc,decide_eq_false hB⟩) ?_
   refine dR (.seq [0,1,2,3,4,5]) ?_
   refine dR (.seq [0,1,2,3,4]) ?_
   have e:bR c s=12:=by unfold bR;rw[if_pos h2,e]
   have h2:¬bR c s=0:=by rw[e];decide
   refine eF (dz (bR c s) (iW c s (gV c s) (jX c s))) ?_
   rw[dz,if_neg h2,e]
   exact (ai rfl rfl)
 exact gW h fun a _=>adN _ _
theorem aqP {u u':PV} (h:gB u u'):bS [u] [u']:=by
 refine ⟨rfl,fun k s s' hs hs'=>?_⟩
 match k with
 | 0=>cases hs;cases hs';exact h
 | k+1=>simp at hs
def awf:Spec:=bC (fun a:List (Int)×List (Int)=>[isA a.1,isA a.2]) (fun a=>a.1.length≤1000000) (fun a=>bP (decide (a.1=a.2)))
theorem asE:av Tryz.prog 50 awf:=by
 refine vF Tryz.func50 ?_
 rintro (a:List (Int)×List (Int)) hpre
 have hl:a.1.length≤1000000:=hpre
 refine bN (a.1.length=a.2.length) (fun h1=>?_) fun h1=>?_
 ·refine eN (bP (decide (a.1=a.2))) ?_
  rw[decide_eq_false (fun h=>h1 (congrArg List.length h))]
  exact rfl
 refine fR (a.1.length) (fun k=>[(13,.s (iA k))]) (fun k=>[]) (fun k=>a.1.take k=a.2.take k) (by exact (ai (ai (fun _=>rfl) (iE (by omega))) rfl)) (by exact trivial) ?_ ?_
 ·rfl
 intro (k:Nat) ⟨hk,hall⟩
 refine bL (k<a.1.length) (fun h4=>?_) fun h4=>?_
 ·refine dR (.seq [0,1,2,3,4,5,6,7,8]) ?_
  refine iX (k) (a.1.length) ?_
  refine iX (k) (a.2.length) ?_
  refine aW (p:=a.1.getD k 0=a.2.getD k 0) (by exact bne_iff_ne) (fun h5=>?_) (fun h5=>?_)
  ·refine eN (bP (decide (a.1=a.2))) ?_
   rw[decide_eq_false (fun h=>h5 (by rw[h]))]
   exact rfl
  refine nX (k) (ai (ai (fun _=>rfl) (aG (by omega))) rfl) trivial ?_
  exact amC 0 h4 (by omega) hall h5
 ·obtain rfl:k=a.1.length:=by omega
  rw[acS,h1,acS] at hall
  refine eN (bP (decide (a.1=a.2))) ?_
  rw[decide_eq_true hall]
  exact rfl
def awm:Spec:=bC (fun a:List (Bool)×List (Bool)=>[qh a.1,qh a.2]) (fun a=>a.1.length≤1000000) (fun a=>bP (decide (a.1=a.2)))
theorem ag4:av Tryz.prog 33 awm:=by
 refine vF Tryz.func33 ?_
 rintro (a:List (Bool)×List (Bool)) hpre
 have hl:a.1.length≤1000000:=hpre
 refine bN (a.1.length=a.2.length) (fun h1=>?_) fun h1=>?_
 ·refine eN (bP (decide (a.1=a.2))) ?_
  rw[decide_eq_false (fun h=>h1 (congrArg List.length h))]
  exact rfl
 refine fR (a.1.length) (fun k=>[(13,.s (iA k))]) (fun k=>[]) (fun k=>a.1.take k=a.2.take k) (by exact (ai (ai (fun _=>rfl) (iE (by omega))) rfl)) (by exact trivial) ?_ ?_
 ·rfl
 intro (k:Nat) ⟨hk,hall⟩
 refine bL (k<a.1.length) (fun h4=>?_) fun h4=>?_
 ·refine dR (.seq [0,1,2,3,4,5,6,7,8]) ?_
  refine iX (k) (a.1.length) ?_
  refine iX (k) (a.2.length) ?_
  refine aW (p:=a.1.getD k false=a.2.getD k false) (by exact bne_iff_ne) (fun h5=>?_) (fun h5=>?_)
  ·refine eN (bP (decide (a.1=a.2))) ?_
   rw[decide_eq_false (fun h=>h5 (by rw[h]))]
   exact rfl
  refine nX (k) (ai (ai (fun _=>rfl) (aG (by omega))) rfl) trivial ?_
  exact amC false h4 (by omega) hall h5
 ·obtain rfl:k=a.1.length:=by omega
  rw[acS,h1,acS] at hall
  refine eN (bP (decide (a.1=a.2))) ?_
  rw[decide_eq_true hall]
  exact rfl
theorem ajj (f:Nat→List PV) (k:Nat) {g:Nat→List PV} (hg:g 0=f k):∀j,j<k+1→aY k f g j=f j:=by
 intro j hj
 unfold aY
 by_cases h:j<k
 ·rw[if_pos h]
 ·obtain rfl:j=k:=by omega
  rw[if_neg h,avt,hg]
def aqH (c:aB):Prop:=c.sts.length≤1000000∧c.trs.length≤1000000
def stF (c:aB) (k:Nat):List PV:=stK (c.sts.getD k st0)
def trF (c:aB) (k:Nat):List PV:=trK (c.trs.getD k bf)
theorem ami:av Tryz.prog 14 (bO (fun c:aB=>[iG c]) aqH (fun c=>chP c)):=by
 refine vF Tryz.func14 ?_
 rintro (c:aB) hpre
 obtain ⟨hs,ht⟩:=hpre
 have hs:c.sts.length≤1000000:=hs
 have ht:c.trs.length≤1000000:=ht
 refine fR (c.sts.length) (fun k=>[(16,.s (iA k))]) (fun k=>[⟨2,39,[.s (iA c.act),.s (.p false (xV c.ins)),.rw 98 2 k (stF c),.s jd]⟩]) (fun k=>True) ?_ ?_ ?_ ?_
 ·exact (ai (ai (fun _=>rfl) (iE (by omega))) rfl)
 ·exact (ai (ai (ai (ai nof rfl) rfl) (ai (ai (ai nof (ai rfl (fun _ _=>rfl))) rfl) (ai rfl (ai (ai nof rfl) rfl)))) trivial)
 ·trivial
 intro (k:Nat) ⟨hk,_⟩
 refine bL (k<c.sts.length) (fun h1=>?_) fun h1=>?_
 ·refine iX (k) (c.sts.length) ?_
  refine ai (mxL (n:=k+1) (by omega) (by decide)) (ai (lt1 rfl) ?_)
  refine nX (k) (ai (ai (fun _=>rfl) (aG (by omega))) rfl) (ai (ai (ai (ai nof rfl) rfl) (ai (ai (ai nof (ai rfl (fun _ _=>rfl))) rfl) (ai (ai rfl (ai rfl (ai rfl ?_))) (ai (ai nof rfl) rfl)))) trivial) trivial
  exact ajj (stF c) k rfl
 obtain rfl:k=c.sts.length:=by omega
 refine fR (c.trs.length) (fun k=>[(34,.s (iA k))]) (fun k=>[⟨2,39,[.s (iA c.act),.s (.p false (xV c.ins)),.rw 98 2 c.sts.length (stF c),.rw 101 5 k (trF c)]⟩]) (fun k=>True) ?_ ?_ ?_ ?_
 ·exact (ai (ai (fun _=>rfl) (iE (by omega))) rfl)
 ·exact (ai (ai (ai (ai nof rfl) rfl) (ai (ai (ai nof (ai rfl (fun _ _=>rfl))) rfl) (ai (ai rfl (ai rfl (ai rfl (fun _ _=>rfl)))) rfl))) trivial)
 ·trivial
 intro (k:Nat) ⟨hk,_⟩
 refine bL (k<c.trs.length) (fun h1=>?_) fun h1=>?_
 ·refine iX (k) (c.trs.length) ?_
  refine ai (mxL (n:=k+1) (by omega) (by decide)) (ai (lt1 rfl) ?_)
  refine nX (k) (ai (ai (fun _=>rfl) (aG (by omega))) rfl) (ai (ai (ai (ai nof rfl) rfl) (ai (ai (ai nof (ai rfl (fun _ _=>rfl))) rfl) (ai (ai rfl (ai rfl (ai rfl (fun _ _=>rfl)))) (ai rfl (ai rfl (ai rfl ?_)))))) trivial) trivial
  exact ajj (trF c) k rfl
 obtain rfl:k=c.trs.length:=by omega
 refine eF (chP c) ?_
 rw[show chP c=.agg [iP c.act,xV c.ins,.seq c.sts.length (stF c),.seq c.trs.length (trF c)] from rfl]
 exact (ai rfl (ai (ai rfl (fun _ _=>rfl)) (ai (ai rfl (fun _ _=>rfl)) (ai rfl (fun _ _=>rfl)))))
def apP (c:aB):Prop:=aqH c∧c.ins.length≤1000000∧(∀x∈c.sts,x.st.length≤1000000)∧∀t∈c.trs,t.fr.length≤1000000∧t.to.length≤1000000∧jl t.wh=true
def lW (c:aB) (a d:List Bool):Nat→List Bool
 | 0=>d
 | k+1=>(lW c a d k).set k (rR c a d k)
theorem ow (c:aB) (a d:List Bool):∀k,(lW c a d k).length=d.length
 | 0=>rfl
 | k+1=>by rw[lW,apr,ow c a d k]
theorem aj1 (c:aB) (a d:List Bool):∀n q,q<d.length→(lW c a d n).getD q false=if q<n then rR c a d q else d.getD q false
 | 0,q,_=>by rw[if_neg (aeH q)];rfl
 | n+1,q,h=>by
  have hl:=ow c a d n
  rw[lW,aaG,axD]
  by_cases e:n=q
  ·subst e
   rw[if_pos rfl,if_pos (by omega),if_pos (by omega)];rfl
  ·rw[if_neg e,←aaG,aj1 c a d n q h]
   by_cases e2:q<n
   ·rw[if_pos e2,if_pos (by omega)]
   ·rw[if_neg e2,if_neg (by omega)]
theorem apS {c:aB} {a d:List Bool} (h:d.length=c.sts.length):lW c a d c.sts.length=adV c a d:=by
 have hl:=ow c a d c.sts.length
 have hr:(adV c a d).length=c.sts.length:=fJ _ _
 refine List.ext_getElem (by omega) fun q h1 h2=>?_
 have h3:=aj1 c a d c.sts.length q (by omega)
 rw[if_pos (by omega)] at h3
 have h4:(adV c a d).getD q false=rR c a d q:=afx (by omega)
 rw[aaG,aaX h1] at h3
 rw[aaG,aaX h2] at h4
 exact h3.trans h4.symm
end Go.Sx.Pe
