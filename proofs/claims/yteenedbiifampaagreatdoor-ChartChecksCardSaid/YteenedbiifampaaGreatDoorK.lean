/- The card of ChartChecks: for every input the law answers true, and its arguments read as they did. -/
import Derived.Test.YteenedbiifampaaGreatDoorK6
set_option maxHeartbeats 1000000
set_option maxRecDepth 4000
set_option linter.unusedSimpArgs false
set_option linter.unusedVariables false
set_option linter.unusedSectionVars false
namespace Go.Sx.Pe
open Go Go.Proofs Go.Sx.Pn
theorem arO:bV Tryz.prog 141 (wrC fun a=>a.st=false∧(a.x.op=3∧a.out<0)∧∀y∈a.x.args,y.op=1):=by
 refine gP (Tb:=tab) mixed ay Tryz.func141 rfl rfl ?_
 rintro ⟨st,nm,bs,x,out⟩ hpre
 refine ai (ai rfl (ai rfl rfl)) ?_
 obtain ⟨⟨hg,hs,hnm,hnl,hlen⟩,hst,hQ,hv⟩:=hpre
 obtain rfl:st=false:=hst
 have hv:∀y∈x.args,y.op=1:=hv
 have hg:gU nm.length x:=hg
 have hs:x.size≤256:=hs
 have hnm:l7 nm:=hnm
 have hnl:nm.length≤256:=hnl
 have hlen:bs.length+110*x.size≤500000:=hlen
 have hsp:=size_pos x
 have hal:=gN x
 have hsz:=x.size_eq
 obtain ⟨hn0,hga⟩:=(fV _ _).1 hg
 obtain ⟨ho,hle,hi⟩:=dW hn0
 have hA:=fJ nm x
 have hQ:x.op=3∧out<0:=hQ
 refine ah (p:=x.op=0) (bC (by omega)) (fun h0=>?_) (fun h0=>?_)
 ·exact absurd h0 (by omega)
 rw[if_neg h0] at hA
 refine ah (p:=x.op=1) (bC (by omega)) (fun h1=>?_) (fun h1=>?_)
 ·exact absurd h1 (by omega)
 rw[if_neg h1] at hA
 refine ah (p:=x.op=2) (bC (by omega)) (fun h2=>?_) (fun h2=>?_)
 ·exact absurd h2 (by omega)
 rw[if_neg h2] at hA
 have hl2:2≤x.args.length:=by
  have:dS x.op=2:=by unfold dS;rw[if_neg h2,if_pos (by omega)]
  omega
 have hW:bZ nm x out=bB nm x:=by
  unfold bZ ni;rw[decide_eq_false (show ¬0≤out by omega)];simp[nk]
 refine ah (p:=0≤out) (bX (by omega)) (fun h3=>?_) (fun h3=>?_)
 ·exact absurd h3 (by omega)
 refine ah (p:=x.op=4) (bC (by omega)) (fun h4=>?_) (fun h4=>?_)
 ·exact absurd h4 (by omega)
 ·refine ei (bG.inv { X:=Nat,up:=fun k=>[(71,.s (iA k))],uo:=fun k=>[⟨0,202,[.s (tQ false k),.rw 5 1 (aD nm (bs) [32,38,32] x.op x.args k).length (fun j=>[cP ((aD nm (bs) [32,38,32] x.op x.args k).getD j 0)]),.s (nH nm)]⟩],inv:=fun k=>k≤x.args.length∧(True),meas:=fun k=>x.args.length-k,x0:=0 }) ?_
  refine ai (ai (ai (by exact (a4 (ai rfl rfl))) (ai ?_ ?_)) rfl) (ai (ai (ac7 _) ?_) ?_)
  ·exact (ai (ai (fun _=>rfl) (iE (by simp only[zz,reduceCtorEq];rfl))) rfl)
  ·refine (ai (ai (ai (ai nof rfl) rfl) (ai (ai rfl (ai rfl (ai ?_ ?_))) (ai (ai nof (ai rfl (fun _ _=>rfl))) rfl))) trivial)
   ·exact congrArg List.length (bE nm (bs) [32,38,32] x.op x.args).symm
   ·exact fun j _=>congrArg (fun l=>[cP (l.getD j 0)]) (bE nm (bs) [32,38,32] x.op x.args).symm
  ·trivial
  intro (k:Nat) ⟨hk,_⟩
  have hpl:=jw (nm:=nm) (base:=bs) (sep:=[32,38,32]) (o:=x.op) hnm rfl hk
  cases k with
  | zero=>
   have hk0:0<x.args.length:=by omega
   refine ah (p:=0<x.args.length) (ak (by dsimp only;omega)) (fun h5=>?_) (fun h5=>?_)
   ·refine ai (ai (abr _) (iN (n:=x.args.length) (by omega))) (ai rfl ?_)
    have hy:x.args.getD 0 aH∈x.args:=abv (fF hk0)
    have hms:=bT hy
    have hb0:=congrArg List.length (bE nm (bs) [32,38,32] x.op x.args)
    have hB:(bs).length≤bs.length+1:=by simp
    refine aS (alR) (⟨false,nm,aD nm (bs) [32,38,32] x.op x.args 0,x.args.getD 0 aH,x.op⟩) [0,3] (a4 (ai rfl rfl)) (Or.inl rfl) (by exact (ai (ai rfl rfl) (ai (ai (iE (by simp only[zz,reduceCtorEq])) (ai (iE (by simp only[zz,reduceCtorEq])) (ai rfl (jm _)))) rfl))) (by exact (ai (ai rfl (ai rfl (ai rfl (ai rfl (fun _ _=>rfl))))) (ai rfl (ai rfl (ai rfl (fun _ _=>rfl)))))) (ai ⟨hga _ hy,by show (x.args.getD 0 aH).size≤256;omega,hnm,hnl,by show (aD nm (bs) [32,38,32] x.op x.args 0).length+110*(x.args.getD 0 aH).size≤_;omega⟩ ⟨rfl,hv _ hy⟩) ?_
    have eN:aD nm (bs) [32,38,32] x.op x.args 0++bZ nm (x.args.getD 0 aH) x.op=aD nm (bs) [32,38,32] x.op x.args (0+1):=by
     rw[eO nm _ ho.1,bE,jy hk0]
    refine ei (0+1) (ai (ai rfl rfl) (ai (ai (ai rfl (ai (ai rfl rfl) (ai (ai rfl rfl) (ai (ai (ai (fun _=>rfl) (aM (by omega))) rfl) (ai (ai (ai (ai rfl rfl) rfl) (ai (ai rfl (ai rfl (ai ?_ ?_))) (ai (ai nof (ai rfl (fun _ _=>rfl))) rfl))) trivial))))) rfl) (ai (ai (iL (by omega)) trivial) (iM (by omega)))))
    ·exact congrArg List.length eN
    ·exact fun j _=>congrArg (fun l=>[cP (l.getD j 0)]) eN
   ·exact absurd hk0 h5
  | succ k=>
   refine ah (p:=k+1<x.args.length) (ak (by dsimp only;omega)) (fun h5=>?_) (fun h5=>?_)
   ·refine ai (ai (abr _) (iN (n:=x.args.length) (by omega))) (ai rfl ?_)
    have hy:x.args.getD (k+1) aH∈x.args:=abv (fF h5)
    have hms:=bT hy
    have hss:=gV h5
    have hst:=dX x.args (k+1+1)
    have hB:(bs).length≤bs.length+1:=by simp
    rw[if_neg (by omega)] at hpl
    refine ah (p:=0<k+1) (ak (by omega)) (fun h6=>?_) (fun h6=>?_)
    ·refine aS (kC) ((true,nm,aD nm (bs) [32,38,32] x.op x.args (k+1),[32,38,32])) [0,3] (a4 (ai rfl rfl)) (Or.inl rfl) (by exact (ai (ai rfl rfl) rfl)) (by exact (ai (ai rfl (ai (ai rfl rfl) (ai rfl (ai rfl (fun _ _=>rfl))))) (ai rfl (ai rfl (ai rfl (fun _ _=>rfl)))))) (⟨by show (aD nm (bs) [32,38,32] x.op x.args (k+1)).length≤1000000;omega,by show ([32,38,32]:List UInt8).length≤1000000;simp⟩) ?_
     refine aS (arG) (⟨true,nm,aD nm (bs) [32,38,32] x.op x.args (k+1)++[32,38,32],x.args.getD (k+1) aH,x.op⟩) [0,5] (a4 (ai rfl rfl)) (Or.inl rfl) (by exact (ai (ai rfl rfl) (ai (ai (iE (by simp only[zz,reduceCtorEq])) (ai (iE (by simp only[zz,reduceCtorEq])) (ai rfl (jm _)))) rfl))) (by exact (ai (ai rfl (ai (ai rfl rfl) (ai rfl (ai rfl (fun _ _=>rfl))))) (ai rfl (ai rfl (ai rfl (fun _ _=>rfl)))))) (ai ⟨hga _ hy,by show (x.args.getD (k+1) aH).size≤256;omega,hnm,hnl,by show (aD nm (bs) [32,38,32] x.op x.args (k+1)++[32,38,32]).length+110*(x.args.getD (k+1) aH).size≤_;rw[aaH];show (aD nm (bs) [32,38,32] x.op x.args (k+1)).length+3+110*(x.args.getD (k+1) aH).size≤_;omega⟩ ⟨rfl,hv _ hy⟩) ?_
     have eN:aD nm (bs) [32,38,32] x.op x.args (k+1)++[32,38,32]++bZ nm (x.args.getD (k+1) aH) x.op=aD nm (bs) [32,38,32] x.op x.args (k+1+1):=by
      rw[eO nm _ ho.1,iV h5]
     refine ei ((k+1)+1) (ai (ai rfl rfl) (ai (ai (ai rfl (ai (ai rfl rfl) (ai (ai rfl rfl) (ai (ai (ai (fun _=>rfl) (aM (by omega))) rfl) (ai (ai (ai (ai rfl rfl) rfl) (ai (ai rfl (ai rfl (ai ?_ ?_))) (ai (ai nof (ai rfl (fun _ _=>rfl))) rfl))) trivial))))) rfl) (ai (ai (iL (by omega)) trivial) (iM (by omega)))))
     ·exact congrArg List.length eN
     ·exact fun j _=>congrArg (fun l=>[cP (l.getD j 0)]) eN
    ·exact absurd (ark k) h6
   ·have hke:k+1=x.args.length:=by omega
    have eT:aD nm (bs) [32,38,32] x.op x.args (k+1)=bs++bB nm x:=by
     rw[hke,jv,hA];unfold lV;rw[if_neg h4]
    refine ei [0,3] (ai (ai rfl (ai rfl rfl)) (ai (by exact trivial) ?_))
    refine (ai (ai rfl (ai (ai rfl rfl) (ai rfl (ai rfl (fun _ _=>rfl))))) (ai rfl (ai rfl (ai ?_ ?_))))
    ·exact congrArg List.length (eT.trans (congrArg (fun t=>bs++t) hW.symm))
    ·exact fun k _=>congrArg (fun l=>[cP (l.getD k 0)]) (eT.trans (congrArg (fun t=>bs++t) hW.symm))
def ab7 (x:Ex):Prop:=x.op=1∨x.op=3∧∀y∈x.args,y.op=1
theorem ak2:bV Tryz.prog 141 (wrC fun a=>a.st=false∧a.out<0∧ab7 a.x):=
 ⟨alR.1,fun a hp base E vs w hg hh hA=>by
  obtain ⟨h1,h2,h3,h4⟩:=hp
  rcases h4 with h4 | ⟨h4,h5⟩
  ·exact alR.2 a ⟨h1,h2,h4⟩ base E vs w hg hh hA
  ·exact arO.2 a ⟨h1,h2,⟨h4,h3⟩,h5⟩ base E vs w hg hh hA⟩
def apk (a:NM×Ex×Int):Prop:=ac5 ⟨false,a.1,[],a.2.1,a.2.2⟩∧a.2.2<0∧ab7 a.2.1
theorem aja:bV Tryz.prog 141 { A:=NM×Ex×Int,fix:=1,args:=fun a=>[.own 0 0,qx a.2.1,iA a.2.2],objs:=fun a=>[.cells 202 (qd :: xA :: zi a.1)],pre:=apk,res:=fun _=>.tup [],objs':=fun a=>[bld 202 (zi a.1),nZ ([]++bZ a.1 a.2.1 a.2.2)] }:=
 aat (T:=202) (rest:=fun a:NM×Ex×Int=>zi a.1) ⟨ak2.1,fun a hp=>ak2.2 ⟨false,a.1,[],a.2.1,a.2.2⟩ ⟨hp.1,rfl,hp.2.1,hp.2.2⟩⟩
def aiM (a:Ex×NM):Prop:=jH a.2=0∧dL a.1 a.2.length=0∧(∀k,(a.2.getD k []).length≤100)∧(∀s∈a.2,s≠[])∧a.1.size≤256∧(bB a.2 a.1).length≤4096∧ab7 a.1
theorem aje:aL Tryz.prog 82 (cu (fun a:Ex×NM=>[qx a.1,nH a.2]) aiM (fun a=>.tup [sP (bB a.2 a.1),iP 0])):=by
 refine jQ [141,142,84] ?_
 refine bg (Tb:=tab) mixed ay Tryz.func82 rfl rfl ?_
 rintro ⟨x,nm⟩ hpre
 refine ai (ai rfl (ai rfl rfl)) ?_
 obtain ⟨h1,h2,h3,h4,h5,h6,h7⟩:=hpre
 have h1:jH nm=0:=h1
 have h2:dL x nm.length=0:=h2
 have h3:∀k,(nm.getD k []).length≤100:=h3
 have h4:∀s∈nm,s≠[]:=h4
 have h5:x.size≤256:=h5
 have h6:(bB nm x).length≤4096:=h6
 obtain ⟨hn,_,hg⟩:=vS.1 h2
 have hnl:∀s∈nm,s.length≤1000000:=fun s hs=>by
  obtain ⟨k,hk,rfl⟩:=aqc hs
  have:=h3 k
  rw[abo,abm hk] at this
  have this:(nm[k]).length≤100:=this
  omega
 refine ei _ (ai (agy) (ei (nm) (ei [] (ai (a4 (ai (fun _=>Or.inl rfl) (ai nof (Or.inl rfl)))) (ai (by exact (ai rfl (fun _ _=>rfl))) (ai trivial (ai (hnl) ?_)))))))
 refine bH (p:=jH nm=0) (bU (by omega)) (fun g1=>?_) (fun g1=>?_)
 ·exact absurd h1 g1
 refine ei _ (ai (ab3) (ei ((x,(nm.length:Int))) (ei [] (ai (a4 (ai (fun _=>Or.inl rfl) (ai nof (Or.inl rfl)))) (ai (by exact (ai (ai rfl (ai rfl (ai rfl (fun _ _=>rfl)))) rfl)) (ai trivial (ai ((by show x.size≤1000000;omega)) ?_)))))))
 refine bH (p:=dL x nm.length=0) (bU (by dsimp only;omega)) (fun g2=>?_) (fun g2=>?_)
 ·exact absurd h2 g2
 refine aS (aja) ((nm,x,-1)) [1] (a4 (ai rfl rfl)) (Or.inl rfl) (by exact (ai (ai rfl rfl) (ai (ai rfl (ai rfl (ai rfl (fun _ _=>rfl)))) rfl))) (by exact (ai rfl (ai rfl (ai rfl (ai rfl (fun _ _=>rfl)))))) (⟨⟨hg,h5,h3,by show nm.length≤256;omega,by show 0+110*x.size≤500000;omega⟩,(by show (-1:Int)<0;decide),h7⟩) ?_
 have eW:([]:List UInt8)++bZ nm x (-1)=bB nm x:=by rw[ah4 (by decide)];rfl
 refine aS (aiR) ((nm,[]++bZ nm x (-1))) [1,2] (a4 (ai rfl rfl)) (Or.inl rfl) (by exact (ai rfl rfl)) (by exact (ai (ai rfl (ai (ai rfl rfl) (ai rfl (ai rfl (fun _ _=>rfl))))) (ai rfl (ai rfl (ai rfl (fun _ _=>rfl)))))) (trivial) ?_
 refine ah (p:=4096<(([]:List UInt8)++bZ nm x (-1)).length) (ak (by dsimp only;omega)) (fun g3=>?_) (fun g3=>?_)
 ·rw[eW] at g3;exact absurd h6 (by omega)
 refine aci (aaN 202 3) rfl rfl rfl rfl ([]++bZ nm x (-1)) rfl (by rw[eW];exact afA hg h4) (fun k _=>rfl) ?_
 refine ai (ai (fun _=>(by exact (ai trivial trivial))) ?_) trivial
 show au _ (PV.tup [sP (bB nm x),iP 0])
 rw[show bB nm x=[]++bZ nm x (-1) from eW.symm]
 exact (ai rfl rfl)
def anZ (c:bD):Prop:=jP c∧(bJ c=0→∀t∈c.trs,t.wh.size≤120∧ab7 t.wh)
theorem alQ {c:bD} (h:bJ c=0) (h2:∀t∈c.trs,t.wh.size≤120∧ab7 t.wh) {k:Nat} (hk:k<c.trs.length):aiM ((c.trs.getD k aG).wh,bQ c):=by
 have hn:=(kX h).2.2.1
 have hs:=h2 _ (abv (bY aG hk))
 refine ⟨adu h,?_,afk h,fun s hm e=>?_,by show (c.trs.getD k aG).wh.size≤256;omega,?_,hs.2⟩
 ·show dL (c.trs.getD k aG).wh ((bQ c).length:Int)=0
  rw[hn];exact (kV h hk).2.2
 ·have:=((kX h).1 s hm).2
  rw[e] at this;exact absurd this (by decide)
 ·have:=xL (abM h) _ _ (aic (c.trs.getD k aG).wh.size)
  show (bB (bQ c) (c.trs.getD k aG).wh).length≤4096
  omega
set_option maxHeartbeats 4000000 in
theorem ac2:aL Tryz.prog 24 (fnG (fun c:bD=>[kF c]) anZ jL):=by
 refine jQ [78,81,84] ?_
 refine bg (Tb:=tab) mixed ay Tryz.func24 rfl rfl ?_
 rintro (c:bD) hpre
 refine ai (ai rfl (ai rfl rfl)) ?_
 obtain ⟨ho,h40⟩:=hpre
 have ho:jP c:=ho
 refine ei _ (ai (aav) (ei (c) (ei [] (ai (a4 (ai (fun _=>Or.inl rfl) (ai nof (Or.inl rfl)))) (ai (by exact (ai rfl (ai (ai rfl (fun _ _=>rfl)) (ai (ai rfl (fun _ _=>rfl)) (ai rfl (fun _ _=>rfl)))))) (ai trivial (ai (ho) ?_)))))))
 refine bH (p:=bJ c=0) (bU (by omega)) (fun h1=>?_) (fun h1=>?_)
 ·refine ai (ai (fun _=>(by exact (ai trivial trivial))) ?_) trivial
  show au _ (jL c)
  rw[jL,if_neg h1]
  exact (ai rfl rfl)
 have hc:bJ c=0:=h1
 have h40:∀t∈c.trs,t.wh.size≤120∧ab7 t.wh:=h40 hc
 obtain ⟨_,_,hs24,ht32,_⟩:=jN hc
 refine ei (bG.inv { X:=Nat,up:=fun k=>[(24,.s (iA k))],uo:=fun k=>[⟨1,143,[.s (apH k),.rw 5 1 (aQ c.sts k).length (vT (aQ c.sts k))]⟩],inv:=fun k=>k≤c.sts.length∧(True),meas:=fun k=>c.sts.length-k,x0:=0 }) ?_
 refine ai (ai (ai (by exact (a4 (ai rfl rfl))) (ai ?_ ?_)) rfl) (ai (ai (ac7 _) ?_) ?_)
 ·exact (ai (ai (fun _=>rfl) (iE (by simp only[zz,reduceCtorEq];rfl))) rfl)
 ·exact (ai (ai (ai (ai (fun _=>rfl) rfl) rfl) rfl) trivial)
 ·trivial
 intro (k:Nat) ⟨hk,_⟩
 have hL:=xO hc hk
 cases k with
 | zero=>
  refine ah (p:=(0:Nat)<c.sts.length) (ak (by omega)) (fun h2=>?_) (fun h2=>?_)
  ·refine ai (ai (abr _) (iN (n:=c.sts.length) (by omega))) (ai rfl ?_)
   have hd:=nU (n:=(0:Nat)) (by omega)
   have hh:=sV (k:=(0:Nat)) (by omega)
   obtain ⟨g1,g2,g3,g4⟩:=wI hc h2
   refine ei _ (ai (qz) (ei ((0:Nat)) (ei [] (ai (a4 (ai (fun _=>Or.inl rfl) (ai nof (Or.inl rfl)))) (ai (by exact rfl) (ai trivial (ai ((by show (0:Nat)<100;omega)) ?_)))))))
   refine ai (fE (l:=stepW) (m:=dec ((0:Nat))) rfl rfl (by show 5+_≤_;omega)) (ai (fE (l:=stepW++dec ((0:Nat))) (m:=[58]) (aC _ _) rfl (by rw[aaH];show 5+_+1≤_;omega)) ?_)
   refine aS (lG) ((false,[],aQ c.sts ((0:Nat)),bW ((0:Nat)))) [1,2] (a4 (ai rfl rfl)) (Or.inl rfl) ?_ (by exact (ai (ai rfl (ai rfl rfl)) (ai rfl (ai rfl (ai rfl (fun _ _=>rfl)))))) (⟨by show (aQ c.sts ((0:Nat))).length≤1000000;omega,by show (bW ((0:Nat))).length≤1000000;omega⟩) ?_
   ·exact (ai (ai rfl rfl) rfl)
   refine ei (bG.inv { X:=Nat,up:=fun j=>[(37,.s (iA j))],uo:=fun j=>[⟨1,143,[.s (.own 1 0),.rw 5 1 ((aQ c.sts ((0:Nat))++bW ((0:Nat)))++dh ((c.sts.getD ((0:Nat)) st0).st.take j)).length (vT ((aQ c.sts ((0:Nat))++bW ((0:Nat)))++dh ((c.sts.getD ((0:Nat)) st0).st.take j)))]⟩],inv:=fun j=>j≤(c.sts.getD ((0:Nat)) st0).st.length∧(True),meas:=fun j=>(c.sts.getD ((0:Nat)) st0).st.length-j,x0:=0 }) ?_
   refine ai (ai (ai (by exact (a4 (ai rfl rfl))) (ai ?_ ?_)) rfl) (ai (ai (ac7 _) ?_) ?_)
   ·exact (ai (ai (fun _=>rfl) (iE (by simp only[zz,reduceCtorEq];rfl))) rfl)
   ·refine (ai (ai (ai (ai rfl rfl) rfl) (ai rfl (ai rfl (ai ?_ ?_)))) trivial)
    ·show (aQ c.sts ((0:Nat))++bW ((0:Nat))).length=((aQ c.sts ((0:Nat))++bW ((0:Nat)))++[]).length
     rw[anp]
    ·exact gH (by show _=_++[];rw[anp])
   ·trivial
   intro (j:Nat) ⟨hj,_⟩
   have hT:=tK ((c.sts.getD ((0:Nat)) st0).st.take j)
   rw[ala] at hT
   refine ah (p:=j<(c.sts.getD ((0:Nat)) st0).st.length) (by simp only[zz,reduceCtorEq];omega) (fun h3=>?_) (fun h3=>?_)
   ·refine ai (ai (abr _) (iN (n:=(c.sts.getD ((0:Nat)) st0).st.length) (by omega))) (ai rfl ?_)
    have hw:(iI ((c.sts.getD ((0:Nat)) st0).st.getD j bO)).length=2:=rfl
    refine ei _ (ai (yh) (ei ((c.sts.getD ((0:Nat)) st0).st.getD j bO) (ei [] (ai (a4 (ai (fun _=>Or.inl rfl) (ai nof (Or.inl rfl)))) (ai (by exact (ai (iE (by simp only[zz,reduceCtorEq])) rfl)) (ai trivial (ai (pX g2 h3) ?_)))))))
    refine ai (fE (l:=[32]) (m:=iI ((c.sts.getD ((0:Nat)) st0).st.getD j bO)) rfl rfl (by rw[hw];decide)) ?_
    refine aS (lG) ((true,[],(aQ c.sts ((0:Nat))++bW ((0:Nat)))++dh ((c.sts.getD ((0:Nat)) st0).st.take j),[32]++iI ((c.sts.getD ((0:Nat)) st0).st.getD j bO))) [1,5] (a4 (ai rfl rfl)) (Or.inl rfl) ?_ (by exact (ai (ai rfl (ai (ai rfl rfl) rfl)) (ai rfl (ai rfl (ai rfl (fun _ _=>rfl)))))) (⟨by show ((aQ c.sts ((0:Nat))++bW ((0:Nat)))++dh ((c.sts.getD ((0:Nat)) st0).st.take j)).length≤1000000;simp only[aaH,aio,akY];omega,by show ([32]++iI ((c.sts.getD ((0:Nat)) st0).st.getD j bO)).length≤1000000;rw[aaH,hw];decide⟩) ?_
    ·exact (ai (ai rfl rfl) rfl)
    have eN:((aQ c.sts ((0:Nat))++bW ((0:Nat)))++dh ((c.sts.getD ((0:Nat)) st0).st.take j))++([32]++iI ((c.sts.getD ((0:Nat)) st0).st.getD j bO))=(aQ c.sts ((0:Nat))++bW ((0:Nat)))++dh ((c.sts.getD ((0:Nat)) st0).st.take (j+1)):=by
     rw[aX bO h3]
     unfold dh
     rw[asj]
     simp
    refine ei (j+1) (ai (ai rfl rfl) (ai (ai (ai rfl (ai (ai rfl rfl) (ai (ai rfl rfl) (ai (ai (ai (fun _=>rfl) (aM (by omega))) rfl) (ai (ai (ai (ai rfl rfl) rfl) (ai rfl (ai rfl (ai ?_ ?_)))) trivial))))) rfl) (ai (ai (iL (by omega)) trivial) (iM (by omega)))))
    ·exact congrArg List.length eN
    ·exact gH eN
   obtain rfl:j=(c.sts.getD ((0:Nat)) st0).st.length:=by omega
   have et:(c.sts.getD ((0:Nat)) st0).st.take (c.sts.getD ((0:Nat)) st0).st.length=(c.sts.getD ((0:Nat)) st0).st:=aiy
   rw[et] at hT
   refine ah (p:=0<(c.sts.getD ((0:Nat)) st0).wt) (ak Iff.rfl) (fun h4=>?_) (fun h4=>?_)
   ·obtain ⟨w,hw⟩:∃w:Nat,(c.sts.getD ((0:Nat)) st0).wt=(w:Int):=⟨(c.sts.getD ((0:Nat)) st0).wt.toNat,by omega⟩
    have hd7:=qN (n:=w) (by omega)
    have e0:ku (c.sts.getD ((0:Nat)) st0).wt=[32]++dec w:=by unfold ku;rw[if_pos h4,hw];rfl
    refine ei _ (ai (xJ) (ei (w) (ei [] (ai (a4 (ai (fun _=>Or.inl rfl) (ai nof (Or.inr rfl)))) (ai ?_ (ai (by exact trivial) (ai ((by show w≤1000000;omega)) ?_)))))))
    ·exact (iE (by simp only[zz,reduceCtorEq];omega))
    refine ai (fE (l:=[32]) (m:=dec w) rfl rfl (by show 1+_≤_;omega)) ?_
    refine aS (lG) ((true,[],(aQ c.sts ((0:Nat))++bW ((0:Nat)))++dh ((c.sts.getD ((0:Nat)) st0).st.take (c.sts.getD ((0:Nat)) st0).st.length),[32]++dec w)) [1,5] (a4 (ai rfl rfl)) (Or.inl rfl) ?_ (by exact (ai (ai rfl (ai (ai rfl rfl) rfl)) (ai rfl (ai rfl (ai rfl (fun _ _=>rfl)))))) (⟨by show ((aQ c.sts ((0:Nat))++bW ((0:Nat)))++dh ((c.sts.getD ((0:Nat)) st0).st.take (c.sts.getD ((0:Nat)) st0).st.length)).length≤1000000;rw[et];simp only[aaH,aio,akY];omega,by show ([32]++dec w).length≤1000000;rw[aaH];show 1+_≤_;omega⟩) ?_
    ·exact (ai (ai rfl rfl) rfl)
    refine aS (rE) ((true,[],((aQ c.sts ((0:Nat))++bW ((0:Nat)))++dh ((c.sts.getD ((0:Nat)) st0).st.take (c.sts.getD ((0:Nat)) st0).st.length))++([32]++dec w),10)) [1,6] (a4 (ai rfl rfl)) (Or.inl rfl) (by exact (ai (ai rfl rfl) (iE (by simp only[zz,reduceCtorEq];rfl)))) (by exact (ai (ai rfl (ai (ai rfl rfl) rfl)) (ai rfl (ai rfl (ai rfl (fun _ _=>rfl)))))) ((by show (((aQ c.sts ((0:Nat))++bW ((0:Nat)))++dh ((c.sts.getD ((0:Nat)) st0).st.take (c.sts.getD ((0:Nat)) st0).st.length))++([32]++dec w)).length≤1000000;rw[et];simp only[aaH,aio,akY];omega)) ?_
    have eN:(((aQ c.sts ((0:Nat))++bW ((0:Nat)))++dh ((c.sts.getD ((0:Nat)) st0).st.take (c.sts.getD ((0:Nat)) st0).st.length))++([32]++dec w))++[10]=aQ c.sts ((0:Nat)+1):=by
     show _=aQ c.sts ((0:Nat))++((((bW ((0:Nat))++dh (c.sts.getD ((0:Nat)) st0).st)++ku (c.sts.getD ((0:Nat)) st0).wt))++[10])
     rw[et,e0]
     simp only[anr]
    refine ei (((0:Nat))+1) (ai (ai rfl rfl) (ai (ai (ai rfl (ai (ai rfl rfl) (ai (ai rfl rfl) (ai (ai (ai (fun _=>rfl) (aM (by omega))) rfl) (ai (ai (ai (ai rfl rfl) rfl) (ai rfl (ai rfl (ai ?_ ?_)))) trivial))))) rfl) (ai (ai (iL (by omega)) trivial) (iM (by omega)))))
    ·exact congrArg List.length eN
    ·exact gH eN
   ·have e0:ku (c.sts.getD ((0:Nat)) st0).wt=[]:=by unfold ku;rw[if_neg h4]
    refine aS (rE) ((true,[],(aQ c.sts ((0:Nat))++bW ((0:Nat)))++dh ((c.sts.getD ((0:Nat)) st0).st.take (c.sts.getD ((0:Nat)) st0).st.length),10)) [1,5] (a4 (ai rfl rfl)) (Or.inl rfl) (by exact (ai (ai rfl rfl) (iE (by simp only[zz,reduceCtorEq];rfl)))) (by exact (ai (ai rfl (ai (ai rfl rfl) rfl)) (ai rfl (ai rfl (ai rfl (fun _ _=>rfl)))))) ((by show ((aQ c.sts ((0:Nat))++bW ((0:Nat)))++dh ((c.sts.getD ((0:Nat)) st0).st.take (c.sts.getD ((0:Nat)) st0).st.length)).length≤1000000;rw[et];simp only[aaH,aio,akY];omega)) ?_
    have eN:((aQ c.sts ((0:Nat))++bW ((0:Nat)))++dh ((c.sts.getD ((0:Nat)) st0).st.take (c.sts.getD ((0:Nat)) st0).st.length))++[10]=aQ c.sts ((0:Nat)+1):=by
     show _=aQ c.sts ((0:Nat))++((((bW ((0:Nat))++dh (c.sts.getD ((0:Nat)) st0).st)++ku (c.sts.getD ((0:Nat)) st0).wt))++[10])
     rw[et,e0,anp]
     simp only[anr]
    refine ei (((0:Nat))+1) (ai (ai rfl rfl) (ai (ai (ai rfl (ai (ai rfl rfl) (ai (ai rfl rfl) (ai (ai (ai (fun _=>rfl) (aM (by omega))) rfl) (ai (ai (ai (ai rfl rfl) rfl) (ai rfl (ai rfl (ai ?_ ?_)))) trivial))))) rfl) (ai (ai (iL (by omega)) trivial) (iM (by omega)))))
    ·exact congrArg List.length eN
    ·exact gH eN
  ·exact absurd hs24.1 (by omega)
 | succ k=>
  refine ah (p:=k+1<c.sts.length) (ak (by omega)) (fun h2=>?_) (fun h2=>?_)
  ·refine ai (ai (abr _) (iN (n:=c.sts.length) (by omega))) (ai rfl ?_)
   have hd:=nU (n:=k+1) (by omega)
   have hh:=sV (k:=k+1) (by omega)
   obtain ⟨g1,g2,g3,g4⟩:=wI hc h2
   refine ei _ (ai (qz) (ei (k+1) (ei [] (ai (a4 (ai (fun _=>Or.inl rfl) (ai nof (Or.inl rfl)))) (ai (by exact rfl) (ai trivial (ai ((by show k+1<100;omega)) ?_)))))))
   refine ai (fE (l:=stepW) (m:=dec (k+1)) rfl rfl (by show 5+_≤_;omega)) (ai (fE (l:=stepW++dec (k+1)) (m:=[58]) (aC _ _) rfl (by rw[aaH];show 5+_+1≤_;omega)) ?_)
   refine aS (lG) ((true,[],aQ c.sts (k+1),bW (k+1))) [1,2] (a4 (ai rfl rfl)) (Or.inl rfl) ?_ (by exact (ai (ai rfl (ai (ai rfl rfl) rfl)) (ai rfl (ai rfl (ai rfl (fun _ _=>rfl)))))) (⟨by show (aQ c.sts (k+1)).length≤1000000;omega,by show (bW (k+1)).length≤1000000;omega⟩) ?_
   ·exact (ai (ai rfl rfl) rfl)
   refine ei (bG.inv { X:=Nat,up:=fun j=>[(37,.s (iA j))],uo:=fun j=>[⟨1,143,[.s (.own 1 0),.rw 5 1 ((aQ c.sts (k+1)++bW (k+1))++dh ((c.sts.getD (k+1) st0).st.take j)).length (vT ((aQ c.sts (k+1)++bW (k+1))++dh ((c.sts.getD (k+1) st0).st.take j)))]⟩],inv:=fun j=>j≤(c.sts.getD (k+1) st0).st.length∧(True),meas:=fun j=>(c.sts.getD (k+1) st0).st.length-j,x0:=0 }) ?_
   refine ai (ai (ai (by exact (a4 (ai rfl rfl))) (ai ?_ ?_)) rfl) (ai (ai (ac7 _) ?_) ?_)
   ·exact (ai (ai (fun _=>rfl) (iE (by simp only[zz,reduceCtorEq];rfl))) rfl)
   ·refine (ai (ai (ai (ai rfl rfl) rfl) (ai rfl (ai rfl (ai ?_ ?_)))) trivial)
    ·show (aQ c.sts (k+1)++bW (k+1)).length=((aQ c.sts (k+1)++bW (k+1))++[]).length
     rw[anp]
    ·exact gH (by show _=_++[];rw[anp])
   ·trivial
   intro (j:Nat) ⟨hj,_⟩
   have hT:=tK ((c.sts.getD (k+1) st0).st.take j)
   rw[ala] at hT
   refine ah (p:=j<(c.sts.getD (k+1) st0).st.length) (by simp only[zz,reduceCtorEq];omega) (fun h3=>?_) (fun h3=>?_)
   ·refine ai (ai (abr _) (iN (n:=(c.sts.getD (k+1) st0).st.length) (by omega))) (ai rfl ?_)
    have hw:(iI ((c.sts.getD (k+1) st0).st.getD j bO)).length=2:=rfl
    refine ei _ (ai (yh) (ei ((c.sts.getD (k+1) st0).st.getD j bO) (ei [] (ai (a4 (ai (fun _=>Or.inl rfl) (ai nof (Or.inl rfl)))) (ai (by exact (ai (iE (by simp only[zz,reduceCtorEq])) rfl)) (ai trivial (ai (pX g2 h3) ?_)))))))
    refine ai (fE (l:=[32]) (m:=iI ((c.sts.getD (k+1) st0).st.getD j bO)) rfl rfl (by rw[hw];decide)) ?_
    refine aS (lG) ((true,[],(aQ c.sts (k+1)++bW (k+1))++dh ((c.sts.getD (k+1) st0).st.take j),[32]++iI ((c.sts.getD (k+1) st0).st.getD j bO))) [1,5] (a4 (ai rfl rfl)) (Or.inl rfl) ?_ (by exact (ai (ai rfl (ai (ai rfl rfl) rfl)) (ai rfl (ai rfl (ai rfl (fun _ _=>rfl)))))) (⟨by show ((aQ c.sts (k+1)++bW (k+1))++dh ((c.sts.getD (k+1) st0).st.take j)).length≤1000000;simp only[aaH,aio,akY];omega,by show ([32]++iI ((c.sts.getD (k+1) st0).st.getD j bO)).length≤1000000;rw[aaH,hw];decide⟩) ?_
    ·exact (ai (ai rfl rfl) rfl)
    have eN:((aQ c.sts (k+1)++bW (k+1))++dh ((c.sts.getD (k+1) st0).st.take j))++([32]++iI ((c.sts.getD (k+1) st0).st.getD j bO))=(aQ c.sts (k+1)++bW (k+1))++dh ((c.sts.getD (k+1) st0).st.take (j+1)):=by
     rw[aX bO h3]
     unfold dh
     rw[asj]
     simp
    refine ei (j+1) (ai (ai rfl rfl) (ai (ai (ai rfl (ai (ai rfl rfl) (ai (ai rfl rfl) (ai (ai (ai (fun _=>rfl) (aM (by omega))) rfl) (ai (ai (ai (ai rfl rfl) rfl) (ai rfl (ai rfl (ai ?_ ?_)))) trivial))))) rfl) (ai (ai (iL (by omega)) trivial) (iM (by omega)))))
    ·exact congrArg List.length eN
    ·exact gH eN
   obtain rfl:j=(c.sts.getD (k+1) st0).st.length:=by omega
   have et:(c.sts.getD (k+1) st0).st.take (c.sts.getD (k+1) st0).st.length=(c.sts.getD (k+1) st0).st:=aiy
   rw[et] at hT
   refine ah (p:=0<(c.sts.getD (k+1) st0).wt) (ak Iff.rfl) (fun h4=>?_) (fun h4=>?_)
   ·obtain ⟨w,hw⟩:∃w:Nat,(c.sts.getD (k+1) st0).wt=(w:Int):=⟨(c.sts.getD (k+1) st0).wt.toNat,by omega⟩
    have hd7:=qN (n:=w) (by omega)
    have e0:ku (c.sts.getD (k+1) st0).wt=[32]++dec w:=by unfold ku;rw[if_pos h4,hw];rfl
    refine ei _ (ai (xJ) (ei (w) (ei [] (ai (a4 (ai (fun _=>Or.inl rfl) (ai nof (Or.inr rfl)))) (ai ?_ (ai (by exact trivial) (ai ((by show w≤1000000;omega)) ?_)))))))
    ·exact (iE (by simp only[zz,reduceCtorEq];omega))
    refine ai (fE (l:=[32]) (m:=dec w) rfl rfl (by show 1+_≤_;omega)) ?_
    refine aS (lG) ((true,[],(aQ c.sts (k+1)++bW (k+1))++dh ((c.sts.getD (k+1) st0).st.take (c.sts.getD (k+1) st0).st.length),[32]++dec w)) [1,5] (a4 (ai rfl rfl)) (Or.inl rfl) ?_ (by exact (ai (ai rfl (ai (ai rfl rfl) rfl)) (ai rfl (ai rfl (ai rfl (fun _ _=>rfl)))))) (⟨by show ((aQ c.sts (k+1)++bW (k+1))++dh ((c.sts.getD (k+1) st0).st.take (c.sts.getD (k+1) st0).st.length)).length≤1000000;rw[et];simp only[aaH,aio,akY];omega,by show ([32]++dec w).length≤1000000;rw[aaH];show 1+_≤_;omega⟩) ?_
    ·exact (ai (ai rfl rfl) rfl)
    refine aS (rE) ((true,[],((aQ c.sts (k+1)++bW (k+1))++dh ((c.sts.getD (k+1) st0).st.take (c.sts.getD (k+1) st0).st.length))++([32]++dec w),10)) [1,6] (a4 (ai rfl rfl)) (Or.inl rfl) (by exact (ai (ai rfl rfl) (iE (by simp only[zz,reduceCtorEq];rfl)))) (by exact (ai (ai rfl (ai (ai rfl rfl) rfl)) (ai rfl (ai rfl (ai rfl (fun _ _=>rfl)))))) ((by show (((aQ c.sts (k+1)++bW (k+1))++dh ((c.sts.getD (k+1) st0).st.take (c.sts.getD (k+1) st0).st.length))++([32]++dec w)).length≤1000000;rw[et];simp only[aaH,aio,akY];omega)) ?_
    have eN:(((aQ c.sts (k+1)++bW (k+1))++dh ((c.sts.getD (k+1) st0).st.take (c.sts.getD (k+1) st0).st.length))++([32]++dec w))++[10]=aQ c.sts (k+1+1):=by
     show _=aQ c.sts (k+1)++((((bW (k+1)++dh (c.sts.getD (k+1) st0).st)++ku (c.sts.getD (k+1) st0).wt))++[10])
     rw[et,e0]
     simp only[anr]
    refine ei ((k+1)+1) (ai (ai rfl rfl) (ai (ai (ai rfl (ai (ai rfl rfl) (ai (ai rfl rfl) (ai (ai (ai (fun _=>rfl) (aM (by omega))) rfl) (ai (ai (ai (ai rfl rfl) rfl) (ai rfl (ai rfl (ai ?_ ?_)))) trivial))))) rfl) (ai (ai (iL (by omega)) trivial) (iM (by omega)))))
    ·exact congrArg List.length eN
    ·exact gH eN
   ·have e0:ku (c.sts.getD (k+1) st0).wt=[]:=by unfold ku;rw[if_neg h4]
    refine aS (rE) ((true,[],(aQ c.sts (k+1)++bW (k+1))++dh ((c.sts.getD (k+1) st0).st.take (c.sts.getD (k+1) st0).st.length),10)) [1,5] (a4 (ai rfl rfl)) (Or.inl rfl) (by exact (ai (ai rfl rfl) (iE (by simp only[zz,reduceCtorEq];rfl)))) (by exact (ai (ai rfl (ai (ai rfl rfl) rfl)) (ai rfl (ai rfl (ai rfl (fun _ _=>rfl)))))) ((by show ((aQ c.sts (k+1)++bW (k+1))++dh ((c.sts.getD (k+1) st0).st.take (c.sts.getD (k+1) st0).st.length)).length≤1000000;rw[et];simp only[aaH,aio,akY];omega)) ?_
    have eN:((aQ c.sts (k+1)++bW (k+1))++dh ((c.sts.getD (k+1) st0).st.take (c.sts.getD (k+1) st0).st.length))++[10]=aQ c.sts (k+1+1):=by
     show _=aQ c.sts (k+1)++((((bW (k+1)++dh (c.sts.getD (k+1) st0).st)++ku (c.sts.getD (k+1) st0).wt))++[10])
     rw[et,e0,anp]
     simp only[anr]
    refine ei ((k+1)+1) (ai (ai rfl rfl) (ai (ai (ai rfl (ai (ai rfl rfl) (ai (ai rfl rfl) (ai (ai (ai (fun _=>rfl) (aM (by omega))) rfl) (ai (ai (ai (ai rfl rfl) rfl) (ai rfl (ai rfl (ai ?_ ?_)))) trivial))))) rfl) (ai (ai (iL (by omega)) trivial) (iM (by omega)))))
    ·exact congrArg List.length eN
    ·exact gH eN
  ·have hkn:k+1=c.sts.length:=by omega
   refine ei (bG.inv { X:=Nat,up:=fun i=>[(66,.s (iA i))],uo:=fun i=>[⟨1,143,[.s (.own 1 0),.rw 5 1 (aQ c.sts (k+1)++iw (bQ c) c.trs i).length (vT (aQ c.sts (k+1)++iw (bQ c) c.trs i))]⟩],inv:=fun i=>i≤c.trs.length∧(True),meas:=fun i=>c.trs.length-i,x0:=0 }) ?_
   refine ai (ai (ai (by exact (a4 (ai rfl rfl))) (ai ?_ ?_)) rfl) (ai (ai (ac7 _) ?_) ?_)
   ·exact (ai (ai (fun _=>rfl) (iE (by simp only[zz,reduceCtorEq];rfl))) rfl)
   ·refine (ai (ai (ai (ai rfl rfl) rfl) (ai rfl (ai rfl (ai ?_ ?_)))) trivial)
    ·show (aQ c.sts (k+1)).length=(aQ c.sts (k+1)++[]).length
     rw[anp]
    ·exact gH (by show _=_++[];rw[anp])
   ·trivial
   intro (i:Nat) ⟨hi,_⟩
   have hM:=yu hc hi
   refine ah (p:=i<c.trs.length) (ak (by omega)) (fun h5=>?_) (fun h5=>?_)
   ·refine ai (ai (abr _) (iN (n:=c.trs.length) (by omega))) (ai rfl ?_)
    obtain ⟨⟨q1,q2⟩,q3,q4,q5⟩:=wH hc h5
    obtain ⟨⟨p1,p2⟩,p3,p4⟩:=aaX hc h5
    have x1:=ng (kV hc h5).1.1 (by decide)
    have x2:=ng (kV hc h5).2.1.1 (by decide)
    refine ei (.seq [0,1,2,3,4,5,6,7,8,9]) (ai (by kernel_rfl) ?_)
    refine ei _ (ai (agf) (ei (c) (ei [] (ai (a4 (ai (fun _=>Or.inl rfl) (ai nof (Or.inl rfl)))) (ai (by exact (ai rfl (ai (ai rfl (fun _ _=>rfl)) (ai (ai rfl (fun _ _=>rfl)) (ai rfl (fun _ _=>rfl)))))) (ai trivial (ai (tL hc) ?_)))))))
    refine ei _ (ai (aje) (ei (((c.trs.getD i aG).wh,bQ c)) (ei [] (ai (a4 (ai (fun _=>Or.inl rfl) (ai nof (Or.inl rfl)))) (ai (by exact (ai (ai (iE (by simp only[zz,reduceCtorEq])) (ai (iE (by simp only[zz,reduceCtorEq])) (ai rfl (fun _ _=>rfl)))) (ai rfl (fun _ _=>rfl)))) (ai trivial (ai (alQ hc h40 h5) ?_)))))))
    refine ei (.one 0 (.one 1 (.one 4 (.one 5 (.one 9 (.one 2 (.one 3 (.one 6 (.one 7 (.one 8 (.one 10 (.one 11 (.wr 12 .done))))))))))))) (ai (by kernel_rfl) ?_)
    refine ei _ (ai (sJ) (ei ((c.trs.getD i aG).fr) (ei [] (ai (a4 (ai (fun _=>Or.inl rfl) (ai nof (Or.inl rfl)))) (ai (by exact (ai rfl (fun _ _=>rfl))) (ai trivial (ai (⟨x1,by show (c.trs.getD i aG).fr.length≤1000;omega⟩) ?_)))))))
    refine ai (fE (l:=inT (c.trs.getD i aG).fr) (m:=[32,62,32]) rfl rfl (by show _+3≤_;omega)) ?_
    refine ei _ (ai (sJ) (ei ((c.trs.getD i aG).to) (ei [] (ai (a4 (ai (fun _=>Or.inl rfl) (ai nof (Or.inl rfl)))) (ai (by exact (ai rfl (fun _ _=>rfl))) (ai trivial (ai (⟨x2,by show (c.trs.getD i aG).to.length≤1000;omega⟩) ?_)))))))
    have hX2:(strOf (inT (c.trs.getD i aG).fr)++strOf [32,62,32])++strOf (inT (c.trs.getD i aG).to)=strOf ((inT (c.trs.getD i aG).fr++[32,62,32])++inT (c.trs.getD i aG).to):=by rw[aC,aC]
    have hX3:((strOf (inT (c.trs.getD i aG).fr)++strOf [32,62,32])++strOf (inT (c.trs.getD i aG).to))++strOf [58,32]=strOf (((inT (c.trs.getD i aG).fr++[32,62,32])++inT (c.trs.getD i aG).to)++[58,32]):=by rw[hX2,aC]
    have hX4:(((strOf (inT (c.trs.getD i aG).fr)++strOf [32,62,32])++strOf (inT (c.trs.getD i aG).to))++strOf [58,32])++strOf (bB (bQ c) (c.trs.getD i aG).wh)=strOf ((((inT (c.trs.getD i aG).fr++[32,62,32])++inT (c.trs.getD i aG).to)++[58,32])++bB (bQ c) (c.trs.getD i aG).wh):=by rw[hX3,aC]
    have hX5:((((strOf (inT (c.trs.getD i aG).fr)++strOf [32,62,32])++strOf (inT (c.trs.getD i aG).to))++strOf [58,32])++strOf (bB (bQ c) (c.trs.getD i aG).wh))++strOf [10]=strOf (vF (bQ c) (c.trs.getD i aG)):=by rw[hX4,aC];rfl
    refine ai (fE (l:=inT (c.trs.getD i aG).fr++[32,62,32]) (m:=inT (c.trs.getD i aG).to) (aC _ _) rfl (by simp only[aaH,aio,akY];omega)) ?_
    refine ai (fE (l:=(inT (c.trs.getD i aG).fr++[32,62,32])++inT (c.trs.getD i aG).to) (m:=[58,32]) hX2 rfl (by simp only[aaH,aio,akY];omega)) ?_
    refine ai (fE (l:=((inT (c.trs.getD i aG).fr++[32,62,32])++inT (c.trs.getD i aG).to)++[58,32]) (m:=bB (bQ c) (c.trs.getD i aG).wh) hX3 rfl (by simp only[aaH,aio,akY];omega)) ?_
    refine ai (fE (l:=(((inT (c.trs.getD i aG).fr++[32,62,32])++inT (c.trs.getD i aG).to)++[58,32])++bB (bQ c) (c.trs.getD i aG).wh) (m:=[10]) hX4 rfl (by simp only[aaH,aio,akY];omega)) ?_
    refine aS (lG) ((true,[],aQ c.sts (k+1)++iw (bQ c) c.trs i,vF (bQ c) (c.trs.getD i aG))) [1,3] (a4 (ai rfl rfl)) (Or.inl rfl) ?_ (by exact (ai (ai rfl (ai (ai rfl rfl) rfl)) (ai rfl (ai rfl (ai rfl (fun _ _=>rfl)))))) (⟨by show (aQ c.sts (k+1)++iw (bQ c) c.trs i).length≤1000000;rw[aaH];omega,by show (vF (bQ c) (c.trs.getD i aG)).length≤1000000;omega⟩) ?_
    ·exact (ai (ai rfl rfl) rfl)
    have eN:(aQ c.sts (k+1)++iw (bQ c) c.trs i)++vF (bQ c) (c.trs.getD i aG)=aQ c.sts (k+1)++iw (bQ c) c.trs (i+1):=by rw[iw,anr]
    refine ei (i+1) (ai (ai rfl rfl) (ai (ai (ai rfl (ai (ai rfl rfl) (ai (ai rfl rfl) (ai (ai (ai (fun _=>rfl) (aM (by omega))) rfl) (ai (ai (ai (ai rfl rfl) rfl) (ai rfl (ai rfl (ai ?_ ?_)))) trivial))))) rfl) (ai (ai (iL (by omega)) trivial) (iM (by omega)))))
    ·exact congrArg List.length eN
    ·exact gH eN
   ·obtain rfl:i=c.trs.length:=by omega
    have hne:aQ c.sts (k+1)++iw (bQ c) c.trs c.trs.length≠[]:=fun e=>by
     have:=congrArg List.length e
     rw[aaH,aQ,aaH] at this
     have h7:0<(lnK k (c.sts.getD k st0)).length:=by unfold lnK;rw[aaH];exact ark _
     have:(aQ c.sts k).length+(lnK k (c.sts.getD k st0)).length+(iw (bQ c) c.trs c.trs.length).length=0:=this
     omega
    refine aci (aaN 143 2) rfl rfl rfl rfl (aQ c.sts (k+1)++iw (bQ c) c.trs c.trs.length) rfl hne (fun j _=>rfl) ?_
    have eT:abN c=aQ c.sts (k+1)++iw (bQ c) c.trs c.trs.length:=by unfold abN;rw[hkn]
    refine ai (ai (fun _=>(by exact (ai trivial trivial))) ?_) trivial
    show au _ (jL c)
    rw[jL,if_pos hc,hc,eT]
    exact (ai rfl rfl)
def anm:List (Nat×(List Nat→SV))→Nat→List Nat→SV
 | [],_,_=>.any
 | (k,v) :: l,i,ns=>match k.beq i with
  | true=>v ns
  | false=>anm l i ns
def ang:List (Nat×List Nat)→Nat→List Nat
 | [],_=>[]
 | (k,v) :: l,i=>match k.beq i with
  | true=>v
  | false=>ang l i
def ana:List (Nat×(List Nat→Ob))→Nat→List Nat→Ob
 | [],_,_=>.cells 0 []
 | (k,v) :: l,i,ns=>match k.beq i with
  | true=>v ns
  | false=>ana l i ns
def hd0:List Nat→Nat
 | []=>0
 | n :: _=>n
def aaC (l:List Int):PV:=.seq l.length (bK 1 (l.map iP))
def agl (fr to:List Int) (x:Ex):List PV:=[aaC fr,aaC to,iP x.op,iP x.idx,.seq x.args.length (exF x.args)]
def fkE:List PV:=agl [0] [1,2] (qg true)++agl [1,2] [0] (qg true)
def fkF (a:Bool):Nat→List PV:=if a=true then pR (bK 5 fkE) 1 0 [aaC [1]] else bK 5 fkE
def jM (a:Bool):PV:=.agg [iP 1,.val (.slice none 0 0),.seq 3 (fun _=>[.val (.slice none 0 0),iP 0]),.seq 2 (fkF a)]
def fkX:SV:=.p true (exP (qg true))
def fkI (l:List Int):SV:=.p false (aaC l)
def fkT (fr to:List Int):SV:=.p false (.agg (agl fr to (qg true)))
def fkS:mU where
 l:=[0,1,2,3,4,5,6,7,8,9,10,11]
 own:=[9,11]
 u:=ang [(9,[9]),(10,[9]),(11,[11])]
 f:=anm [(0,fun _=>.p false (.seq 3 (fun _=>[.val (.slice none 0 0),iP 0]))),(1,fun _=>fkI [0]),(2,fun _=>fkI [1,2]),(3,fun _=>fkX),(4,fun _=>fkT [0] [1,2]),
  (5,fun _=>fkI [1,2]),(6,fun _=>fkI [0]),(7,fun _=>fkX),(8,fun _=>fkT [1,2] [0]),(9,fun ns=>.row (hd0 ns)),
  (10,fun ns=>.agg [.p true (iP 1),.p true (.val (.slice none 0 0)),.p false (.seq 3 (fun _=>[.val (.slice none 0 0),iP 0])),.row (hd0 ns)]),(11,fun ns=>.own (hd0 ns) 0)]
 ob:=ana [(9,fun _=>.row 81 5 2 (bK 5 (agl [0] [1,2] (qg true)++agl [1,2] [0] (qg true)))),
  (11,fun _=>.cells 26 [.p true (iP 0),.p true (.val (.slice none 0 0)),.p true (.val (.slice none 0 0)),.p true (.val (.slice none 0 0))])]
theorem ajp:aL Tryz.prog 58 (jF (fun a:Bool=>[.p false (bP a)]) (fun _=>True) jM):=by
 refine jQ [4000006,4000007,4000008,4000011,4000012,4000020] ?_
 refine bg (Tb:=tab) mixed ay Tryz.func58 rfl rfl ?_
 rintro (a:Bool) hpre
 refine ai (ai rfl (ai rfl rfl)) ?_
 refine ei _ (ai (amK) (ei (true) (ei [] (ai (a4 (ai (fun _=>Or.inl rfl) (ai nof (Or.inl rfl)))) (ai (by exact rfl) (ai trivial (ai (trivial) ?_)))))))
 refine ei (.set fkS (.one 12 .done)) (ai (by kernel_rfl) (ai ?_ ?_))
 ·repeat' (first | exact trivial | refine ai ?_ ?_ | exact anq.mk rfl rfl rfl rfl | intro s | decide)
 refine ai trivial (ai (ai trivial (ai ?_ trivial)) (ai (ai trivial (ai ?_ trivial)) trivial))
 ·refine aZ (b:=a) rfl (fun h=>?_) (fun h=>?_)
  ·refine ai (ai (by decide) (by decide)) (ai (ai (by decide) (by decide)) ?_)
   refine ai (ai (fun h=>absurd (show false=true from h) (by decide)) ?_) trivial
   show au _ (jM a)
   rw[show jM a=.agg [iP 1,.val (.slice none 0 0),.seq 3 (fun _=>[.val (.slice none 0 0),iP 0]),.seq 2 (pR (bK 5 fkE) 1 0 [aaC [1]])] by unfold jM fkF;rw[if_pos h]]
   exact (ai rfl (ai rfl (ai (ai rfl (fun _ _=>rfl)) (ai rfl (fun _ _=>rfl)))))
  ·refine ai (ai (fun h=>absurd (show false=true from h) (by decide)) ?_) trivial
   show au _ (jM a)
   rw[show jM a=.agg [iP 1,.val (.slice none 0 0),.seq 3 (fun _=>[.val (.slice none 0 0),iP 0]),.seq 2 (bK 5 fkE)] by unfold jM fkF;rw[if_neg (by rw[h];decide)]]
   exact (ai rfl (ai rfl (ai (ai rfl (fun _ _=>rfl)) (ai rfl (fun _ _=>rfl)))))
 ·refine aZ (b:=a) rfl (fun h=>?_) (fun h=>?_)
  ·refine ai (ai (by decide) (by decide)) (ai (ai (by decide) (by decide)) ?_)
   refine ai (ai (fun h=>absurd (show false=true from h) (by decide)) ?_) trivial
   show au _ (jM a)
   rw[show jM a=.agg [iP 1,.val (.slice none 0 0),.seq 3 (fun _=>[.val (.slice none 0 0),iP 0]),.seq 2 (pR (bK 5 fkE) 1 0 [aaC [1]])] by unfold jM fkF;rw[if_pos h]]
   exact (ai rfl (ai rfl (ai (ai rfl (fun _ _=>rfl)) (ai rfl (fun _ _=>rfl)))))
  ·refine ai (ai (fun h=>absurd (show false=true from h) (by decide)) ?_) trivial
   show au _ (jM a)
   rw[show jM a=.agg [iP 1,.val (.slice none 0 0),.seq 3 (fun _=>[.val (.slice none 0 0),iP 0]),.seq 2 (bK 5 fkE)] by unfold jM fkF;rw[if_neg (by rw[h];decide)]]
   exact (ai rfl (ai rfl (ai (ai rfl (fun _ _=>rfl)) (ai rfl (fun _ _=>rfl)))))
def kE (a:Bool):bD:=⟨1,[],[⟨[],0⟩,⟨[],0⟩,⟨[],0⟩],[⟨[0],[1,2],qg true⟩,⟨if a then [1] else [1,2],[0],qg true⟩]⟩
theorem an6 (a:Bool):iH (jM a) (vk (kE a)):=by
 refine wF (bS (.refl _) (bS (.nil _) (bS (ig fun k hk=>?_) (bS (ig fun k hk=>?_) nS))))
 ·match k,hk with
  | 0,_=>exact adG (.nil _) (.refl _)
  | 1,_=>exact adG (.nil _) (.refl _)
  | 2,_=>exact adG (.nil _) (.refl _)
 ·have one:∀x:Int,iH (aaC [x]) (mW [x]):=fun x=>ig fun k hk=>by match k,hk with | 0,_=>exact cB.rfl' _
  have two:∀x y:Int,iH (aaC [x,y]) (mW [x,y]):=fun x y=>ig fun k hk=>by match k,hk with | 0,_=>exact cB.rfl' _ | 1,_=>exact cB.rfl' _
  match k,hk with
  | 0,_=>cases a<;>exact bS (one 0) (bS (two 1 2) (cB.rfl' _))
  | 1,_=>
   cases a
   ·exact bS (two 1 2) (bS (one 0) (cB.rfl' _))
   ·exact bS (one 1) (bS (one 0) (cB.rfl' _))
theorem ahV:aL Tryz.prog 58 (jF (fun a:Bool=>[.p false (bP a)]) (fun _=>True) (fun a=>vk (kE a))):=adC ajp fun a _=>an6 a
def three:nJ:=⟨2,[⟨[(0,true)],0⟩,⟨[(1,true)],150⟩,⟨[(0,false),(1,false)],0⟩]⟩
def apc (n:Int) (b:Bool):PV:=.seq 1 (bK 2 [iP n,bP b])
def uh:PV:=.agg [iP 2,.seq 3 (bK 2 [apc 0 true,iP 0,apc 1 true,iP 150,.seq 2 (bK 2 [iP 0,bP false,iP 1,bP false]),iP 0])]
theorem aj2:aL Tryz.prog 57 (jF (fun _:Unit=>[]) (fun _=>True) (fun _=>uh)):=by
 refine jQ [4000002,4000005,4000009,4000011] ?_
 refine bg (Tb:=tab) mixed ay Tryz.func57 rfl rfl ?_
 rintro (u:Unit) hpre
 refine ai (ai rfl (ai rfl rfl)) ?_
 refine ai (ai (fun h=>absurd (show false=true from h) (by decide)) ?_) trivial
 show au _ (uh)
 rw[show uh=uh from rfl]
 exact (ai rfl (ai rfl (fun _ _=>rfl)))
theorem amY:iH uh (.agg (sqK three)):=by
 refine wF (bS (.refl _) (bS (ig fun k hk=>?_) nS))
 match k,hk with
 | 0,_=>exact adG (ig fun k hk=>by match k,hk with | 0,_=>exact cB.rfl' _) (.refl _)
 | 1,_=>exact adG (ig fun k hk=>by match k,hk with | 0,_=>exact cB.rfl' _) (.refl _)
 | 2,_=>exact adG (ig fun k hk=>by match k,hk with | 0,_=>exact cB.rfl' _ | 1,_=>exact cB.rfl' _) (.refl _)
theorem am8:aL Tryz.prog 57 (jF (fun _:Unit=>[]) (fun _=>True) (fun _=>.agg (sqK three))):=adC aj2 fun _ _=>amY
def vrX (n:Int):Ex:=.node 1 n []
def c3:bD:=⟨2,[[115,116,97,114,116]],[⟨[],0⟩,⟨[(0,true)],0⟩,⟨[(1,true)],0⟩,⟨[],150⟩,⟨[(0,false),(1,false)],0⟩],
 [⟨[0],[1],vrX 4⟩,⟨[1],[2],vrX 1⟩,⟨[2],[3],vrX 3⟩,⟨[3],[4],vrX 8⟩,⟨[4],[0],.node 3 0 [vrX 0,vrX 2]⟩]⟩
def alS:List UInt8:=[115,116,101,112,32,48,58,10,115,116,101,112,32,49,58,32,65,43,10,115,116,101,112,32,50,58,32,66,43,10,115,116,101,112,32,51,58,32,49,53,48,10,115,116,101,112,32,52,58,32,65,45,32,66,45,10,48,32,62,32,49,58,32,115,116,97,114,116,10,49,32,62,32,50,58,32,97,49,10,50,32,62,32,51,58,32,98,49,10,51,32,62,32,52,58,32,121,51,10,52,32,62,32,48,58,32,97,48,32,38,32,98,48,10]
theorem ao5:ofC three=c3:=by kernel_rfl
theorem aqO:wM three=0:=by decide +kernel
theorem aqa:bJ c3=0:=by decide +kernel
theorem aod:abN c3=alS:=by decide +kernel
theorem aqh:nX (nA c3)=[[false,false,false,false,true],[false,false,false,true,false],[false,false,true,false,false],[false,true,false,false,false],[true,false,false,false,false]]:=by decide +kernel
theorem apX:nX (nA (kE false))=[[false,true,true],[true,false,false]]:=by decide +kernel
theorem ex3:uT c3=0:=by decide +kernel
theorem arC:uT (kE false)=0:=by decide +kernel
theorem arD:uT (kE true)=0:=by decide +kernel
theorem apb:rV (kE true)=([0,1,0],true):=by decide +kernel
theorem am0:jP c3∧∀t∈c3.trs,t.wh.size≤120:=by
 refine ⟨⟨fun s hs=>?_,fun t ht=>?_⟩,fun t ht=>?_⟩
 ·have:∀s∈c3.sts,s.st.length≤2:=by decide
  have:=this s hs;omega
 ·have:∀t∈c3.trs,t.fr.length≤2∧t.to.length≤2∧t.wh.size≤10:=by decide +kernel
  have:=this t ht
  exact ⟨by omega,by omega,by omega⟩
 ·have:∀t∈c3.trs,t.wh.size≤10:=by decide +kernel
  have:=this t ht;omega
theorem arp:∀t∈c3.trs,ab7 t.wh:=by
 intro t ht
 simp only[c3,akZ,List.mem_nil_iff,or_false] at ht
 rcases ht with rfl | rfl | rfl | rfl | rfl
 ·exact .inl rfl
 ·exact .inl rfl
 ·exact .inl rfl
 ·exact .inl rfl
 ·refine .inr ⟨rfl,fun y hy=>?_⟩
  simp only[akZ,List.mem_nil_iff,or_false,Ex.args] at hy
  rcases hy with rfl | rfl<;>rfl
theorem okF (a:Bool):jP (kE a)∧amV (kE a):=by
 have h1:∀a,∀s∈(kE a).sts,s.st.length≤2:=by decide
 have h2:∀a,∀t∈(kE a).trs,t.fr.length≤2∧t.to.length≤2∧t.wh.size≤10:=by decide +kernel
 refine ⟨⟨fun s hs=>?_,fun t ht=>?_⟩,?_⟩
 ·have:=h1 a s hs;omega
 ·have:=h2 a t ht;exact ⟨by omega,by omega,by omega⟩
 ·cases a<;>exact ⟨by decide,by decide⟩
def mF:List (List Bool):=[[false,true,true],[true,false,false]]
section
variable {z : Int} (hz : z = 0)
include hz
theorem apa:aL Tryz.prog 18 (jF (fun _:Unit=>[sqA three]) (fun _=>True) (fun _=>.tup [vk c3,iP z])):=
 kM ae0 three trivial (by show PV.tup [vk (ofC three),iP (wM three)]=_;rw[hz,ao5,aqO])
theorem aqp:aL Tryz.prog 24 (fnG (fun _:Unit=>[kF c3]) (fun _=>True) (fun _=>.tup [sP alS,iP z])):=by
 have h:aL Tryz.prog 24 (fnG (fun _:Unit=>[kF c3]) (fun _=>True) (fun _=>jL c3)):=⟨ac2.1,fun _ _ E vs w hg hh hA=>ac2.2 c3 ⟨am0.1,fun _ t ht=>⟨am0.2 t ht,arp t ht⟩⟩ E vs w hg hh hA⟩
 have e:jL c3=.tup [sP alS,iP z]:=by unfold jL;rw[if_pos aqa,aqa,aod,hz]
 rw[e] at h;exact h
theorem ap6:aL Tryz.prog 29 (jF (fun _:Unit=>[kF c3]) (fun _=>True) (fun _=>.tup [bbP [[false,false,false,false,true],[false,false,false,true,false],[false,false,true,false,false],[false,true,false,false,false],[true,false,false,false,false]],iP z])):=
 kM abg c3 am0.1 (by show qR c3=_;unfold qR;rw[hz,aqh,ex3])
theorem ao7:aL Tryz.prog 29 (jF (fun _:Unit=>[kF (kE false)]) (fun _=>True) (fun _=>.tup [bbP mF,iP z])):=
 kM abg (kE false) (okF false).1 (by show qR (kE false)=_;unfold qR;rw[hz,apX,arC];rfl)
theorem aoZ:aL Tryz.prog 13 (jF (fun _:Unit=>[kF (kE true)]) (fun _=>True) (fun _=>.tup [bP false,mW [0,1,0],iP z])):=
 kM aob (kE true) (okF true).1 (by show xH (kE true)=_;unfold xH;rw[if_pos arD,apb,hz];rfl)
end
def rwM:PV:=.seq 2 (bK 1 [.seq 3 (bK 1 [bP false,bP true,bP true]),.seq 3 (bK 1 [bP true,bP false,bP false])])
theorem apn:iH rwM (bbP mF):=ig fun k hk=>by
 match k,hk with
 | 0,_=>exact abK (ig fun k hk=>by match k,hk with | 0,_=>exact cB.rfl' _ | 1,_=>exact cB.rfl' _ | 2,_=>exact cB.rfl' _)
 | 1,_=>exact abK (ig fun k hk=>by match k,hk with | 0,_=>exact cB.rfl' _ | 1,_=>exact cB.rfl' _ | 2,_=>exact cB.rfl' _)
theorem smM:aj6 mF:=⟨by decide,fun m hm=>by
 have:∀m∈mF,m.length≤3:=by decide
 have:=this m hm
 omega⟩
theorem amF:aL Tryz.prog 33 (cu (fun _:Unit=>[bbA mF,.p false rwM]) (fun _=>True) (fun _=>bP true)):=
 alO (uS ai3 (mF,mF) smM (by show bP (decide (mF=mF))=_;rw[decide_eq_true rfl];rfl)) fun _ _=>⟨.inl rfl,.inr ⟨_,_,rfl,rfl,apn⟩,trivial⟩
theorem apM:aL Tryz.prog 59 (cu (fun _:Unit=>[isA [0,1,0],isA [0,1,0]]) (fun _=>True) (fun _=>bP true)):=
 uS aow ([0,1,0],[0,1,0]) (by decide) rfl
def aqY:Spec:=fnG (fun _:Unit=>[]) (fun _=>True) (fun _=>bP true)
theorem acK:aL Tryz.prog 12 aqY:=by
 refine jQ [4000061,4000062,4000063,4000072] ?_
 refine bg (Tb:=tab) mixed ay Tryz.func12 rfl rfl ?_
 rintro ⟨⟩ hpre
 refine ai (ai rfl (ai rfl rfl)) ?_
 obtain ⟨z,hz⟩:∃z:Int,z=0:=⟨0,rfl⟩
 refine ei _ (ai (am8) (ei (()) (ei [] (ai (a4 (ai (fun _=>Or.inl rfl) (ai nof (Or.inl rfl)))) (ai (by exact trivial) (ai trivial (ai (trivial) ?_)))))))
 refine ei _ (ai ((apa hz)) (ei (()) (ei [] (ai (a4 (ai (fun _=>Or.inl rfl) (ai nof (Or.inl rfl)))) (ai (by exact (ai rfl (ai rfl (fun _ _=>rfl)))) (ai trivial (ai (trivial) ?_)))))))
 refine ei _ (ai ((aqp hz)) (ei (()) (ei [] (ai (a4 (ai (fun _=>Or.inl rfl) (ai nof (Or.inr rfl)))) (ai (by exact (ai rfl (ai (ai rfl (fun _ _=>rfl)) (ai (ai rfl (fun _ _=>rfl)) (ai rfl (fun _ _=>rfl)))))) (ai trivial (ai (trivial) ?_)))))))
 refine ei _ (ai ((ap6 hz)) (ei (()) (ei [] (ai (a4 (ai (fun _=>Or.inl rfl) (ai nof (Or.inl rfl)))) (ai (by exact (ai rfl (ai (ai rfl (fun _ _=>rfl)) (ai (ai rfl (fun _ _=>rfl)) (ai rfl (fun _ _=>rfl)))))) (ai trivial (ai (trivial) ?_)))))))
 refine ei _ (ai (ahV) (ei (false) (ei [] (ai (a4 (ai (fun _=>Or.inl rfl) (ai nof (Or.inl rfl)))) (ai (by exact rfl) (ai trivial (ai (trivial) ?_)))))))
 refine ei _ (ai (wo) (ei (kE false) (ei [] (ai (a4 (ai (fun _=>Or.inl rfl) (ai nof (Or.inl rfl)))) (ai (by exact (ai rfl (ai (ai rfl (fun _ _=>rfl)) (ai (ai rfl (fun _ _=>rfl)) (ai rfl (fun _ _=>rfl)))))) (ai trivial (ai ((okF false).2) ?_)))))))
 refine ei _ (ai ((ao7 hz)) (ei (()) (ei [] (ai (a4 (ai (fun _=>Or.inl rfl) (ai nof (Or.inl rfl)))) (ai (by exact (ai rfl (ai (ai rfl (fun _ _=>rfl)) (ai (ai rfl (fun _ _=>rfl)) (ai rfl (fun _ _=>rfl)))))) (ai trivial (ai (trivial) ?_)))))))
 refine ei _ (ai (ahV) (ei (true) (ei [] (ai (a4 (ai (fun _=>Or.inl rfl) (ai nof (Or.inl rfl)))) (ai (by exact rfl) (ai trivial (ai (trivial) ?_)))))))
 refine ei _ (ai (wo) (ei (kE true) (ei [] (ai (a4 (ai (fun _=>Or.inl rfl) (ai nof (Or.inl rfl)))) (ai (by exact (ai rfl (ai (ai rfl (fun _ _=>rfl)) (ai (ai rfl (fun _ _=>rfl)) (ai rfl (fun _ _=>rfl)))))) (ai trivial (ai ((okF true).2) ?_)))))))
 refine ei _ (ai ((aoZ hz)) (ei (()) (ei [] (ai (a4 (ai (fun _=>Or.inl rfl) (ai nof (Or.inl rfl)))) (ai (by exact (ai rfl (ai (ai rfl (fun _ _=>rfl)) (ai (ai rfl (fun _ _=>rfl)) (ai rfl (fun _ _=>rfl)))))) (ai trivial (ai (trivial) ?_)))))))
 refine aZ (b:=true) (by simp only[hz,Int.add_zero,apf];rfl) (fun _=>?_) (fun h=>absurd h (by decide))
 refine ei _ (ai (amF) (ei (()) (ei [] (ai (a4 (ai (fun _=>Or.inl rfl) (ai nof (Or.inl rfl)))) (ai ?_ (ai trivial (ai ?_ ?_)))))))
 ·exact (ai (ai rfl (fun _ _=>rfl)) (ai rfl (fun _ _=>rfl)))
 ·trivial
 refine ei _ (ai (apM) (ei (()) (ei [] (ai (a4 (ai (fun _=>Or.inl rfl) (ai nof (Or.inl rfl)))) (ai ?_ (ai trivial (ai ?_ ?_)))))))
 ·refine (ai (ai rfl (fun _ _=>rfl)) (ai rfl ?_))
  (intro k hk;have hk:k<3:=hk;match k,hk with | 0,_=>rfl | 1,_=>rfl | 2,_=>rfl)
 ·trivial
 refine ai (ai (fun _=>trivial) ?_) trivial
 exact rfl
def arF:Spec:=fnG (fun c:bD=>[kF c]) (fun _=>True) (fun _=>bP true)
set_option maxHeartbeats 4000000 in
theorem ami:aL Tryz.prog 25 (cu (fun c:bD=>[kF c]) jP jL):=by
 refine bg (Tb:=tab) mixed ay Tryz.func25 rfl rfl ?_
 rintro (c:bD) hpre
 refine ai (ai rfl (ai rfl rfl)) ?_
 have ho:jP c:=hpre
 refine ei _ (ai (wC) (ei (c) (ei [] (ai (a4 (ai (fun _=>Or.inl rfl) (ai nof (Or.inl rfl)))) (ai (by exact (ai rfl (ai (ai rfl (fun _ _=>rfl)) (ai (ai rfl (fun _ _=>rfl)) (ai rfl (fun _ _=>rfl)))))) (ai trivial (ai (ho) ?_)))))))
 refine bH (p:=bJ c=0) (bU (by omega)) (fun h1=>?_) (fun h1=>?_)
 ·refine ai (ai (fun _=>(by exact (ai trivial trivial))) ?_) trivial
  show au _ (jL c)
  rw[jL,if_neg h1]
  exact (ai rfl rfl)
 have hc:bJ c=0:=h1
 obtain ⟨_,_,hs24,ht32,_⟩:=jN hc
 refine ei (bG.inv { X:=Nat,up:=fun k=>[(6,.s (iA k)),(5,.s (sA (aQ c.sts k)))],uo:=fun k=>[],inv:=fun k=>k≤c.sts.length∧(True),meas:=fun k=>c.sts.length-k,x0:=0 }) ?_
 refine ai (ai (ai (by exact (a4 (ai rfl rfl))) (ai ?_ ?_)) rfl) (ai (ai (ac7 _) ?_) ?_)
 ·exact (ai (ai (ai (fun _=>rfl) (iE (by simp only[zz,reduceCtorEq];rfl))) rfl) (ai (ai (fun _=>rfl) rfl) rfl))
 ·exact trivial
 ·trivial
 intro (k:Nat) ⟨hk,_⟩
 have hL:=xO hc hk
 refine ah (p:=k<c.sts.length) (ak (by omega)) (fun h2=>?_) (fun h2=>?_)
 ·refine ei _ (ai (yt) (ei (k) (ei [] (ai (a4 (ai (fun _=>Or.inl rfl) (ai nof (Or.inl rfl)))) (ai (by exact rfl) (ai trivial (ai ((by show k<1000000000000;omega)) ?_)))))))
  have hd:=nU (n:=k) (by omega)
  have hh:=sV (k:=k) (by omega)
  obtain ⟨g1,g2,g3,g4⟩:=wI hc h2
  refine ai (fE (l:=stepW) (m:=dec k) rfl rfl (by show 5+_≤_;omega)) (ai (fE (l:=stepW++dec k) (m:=[58]) (aC _ _) rfl (by rw[aaH];show 5+_+1≤_;omega)) (ai (fE (l:=aQ c.sts k) (m:=bW k) rfl (by show (strOf stepW++strOf (dec k))++strOf [58]=_;rw[aC,aC];rfl) (by omega)) ?_))
  refine ai (ai (abr _) (iN (n:=c.sts.length) (by omega))) (ai rfl ?_)
  refine ei (bG.inv { X:=Nat,up:=fun j=>[(37,.s (iA j)),(5,.s (sA ((aQ c.sts k++bW k)++dh ((c.sts.getD k st0).st.take j))))],uo:=fun j=>[],inv:=fun j=>j≤(c.sts.getD k st0).st.length∧(True),meas:=fun j=>(c.sts.getD k st0).st.length-j,x0:=0 }) ?_
  refine ai (ai (ai (by exact (a4 (ai rfl rfl))) (ai ?_ ?_)) rfl) (ai (ai (ac7 _) ?_) ?_)
  ·refine (ai (ai (ai (fun _=>rfl) (iE (by simp only[zz,reduceCtorEq];rfl))) rfl) (ai (ai (fun _=>rfl) ?_) rfl))
   show strOf (aQ c.sts k)++((strOf stepW++strOf (dec k))++strOf [58])=strOf ((aQ c.sts k++bW k)++[])
   rw[aC,aC,aC,anp];rfl
  ·exact trivial
  ·trivial
  intro (j:Nat) ⟨hj,_⟩
  have hT:=tK ((c.sts.getD k st0).st.take j)
  rw[ala] at hT
  refine ah (p:=j<(c.sts.getD k st0).st.length) (by simp only[zz,reduceCtorEq];omega) (fun h3=>?_) (fun h3=>?_)
  ·refine ai (ai (abr _) (iN (n:=(c.sts.getD k st0).st.length) (by omega))) (ai rfl ?_)
   have hw:(iI ((c.sts.getD k st0).st.getD j bO)).length=2:=rfl
   refine ei _ (ai (ahm) (ei ((c.sts.getD k st0).st.getD j bO) (ei [] (ai (a4 (ai (fun _=>Or.inl rfl) (ai nof (Or.inl rfl)))) (ai (by exact (ai (iE (by simp only[zz,reduceCtorEq])) rfl)) (ai trivial (ai (pX g2 h3) ?_)))))))
   refine ai (fE (l:=[32]) (m:=iI ((c.sts.getD k st0).st.getD j bO)) rfl rfl (by rw[hw];decide)) (ai (fE (l:=(aQ c.sts k++bW k)++dh ((c.sts.getD k st0).st.take j)) (m:=[32]++iI ((c.sts.getD k st0).st.getD j bO)) rfl (aC _ _) (by simp only[aaH,aio,akY];omega)) ?_)
   refine ei (j+1) (ai (ai rfl rfl) (ai (ai (ai rfl (ai (ai rfl rfl) (ai (ai rfl rfl) (ai (ai (ai (ai (fun _=>rfl) (aM (by omega))) rfl) (ai (ai (fun _=>rfl) ?_) rfl)) trivial)))) rfl) (ai (ai (iL (by omega)) trivial) (iM (by omega)))))
   show strOf ((aQ c.sts k++bW k)++dh ((c.sts.getD k st0).st.take j))++(strOf [32]++strOf (iI ((c.sts.getD k st0).st.getD j bO)))=strOf ((aQ c.sts k++bW k)++dh ((c.sts.getD k st0).st.take (j+1)))
   rw[aC,aC,aX bO h3]
   unfold dh
   rw[asj]
   simp
  obtain rfl:j=(c.sts.getD k st0).st.length:=by omega
  rw[show (c.sts.getD k st0).st.take (c.sts.getD k st0).st.length=(c.sts.getD k st0).st from aiy] at hT
  have et:(c.sts.getD k st0).st.take (c.sts.getD k st0).st.length=(c.sts.getD k st0).st:=aiy
  refine ai (ai (abr _) (iN (n:=c.sts.length) (by omega))) (ai rfl ?_)
  refine ah (p:=0<(c.sts.getD k st0).wt) (ak Iff.rfl) (fun h4=>?_) (fun h4=>?_)
  ·refine ai (ai (abr _) (iN (n:=c.sts.length) (by omega))) (ai rfl ?_)
   obtain ⟨w,hw⟩:∃w:Nat,(c.sts.getD k st0).wt=(w:Int):=⟨(c.sts.getD k st0).wt.toNat,by omega⟩
   have hd7:=qN (n:=w) (by omega)
   refine ei _ (ai (yt) (ei (w) (ei [] (ai (a4 (ai (fun _=>Or.inl rfl) (ai nof (Or.inl rfl)))) (ai ?_ (ai (by exact trivial) (ai ((by show w<1000000000000;omega)) ?_)))))))
   ·exact (iE (by simp only[zz,reduceCtorEq];omega))
   have e0:ku (c.sts.getD k st0).wt=[32]++dec w:=by unfold ku;rw[if_pos h4,hw];rfl
   refine ai (fE (l:=[32]) (m:=dec w) rfl rfl (by show 1+_≤_;omega)) (ai (fE (l:=(aQ c.sts k++bW k)++dh ((c.sts.getD k st0).st.take (c.sts.getD k st0).st.length)) (m:=[32]++dec w) rfl (aC _ _) (by rw[et];simp only[aaH,aio,akY];omega)) (ai (fE (l:=((aQ c.sts k++bW k)++dh ((c.sts.getD k st0).st.take (c.sts.getD k st0).st.length))++([32]++dec w)) (m:=[10]) (arx _ _ _) rfl (by rw[et];simp only[aaH,aio,akY];omega)) ?_))
   refine ei (k+1) (ai (ai rfl rfl) (ai (ai (ai rfl (ai (ai rfl rfl) (ai (ai rfl rfl) (ai (ai (ai (ai (fun _=>rfl) (aM (by omega))) rfl) (ai (ai (fun _=>rfl) ?_) rfl)) trivial)))) rfl) (ai (ai (iL (by omega)) trivial) (iM (by omega)))))
   show (strOf ((aQ c.sts k++bW k)++dh ((c.sts.getD k st0).st.take (c.sts.getD k st0).st.length))++(strOf [32]++strOf (dec w)))++strOf [10]=strOf (aQ c.sts (k+1))
   rw[aC,aC,aC,et,aQ,lnK,e0]
   simp only[anr]
  ·have e0:ku (c.sts.getD k st0).wt=[]:=by unfold ku;rw[if_neg h4]
   refine ai (fE (l:=(aQ c.sts k++bW k)++dh ((c.sts.getD k st0).st.take (c.sts.getD k st0).st.length)) (m:=[10]) rfl rfl (by rw[et];simp only[aaH,aio,akY];omega)) ?_
   refine ei (k+1) (ai (ai rfl rfl) (ai (ai (ai rfl (ai (ai rfl rfl) (ai (ai rfl rfl) (ai (ai (ai (ai (fun _=>rfl) (aM (by omega))) rfl) (ai (ai (fun _=>rfl) ?_) rfl)) trivial)))) rfl) (ai (ai (iL (by omega)) trivial) (iM (by omega)))))
   show strOf ((aQ c.sts k++bW k)++dh ((c.sts.getD k st0).st.take (c.sts.getD k st0).st.length))++strOf [10]=strOf (aQ c.sts (k+1))
   rw[aC,et,aQ,lnK,e0,anp]
   simp only[anr]
 obtain rfl:k=c.sts.length:=by omega
 refine ei (bG.inv { X:=Nat,up:=fun i=>[(9,.s (iA i)),(5,.s (sA (aQ c.sts c.sts.length++iw (bQ c) c.trs i)))],uo:=fun i=>[],inv:=fun i=>i≤c.trs.length∧(True),meas:=fun i=>c.trs.length-i,x0:=0 }) ?_
 refine ai (ai (ai (by exact (a4 (ai rfl rfl))) (ai ?_ ?_)) rfl) (ai (ai (ac7 _) ?_) ?_)
 ·refine (ai (ai (ai (fun _=>rfl) (iE (by simp only[zz,reduceCtorEq];rfl))) rfl) (ai (ai nof ?_) rfl))
  show strOf (aQ c.sts c.sts.length)=strOf (aQ c.sts c.sts.length++[])
  rw[anp]
 ·exact trivial
 ·trivial
 intro (i:Nat) ⟨hi,_⟩
 have hM:=yu hc hi
 refine ah (p:=i<c.trs.length) (ak (by omega)) (fun h5=>?_) (fun h5=>?_)
 ·refine ai (ai (abr _) (iN (n:=c.trs.length) (by omega))) (ai rfl ?_)
  obtain ⟨⟨q1,q2⟩,q3,q4,q5⟩:=wH hc h5
  obtain ⟨⟨p1,p2⟩,p3,p4⟩:=aaX hc h5
  have x1:=ng (kV hc h5).1.1 (by decide)
  have x2:=ng (kV hc h5).2.1.1 (by decide)
  have y1:(c.trs.getD i aG).fr≠[]:=fun e=>by
   have:=(jN hc).2.2.2.2.2 i h5
   unfold jd iB at this
   rw[e] at this;simp at this
  have e1:=aaP y1
  have e2:=aaP q3
  refine ei _ (ai (abB) (ei ((c.trs.getD i aG).to) (ei [] (ai (a4 (ai (fun _=>Or.inl rfl) (ai nof (Or.inl rfl)))) (ai (by exact (ai rfl (fun _ _=>rfl))) (ai trivial (ai (⟨x2,by show (c.trs.getD i aG).to.length≤1000;omega⟩) ?_)))))))
  refine ei (.seq [0,1,2,5,6,7,8,9,12,13,14,3,4,10,11,15,16,17,18,19,20]) (ai (by kernel_rfl) ?_)
  have hz:(strOf (iy (c.trs.getD i aG).to)).size=(inT (c.trs.getD i aG).to).length+1:=by rw[aV,e2,aaH];rfl
  have hsub:IntKind.i64.wrap (((strOf (iy (c.trs.getD i aG).to)).size:Int)-1)=((inT (c.trs.getD i aG).to).length:Int):=by rw[hz];exact (wrI (by omega) (by omega)).trans (by omega)
  have hext:(strOf (iy (c.trs.getD i aG).to)).extract (0:Int).toNat (IntKind.i64.wrap (((strOf (iy (c.trs.getD i aG).to)).size:Int)-1)).toNat=strOf (inT (c.trs.getD i aG).to):=by
   rw[hsub,aq7]
   have:=aa2 (iy (c.trs.getD i aG).to) 0 (inT (c.trs.getD i aG).to).length
   rw[e2] at this ⊢
   rw[List.take_left,List.drop_zero] at this
   exact this
  refine ai (ai (by decide) (ai (by rw[hsub];omega) (by rw[hsub,hz];omega))) ?_
  refine ei _ (ai (abB) (ei ((c.trs.getD i aG).fr) (ei [] (ai (a4 (ai (fun _=>Or.inl rfl) (ai nof (Or.inl rfl)))) (ai (by exact (ai rfl (fun _ _=>rfl))) (ai trivial (ai (⟨x1,by show ((c.trs.getD i aG).fr).length≤1000;omega⟩) ?_)))))))
  have hl1:(iy (c.trs.getD i aG).fr).length=(inT (c.trs.getD i aG).fr).length+1:=by rw[e1,aaH];rfl
  refine ai (fE (l:=iy (c.trs.getD i aG).fr) (m:=[62,32]) rfl rfl (by rw[hl1];show _+2≤_;omega)) ?_
  refine ai (fE (l:=iy (c.trs.getD i aG).fr++[62,32]) (m:=inT (c.trs.getD i aG).to) (aC _ _) hext (by simp only[aaH,aio,akY];omega)) ?_
  have hX2:(strOf (iy (c.trs.getD i aG).fr)++strOf [62,32])++(strOf (iy (c.trs.getD i aG).to)).extract (0:Int).toNat (IntKind.i64.wrap (((strOf (iy (c.trs.getD i aG).to)).size:Int)-1)).toNat=strOf ((iy (c.trs.getD i aG).fr++[62,32])++inT (c.trs.getD i aG).to):=by rw[hext,aC,aC]
  have hX3:((strOf (iy (c.trs.getD i aG).fr)++strOf [62,32])++(strOf (iy (c.trs.getD i aG).to)).extract (0:Int).toNat (IntKind.i64.wrap (((strOf (iy (c.trs.getD i aG).to)).size:Int)-1)).toNat)++strOf [58,32]=strOf (((iy (c.trs.getD i aG).fr++[62,32])++inT (c.trs.getD i aG).to)++[58,32]):=by rw[hX2,aC]
  have hX4:(((strOf (iy (c.trs.getD i aG).fr)++strOf [62,32])++(strOf (iy (c.trs.getD i aG).to)).extract (0:Int).toNat (IntKind.i64.wrap (((strOf (iy (c.trs.getD i aG).to)).size:Int)-1)).toNat)++strOf [58,32])++strOf (bB (bQ c) (c.trs.getD i aG).wh)=strOf ((((iy (c.trs.getD i aG).fr++[62,32])++inT (c.trs.getD i aG).to)++[58,32])++bB (bQ c) (c.trs.getD i aG).wh):=by rw[hX3,aC]
  have hX5:((((strOf (iy (c.trs.getD i aG).fr)++strOf [62,32])++(strOf (iy (c.trs.getD i aG).to)).extract (0:Int).toNat (IntKind.i64.wrap (((strOf (iy (c.trs.getD i aG).to)).size:Int)-1)).toNat)++strOf [58,32])++strOf (bB (bQ c) (c.trs.getD i aG).wh))++strOf [10]=strOf (vF (bQ c) (c.trs.getD i aG)):=by
   rw[hX4,aC]
   unfold vF
   rw[e1]
   simp only[anr,asX,List.nil_append]
  refine ai (fE (l:=(iy (c.trs.getD i aG).fr++[62,32])++inT (c.trs.getD i aG).to) (m:=[58,32]) hX2 rfl (by simp only[aaH,aio,akY];omega)) ?_
  refine ei _ (ai (aiu) (ei (c) (ei [] (ai (a4 (ai (fun _=>Or.inl rfl) (ai nof (Or.inl rfl)))) (ai (by exact (ai rfl (ai (ai rfl (fun _ _=>rfl)) (ai (ai rfl (fun _ _=>rfl)) (ai rfl (fun _ _=>rfl)))))) (ai trivial (ai (tL hc) ?_)))))))
  refine ei _ (ai (aov) (ei (((c.trs.getD i aG).wh,bQ c)) (ei [] (ai (a4 (ai (fun _=>Or.inl rfl) (ai nof (Or.inl rfl)))) (ai (by exact (ai (ai (iE (by simp only[zz,reduceCtorEq])) (ai (iE (by simp only[zz,reduceCtorEq])) (ai rfl (fun _ _=>rfl)))) (ai rfl (fun _ _=>rfl)))) (ai trivial (ai (⟨q5,q4,afk hc,by have:=(kX hc).2.2.2;show (bQ c).length≤256;omega⟩) ?_)))))))
  refine ai (fE (l:=((iy (c.trs.getD i aG).fr++[62,32])++inT (c.trs.getD i aG).to)++[58,32]) (m:=bB (bQ c) (c.trs.getD i aG).wh) hX3 rfl (by simp only[aaH,aio,akY];omega)) ?_
  refine ai (fE (l:=(((iy (c.trs.getD i aG).fr++[62,32])++inT (c.trs.getD i aG).to)++[58,32])++bB (bQ c) (c.trs.getD i aG).wh) (m:=[10]) hX4 rfl (by simp only[aaH,aio,akY];omega)) ?_
  refine ai (fE (l:=aQ c.sts c.sts.length++iw (bQ c) c.trs i) (m:=vF (bQ c) (c.trs.getD i aG)) rfl hX5 (by simp only[aaH];omega)) ?_
  refine ei (i+1) (ai (ai rfl rfl) (ai (ai (ai rfl (ai (ai rfl rfl) (ai (ai rfl rfl) (ai (ai (ai (ai (fun _=>rfl) (aM (by omega))) rfl) (ai (ai (fun _=>rfl) ?_) rfl)) trivial)))) rfl) (ai (ai (iL (by omega)) trivial) (iM (by omega)))))
  refine Eq.trans (congrArg (fun z=>strOf (aQ c.sts c.sts.length++iw (bQ c) c.trs i)++z) hX5) ?_
  show strOf _++strOf _=strOf (aQ c.sts c.sts.length++iw (bQ c) c.trs (i+1))
  rw[aC,iw,anr]
 ·obtain rfl:i=c.trs.length:=by omega
  refine ai (ai (fun _=>(by exact (ai trivial trivial))) ?_) trivial
  show au _ (jL c)
  rw[jL,if_pos hc,hc]
  exact (ai rfl rfl)
def aqT (a:NM×Ex×Int):Prop:=ac5 ⟨false,a.1,[],a.2.1,a.2.2⟩
theorem akN:bV Tryz.prog 141 { A:=NM×Ex×Int,fix:=1,args:=fun a=>[.own 0 0,qx a.2.1,iA a.2.2],objs:=fun a=>[.cells 202 (qd :: xA :: zi a.1)],pre:=aqT,res:=fun _=>.tup [],objs':=fun a=>[bld 202 (zi a.1),nZ ([]++bZ a.1 a.2.1 a.2.2)] }:=
 aat (T:=202) (rest:=fun a:NM×Ex×Int=>zi a.1) ⟨agc.1,fun a hp=>agc.2 ⟨false,a.1,[],a.2.1,a.2.2⟩ hp⟩
def akg (a:Ex×NM):Prop:=jH a.2=0∧dL a.1 a.2.length=0∧(∀k,(a.2.getD k []).length≤100)∧(∀s∈a.2,s≠[])∧a.1.size≤256∧(bB a.2 a.1).length≤4096
theorem akf:aL Tryz.prog 82 (cu (fun a:Ex×NM=>[qx a.1,nH a.2]) akg (fun a=>.tup [sP (bB a.2 a.1),iP 0])):=by
 refine jQ [141,142,84] ?_
 refine bg (Tb:=tab) mixed ay Tryz.func82 rfl rfl ?_
 rintro ⟨x,nm⟩ hpre
 refine ai (ai rfl (ai rfl rfl)) ?_
 obtain ⟨h1,h2,h3,h4,h5,h6⟩:=hpre
 have h1:jH nm=0:=h1
 have h2:dL x nm.length=0:=h2
 have h3:∀k,(nm.getD k []).length≤100:=h3
 have h4:∀s∈nm,s≠[]:=h4
 have h5:x.size≤256:=h5
 have h6:(bB nm x).length≤4096:=h6
 obtain ⟨hn,_,hg⟩:=vS.1 h2
 have hnl:∀s∈nm,s.length≤1000000:=fun s hs=>by
  obtain ⟨k,hk,rfl⟩:=aqc hs
  have:=h3 k
  rw[abo,abm hk] at this
  have this:(nm[k]).length≤100:=this
  omega
 refine ei _ (ai (agy) (ei (nm) (ei [] (ai (a4 (ai (fun _=>Or.inl rfl) (ai nof (Or.inl rfl)))) (ai (by exact (ai rfl (fun _ _=>rfl))) (ai trivial (ai (hnl) ?_)))))))
 refine bH (p:=jH nm=0) (bU (by omega)) (fun g1=>?_) (fun g1=>?_)
 ·exact absurd h1 g1
 refine ei _ (ai (ab3) (ei ((x,(nm.length:Int))) (ei [] (ai (a4 (ai (fun _=>Or.inl rfl) (ai nof (Or.inl rfl)))) (ai (by exact (ai (ai rfl (ai rfl (ai rfl (fun _ _=>rfl)))) rfl)) (ai trivial (ai ((by show x.size≤1000000;omega)) ?_)))))))
 refine bH (p:=dL x nm.length=0) (bU (by dsimp only;omega)) (fun g2=>?_) (fun g2=>?_)
 ·exact absurd h2 g2
 refine aS (akN) ((nm,x,-1)) [1] (a4 (ai rfl rfl)) (Or.inl rfl) (by exact (ai (ai rfl rfl) (ai (ai rfl (ai rfl (ai rfl (fun _ _=>rfl)))) rfl))) (by exact (ai rfl (ai rfl (ai rfl (ai rfl (fun _ _=>rfl)))))) (⟨hg,h5,h3,by show nm.length≤256;omega,by show 0+110*x.size≤500000;omega⟩) ?_
 have eW:([]:List UInt8)++bZ nm x (-1)=bB nm x:=by rw[ah4 (by decide)];rfl
 refine aS (aiR) ((nm,[]++bZ nm x (-1))) [1,2] (a4 (ai rfl rfl)) (Or.inl rfl) (by exact (ai rfl rfl)) (by exact (ai (ai rfl (ai (ai rfl rfl) (ai rfl (ai rfl (fun _ _=>rfl))))) (ai rfl (ai rfl (ai rfl (fun _ _=>rfl)))))) (trivial) ?_
 refine ah (p:=4096<(([]:List UInt8)++bZ nm x (-1)).length) (ak (by dsimp only;omega)) (fun g3=>?_) (fun g3=>?_)
 ·rw[eW] at g3;exact absurd h6 (by omega)
 refine aci (aaN 202 3) rfl rfl rfl rfl ([]++bZ nm x (-1)) rfl (by rw[eW];exact afA hg h4) (fun k _=>rfl) ?_
 refine ai (ai (fun _=>(by exact (ai trivial trivial))) ?_) trivial
 show au _ (PV.tup [sP (bB nm x),iP 0])
 rw[show bB nm x=[]++bZ nm x (-1) from eW.symm]
 exact (ai rfl rfl)
def ap2 (c:bD):Prop:=jP c∧(bJ c=0→∀t∈c.trs,t.wh.size≤120)
theorem aoC {c:bD} (h:bJ c=0) (h2:∀t∈c.trs,t.wh.size≤120) {k:Nat} (hk:k<c.trs.length):akg ((c.trs.getD k aG).wh,bQ c):=by
 have hn:=(kX h).2.2.1
 have hs:=h2 _ (abv (bY aG hk))
 refine ⟨adu h,?_,afk h,fun s hm e=>?_,by show (c.trs.getD k aG).wh.size≤256;omega,?_⟩
 ·show dL (c.trs.getD k aG).wh ((bQ c).length:Int)=0
  rw[hn];exact (kV h hk).2.2
 ·have:=((kX h).1 s hm).2
  rw[e] at this;exact absurd this (by decide)
 ·have:=xL (abM h) _ _ (aic (c.trs.getD k aG).wh.size)
  show (bB (bQ c) (c.trs.getD k aG).wh).length≤4096
  omega
set_option maxHeartbeats 4000000 in
theorem akP:aL Tryz.prog 24 (fnG (fun c:bD=>[kF c]) ap2 jL):=by
 refine jQ [78,81,84] ?_
 refine bg (Tb:=tab) mixed ay Tryz.func24 rfl rfl ?_
 rintro (c:bD) hpre
 refine ai (ai rfl (ai rfl rfl)) ?_
 obtain ⟨ho,h40⟩:=hpre
 have ho:jP c:=ho
 refine ei _ (ai (aav) (ei (c) (ei [] (ai (a4 (ai (fun _=>Or.inl rfl) (ai nof (Or.inl rfl)))) (ai (by exact (ai rfl (ai (ai rfl (fun _ _=>rfl)) (ai (ai rfl (fun _ _=>rfl)) (ai rfl (fun _ _=>rfl)))))) (ai trivial (ai (ho) ?_)))))))
 refine bH (p:=bJ c=0) (bU (by omega)) (fun h1=>?_) (fun h1=>?_)
 ·refine ai (ai (fun _=>(by exact (ai trivial trivial))) ?_) trivial
  show au _ (jL c)
  rw[jL,if_neg h1]
  exact (ai rfl rfl)
 have hc:bJ c=0:=h1
 have h40:∀t∈c.trs,t.wh.size≤120:=h40 hc
 obtain ⟨_,_,hs24,ht32,_⟩:=jN hc
 refine ei (bG.inv { X:=Nat,up:=fun k=>[(24,.s (iA k))],uo:=fun k=>[⟨1,143,[.s (apH k),.rw 5 1 (aQ c.sts k).length (vT (aQ c.sts k))]⟩],inv:=fun k=>k≤c.sts.length∧(True),meas:=fun k=>c.sts.length-k,x0:=0 }) ?_
 refine ai (ai (ai (by exact (a4 (ai rfl rfl))) (ai ?_ ?_)) rfl) (ai (ai (ac7 _) ?_) ?_)
 ·exact (ai (ai (fun _=>rfl) (iE (by simp only[zz,reduceCtorEq];rfl))) rfl)
 ·exact (ai (ai (ai (ai (fun _=>rfl) rfl) rfl) rfl) trivial)
 ·trivial
 intro (k:Nat) ⟨hk,_⟩
 have hL:=xO hc hk
 cases k with
 | zero=>
  refine ah (p:=(0:Nat)<c.sts.length) (ak (by omega)) (fun h2=>?_) (fun h2=>?_)
  ·refine ai (ai (abr _) (iN (n:=c.sts.length) (by omega))) (ai rfl ?_)
   have hd:=nU (n:=(0:Nat)) (by omega)
   have hh:=sV (k:=(0:Nat)) (by omega)
   obtain ⟨g1,g2,g3,g4⟩:=wI hc h2
   refine ei _ (ai (qz) (ei ((0:Nat)) (ei [] (ai (a4 (ai (fun _=>Or.inl rfl) (ai nof (Or.inl rfl)))) (ai (by exact rfl) (ai trivial (ai ((by show (0:Nat)<100;omega)) ?_)))))))
   refine ai (fE (l:=stepW) (m:=dec ((0:Nat))) rfl rfl (by show 5+_≤_;omega)) (ai (fE (l:=stepW++dec ((0:Nat))) (m:=[58]) (aC _ _) rfl (by rw[aaH];show 5+_+1≤_;omega)) ?_)
   refine aS (lG) ((false,[],aQ c.sts ((0:Nat)),bW ((0:Nat)))) [1,2] (a4 (ai rfl rfl)) (Or.inl rfl) ?_ (by exact (ai (ai rfl (ai rfl rfl)) (ai rfl (ai rfl (ai rfl (fun _ _=>rfl)))))) (⟨by show (aQ c.sts ((0:Nat))).length≤1000000;omega,by show (bW ((0:Nat))).length≤1000000;omega⟩) ?_
   ·exact (ai (ai rfl rfl) rfl)
   refine ei (bG.inv { X:=Nat,up:=fun j=>[(37,.s (iA j))],uo:=fun j=>[⟨1,143,[.s (.own 1 0),.rw 5 1 ((aQ c.sts ((0:Nat))++bW ((0:Nat)))++dh ((c.sts.getD ((0:Nat)) st0).st.take j)).length (vT ((aQ c.sts ((0:Nat))++bW ((0:Nat)))++dh ((c.sts.getD ((0:Nat)) st0).st.take j)))]⟩],inv:=fun j=>j≤(c.sts.getD ((0:Nat)) st0).st.length∧(True),meas:=fun j=>(c.sts.getD ((0:Nat)) st0).st.length-j,x0:=0 }) ?_
   refine ai (ai (ai (by exact (a4 (ai rfl rfl))) (ai ?_ ?_)) rfl) (ai (ai (ac7 _) ?_) ?_)
   ·exact (ai (ai (fun _=>rfl) (iE (by simp only[zz,reduceCtorEq];rfl))) rfl)
   ·refine (ai (ai (ai (ai rfl rfl) rfl) (ai rfl (ai rfl (ai ?_ ?_)))) trivial)
    ·show (aQ c.sts ((0:Nat))++bW ((0:Nat))).length=((aQ c.sts ((0:Nat))++bW ((0:Nat)))++[]).length
     rw[anp]
    ·exact gH (by show _=_++[];rw[anp])
   ·trivial
   intro (j:Nat) ⟨hj,_⟩
   have hT:=tK ((c.sts.getD ((0:Nat)) st0).st.take j)
   rw[ala] at hT
   refine ah (p:=j<(c.sts.getD ((0:Nat)) st0).st.length) (by simp only[zz,reduceCtorEq];omega) (fun h3=>?_) (fun h3=>?_)
   ·refine ai (ai (abr _) (iN (n:=(c.sts.getD ((0:Nat)) st0).st.length) (by omega))) (ai rfl ?_)
    have hw:(iI ((c.sts.getD ((0:Nat)) st0).st.getD j bO)).length=2:=rfl
    refine ei _ (ai (yh) (ei ((c.sts.getD ((0:Nat)) st0).st.getD j bO) (ei [] (ai (a4 (ai (fun _=>Or.inl rfl) (ai nof (Or.inl rfl)))) (ai (by exact (ai (iE (by simp only[zz,reduceCtorEq])) rfl)) (ai trivial (ai (pX g2 h3) ?_)))))))
    refine ai (fE (l:=[32]) (m:=iI ((c.sts.getD ((0:Nat)) st0).st.getD j bO)) rfl rfl (by rw[hw];decide)) ?_
    refine aS (lG) ((true,[],(aQ c.sts ((0:Nat))++bW ((0:Nat)))++dh ((c.sts.getD ((0:Nat)) st0).st.take j),[32]++iI ((c.sts.getD ((0:Nat)) st0).st.getD j bO))) [1,5] (a4 (ai rfl rfl)) (Or.inl rfl) ?_ (by exact (ai (ai rfl (ai (ai rfl rfl) rfl)) (ai rfl (ai rfl (ai rfl (fun _ _=>rfl)))))) (⟨by show ((aQ c.sts ((0:Nat))++bW ((0:Nat)))++dh ((c.sts.getD ((0:Nat)) st0).st.take j)).length≤1000000;simp only[aaH,aio,akY];omega,by show ([32]++iI ((c.sts.getD ((0:Nat)) st0).st.getD j bO)).length≤1000000;rw[aaH,hw];decide⟩) ?_
    ·exact (ai (ai rfl rfl) rfl)
    have eN:((aQ c.sts ((0:Nat))++bW ((0:Nat)))++dh ((c.sts.getD ((0:Nat)) st0).st.take j))++([32]++iI ((c.sts.getD ((0:Nat)) st0).st.getD j bO))=(aQ c.sts ((0:Nat))++bW ((0:Nat)))++dh ((c.sts.getD ((0:Nat)) st0).st.take (j+1)):=by
     rw[aX bO h3]
     unfold dh
     rw[asj]
     simp
    refine ei (j+1) (ai (ai rfl rfl) (ai (ai (ai rfl (ai (ai rfl rfl) (ai (ai rfl rfl) (ai (ai (ai (fun _=>rfl) (aM (by omega))) rfl) (ai (ai (ai (ai rfl rfl) rfl) (ai rfl (ai rfl (ai ?_ ?_)))) trivial))))) rfl) (ai (ai (iL (by omega)) trivial) (iM (by omega)))))
    ·exact congrArg List.length eN
    ·exact gH eN
   obtain rfl:j=(c.sts.getD ((0:Nat)) st0).st.length:=by omega
   have et:(c.sts.getD ((0:Nat)) st0).st.take (c.sts.getD ((0:Nat)) st0).st.length=(c.sts.getD ((0:Nat)) st0).st:=aiy
   rw[et] at hT
   refine ah (p:=0<(c.sts.getD ((0:Nat)) st0).wt) (ak Iff.rfl) (fun h4=>?_) (fun h4=>?_)
   ·obtain ⟨w,hw⟩:∃w:Nat,(c.sts.getD ((0:Nat)) st0).wt=(w:Int):=⟨(c.sts.getD ((0:Nat)) st0).wt.toNat,by omega⟩
    have hd7:=qN (n:=w) (by omega)
    have e0:ku (c.sts.getD ((0:Nat)) st0).wt=[32]++dec w:=by unfold ku;rw[if_pos h4,hw];rfl
    refine ei _ (ai (xJ) (ei (w) (ei [] (ai (a4 (ai (fun _=>Or.inl rfl) (ai nof (Or.inr rfl)))) (ai ?_ (ai (by exact trivial) (ai ((by show w≤1000000;omega)) ?_)))))))
    ·exact (iE (by simp only[zz,reduceCtorEq];omega))
    refine ai (fE (l:=[32]) (m:=dec w) rfl rfl (by show 1+_≤_;omega)) ?_
    refine aS (lG) ((true,[],(aQ c.sts ((0:Nat))++bW ((0:Nat)))++dh ((c.sts.getD ((0:Nat)) st0).st.take (c.sts.getD ((0:Nat)) st0).st.length),[32]++dec w)) [1,5] (a4 (ai rfl rfl)) (Or.inl rfl) ?_ (by exact (ai (ai rfl (ai (ai rfl rfl) rfl)) (ai rfl (ai rfl (ai rfl (fun _ _=>rfl)))))) (⟨by show ((aQ c.sts ((0:Nat))++bW ((0:Nat)))++dh ((c.sts.getD ((0:Nat)) st0).st.take (c.sts.getD ((0:Nat)) st0).st.length)).length≤1000000;rw[et];simp only[aaH,aio,akY];omega,by show ([32]++dec w).length≤1000000;rw[aaH];show 1+_≤_;omega⟩) ?_
    ·exact (ai (ai rfl rfl) rfl)
    refine aS (rE) ((true,[],((aQ c.sts ((0:Nat))++bW ((0:Nat)))++dh ((c.sts.getD ((0:Nat)) st0).st.take (c.sts.getD ((0:Nat)) st0).st.length))++([32]++dec w),10)) [1,6] (a4 (ai rfl rfl)) (Or.inl rfl) (by exact (ai (ai rfl rfl) (iE (by simp only[zz,reduceCtorEq];rfl)))) (by exact (ai (ai rfl (ai (ai rfl rfl) rfl)) (ai rfl (ai rfl (ai rfl (fun _ _=>rfl)))))) ((by show (((aQ c.sts ((0:Nat))++bW ((0:Nat)))++dh ((c.sts.getD ((0:Nat)) st0).st.take (c.sts.getD ((0:Nat)) st0).st.length))++([32]++dec w)).length≤1000000;rw[et];simp only[aaH,aio,akY];omega)) ?_
    have eN:(((aQ c.sts ((0:Nat))++bW ((0:Nat)))++dh ((c.sts.getD ((0:Nat)) st0).st.take (c.sts.getD ((0:Nat)) st0).st.length))++([32]++dec w))++[10]=aQ c.sts ((0:Nat)+1):=by
     show _=aQ c.sts ((0:Nat))++((((bW ((0:Nat))++dh (c.sts.getD ((0:Nat)) st0).st)++ku (c.sts.getD ((0:Nat)) st0).wt))++[10])
     rw[et,e0]
     simp only[anr]
    refine ei (((0:Nat))+1) (ai (ai rfl rfl) (ai (ai (ai rfl (ai (ai rfl rfl) (ai (ai rfl rfl) (ai (ai (ai (fun _=>rfl) (aM (by omega))) rfl) (ai (ai (ai (ai rfl rfl) rfl) (ai rfl (ai rfl (ai ?_ ?_)))) trivial))))) rfl) (ai (ai (iL (by omega)) trivial) (iM (by omega)))))
    ·exact congrArg List.length eN
    ·exact gH eN
   ·have e0:ku (c.sts.getD ((0:Nat)) st0).wt=[]:=by unfold ku;rw[if_neg h4]
    refine aS (rE) ((true,[],(aQ c.sts ((0:Nat))++bW ((0:Nat)))++dh ((c.sts.getD ((0:Nat)) st0).st.take (c.sts.getD ((0:Nat)) st0).st.length),10)) [1,5] (a4 (ai rfl rfl)) (Or.inl rfl) (by exact (ai (ai rfl rfl) (iE (by simp only[zz,reduceCtorEq];rfl)))) (by exact (ai (ai rfl (ai (ai rfl rfl) rfl)) (ai rfl (ai rfl (ai rfl (fun _ _=>rfl)))))) ((by show ((aQ c.sts ((0:Nat))++bW ((0:Nat)))++dh ((c.sts.getD ((0:Nat)) st0).st.take (c.sts.getD ((0:Nat)) st0).st.length)).length≤1000000;rw[et];simp only[aaH,aio,akY];omega)) ?_
    have eN:((aQ c.sts ((0:Nat))++bW ((0:Nat)))++dh ((c.sts.getD ((0:Nat)) st0).st.take (c.sts.getD ((0:Nat)) st0).st.length))++[10]=aQ c.sts ((0:Nat)+1):=by
     show _=aQ c.sts ((0:Nat))++((((bW ((0:Nat))++dh (c.sts.getD ((0:Nat)) st0).st)++ku (c.sts.getD ((0:Nat)) st0).wt))++[10])
     rw[et,e0,anp]
     simp only[anr]
    refine ei (((0:Nat))+1) (ai (ai rfl rfl) (ai (ai (ai rfl (ai (ai rfl rfl) (ai (ai rfl rfl) (ai (ai (ai (fun _=>rfl) (aM (by omega))) rfl) (ai (ai (ai (ai rfl rfl) rfl) (ai rfl (ai rfl (ai ?_ ?_)))) trivial))))) rfl) (ai (ai (iL (by omega)) trivial) (iM (by omega)))))
    ·exact congrArg List.length eN
    ·exact gH eN
  ·exact absurd hs24.1 (by omega)
 | succ k=>
  refine ah (p:=k+1<c.sts.length) (ak (by omega)) (fun h2=>?_) (fun h2=>?_)
  ·refine ai (ai (abr _) (iN (n:=c.sts.length) (by omega))) (ai rfl ?_)
   have hd:=nU (n:=k+1) (by omega)
   have hh:=sV (k:=k+1) (by omega)
   obtain ⟨g1,g2,g3,g4⟩:=wI hc h2
   refine ei _ (ai (qz) (ei (k+1) (ei [] (ai (a4 (ai (fun _=>Or.inl rfl) (ai nof (Or.inl rfl)))) (ai (by exact rfl) (ai trivial (ai ((by show k+1<100;omega)) ?_)))))))
   refine ai (fE (l:=stepW) (m:=dec (k+1)) rfl rfl (by show 5+_≤_;omega)) (ai (fE (l:=stepW++dec (k+1)) (m:=[58]) (aC _ _) rfl (by rw[aaH];show 5+_+1≤_;omega)) ?_)
   refine aS (lG) ((true,[],aQ c.sts (k+1),bW (k+1))) [1,2] (a4 (ai rfl rfl)) (Or.inl rfl) ?_ (by exact (ai (ai rfl (ai (ai rfl rfl) rfl)) (ai rfl (ai rfl (ai rfl (fun _ _=>rfl)))))) (⟨by show (aQ c.sts (k+1)).length≤1000000;omega,by show (bW (k+1)).length≤1000000;omega⟩) ?_
   ·exact (ai (ai rfl rfl) rfl)
   refine ei (bG.inv { X:=Nat,up:=fun j=>[(37,.s (iA j))],uo:=fun j=>[⟨1,143,[.s (.own 1 0),.rw 5 1 ((aQ c.sts (k+1)++bW (k+1))++dh ((c.sts.getD (k+1) st0).st.take j)).length (vT ((aQ c.sts (k+1)++bW (k+1))++dh ((c.sts.getD (k+1) st0).st.take j)))]⟩],inv:=fun j=>j≤(c.sts.getD (k+1) st0).st.length∧(True),meas:=fun j=>(c.sts.getD (k+1) st0).st.length-j,x0:=0 }) ?_
   refine ai (ai (ai (by exact (a4 (ai rfl rfl))) (ai ?_ ?_)) rfl) (ai (ai (ac7 _) ?_) ?_)
   ·exact (ai (ai (fun _=>rfl) (iE (by simp only[zz,reduceCtorEq];rfl))) rfl)
   ·refine (ai (ai (ai (ai rfl rfl) rfl) (ai rfl (ai rfl (ai ?_ ?_)))) trivial)
    ·show (aQ c.sts (k+1)++bW (k+1)).length=((aQ c.sts (k+1)++bW (k+1))++[]).length
     rw[anp]
    ·exact gH (by show _=_++[];rw[anp])
   ·trivial
   intro (j:Nat) ⟨hj,_⟩
   have hT:=tK ((c.sts.getD (k+1) st0).st.take j)
   rw[ala] at hT
   refine ah (p:=j<(c.sts.getD (k+1) st0).st.length) (by simp only[zz,reduceCtorEq];omega) (fun h3=>?_) (fun h3=>?_)
   ·refine ai (ai (abr _) (iN (n:=(c.sts.getD (k+1) st0).st.length) (by omega))) (ai rfl ?_)
    have hw:(iI ((c.sts.getD (k+1) st0).st.getD j bO)).length=2:=rfl
    refine ei _ (ai (yh) (ei ((c.sts.getD (k+1) st0).st.getD j bO) (ei [] (ai (a4 (ai (fun _=>Or.inl rfl) (ai nof (Or.inl rfl)))) (ai (by exact (ai (iE (by simp only[zz,reduceCtorEq])) rfl)) (ai trivial (ai (pX g2 h3) ?_)))))))
    refine ai (fE (l:=[32]) (m:=iI ((c.sts.getD (k+1) st0).st.getD j bO)) rfl rfl (by rw[hw];decide)) ?_
    refine aS (lG) ((true,[],(aQ c.sts (k+1)++bW (k+1))++dh ((c.sts.getD (k+1) st0).st.take j),[32]++iI ((c.sts.getD (k+1) st0).st.getD j bO))) [1,5] (a4 (ai rfl rfl)) (Or.inl rfl) ?_ (by exact (ai (ai rfl (ai (ai rfl rfl) rfl)) (ai rfl (ai rfl (ai rfl (fun _ _=>rfl)))))) (⟨by show ((aQ c.sts (k+1)++bW (k+1))++dh ((c.sts.getD (k+1) st0).st.take j)).length≤1000000;simp only[aaH,aio,akY];omega,by show ([32]++iI ((c.sts.getD (k+1) st0).st.getD j bO)).length≤1000000;rw[aaH,hw];decide⟩) ?_
    ·exact (ai (ai rfl rfl) rfl)
    have eN:((aQ c.sts (k+1)++bW (k+1))++dh ((c.sts.getD (k+1) st0).st.take j))++([32]++iI ((c.sts.getD (k+1) st0).st.getD j bO))=(aQ c.sts (k+1)++bW (k+1))++dh ((c.sts.getD (k+1) st0).st.take (j+1)):=by
     rw[aX bO h3]
     unfold dh
     rw[asj]
     simp
    refine ei (j+1) (ai (ai rfl rfl) (ai (ai (ai rfl (ai (ai rfl rfl) (ai (ai rfl rfl) (ai (ai (ai (fun _=>rfl) (aM (by omega))) rfl) (ai (ai (ai (ai rfl rfl) rfl) (ai rfl (ai rfl (ai ?_ ?_)))) trivial))))) rfl) (ai (ai (iL (by omega)) trivial) (iM (by omega)))))
    ·exact congrArg List.length eN
    ·exact gH eN
   obtain rfl:j=(c.sts.getD (k+1) st0).st.length:=by omega
   have et:(c.sts.getD (k+1) st0).st.take (c.sts.getD (k+1) st0).st.length=(c.sts.getD (k+1) st0).st:=aiy
   rw[et] at hT
   refine ah (p:=0<(c.sts.getD (k+1) st0).wt) (ak Iff.rfl) (fun h4=>?_) (fun h4=>?_)
   ·obtain ⟨w,hw⟩:∃w:Nat,(c.sts.getD (k+1) st0).wt=(w:Int):=⟨(c.sts.getD (k+1) st0).wt.toNat,by omega⟩
    have hd7:=qN (n:=w) (by omega)
    have e0:ku (c.sts.getD (k+1) st0).wt=[32]++dec w:=by unfold ku;rw[if_pos h4,hw];rfl
    refine ei _ (ai (xJ) (ei (w) (ei [] (ai (a4 (ai (fun _=>Or.inl rfl) (ai nof (Or.inr rfl)))) (ai ?_ (ai (by exact trivial) (ai ((by show w≤1000000;omega)) ?_)))))))
    ·exact (iE (by simp only[zz,reduceCtorEq];omega))
    refine ai (fE (l:=[32]) (m:=dec w) rfl rfl (by show 1+_≤_;omega)) ?_
    refine aS (lG) ((true,[],(aQ c.sts (k+1)++bW (k+1))++dh ((c.sts.getD (k+1) st0).st.take (c.sts.getD (k+1) st0).st.length),[32]++dec w)) [1,5] (a4 (ai rfl rfl)) (Or.inl rfl) ?_ (by exact (ai (ai rfl (ai (ai rfl rfl) rfl)) (ai rfl (ai rfl (ai rfl (fun _ _=>rfl)))))) (⟨by show ((aQ c.sts (k+1)++bW (k+1))++dh ((c.sts.getD (k+1) st0).st.take (c.sts.getD (k+1) st0).st.length)).length≤1000000;rw[et];simp only[aaH,aio,akY];omega,by show ([32]++dec w).length≤1000000;rw[aaH];show 1+_≤_;omega⟩) ?_
    ·exact (ai (ai rfl rfl) rfl)
    refine aS (rE) ((true,[],((aQ c.sts (k+1)++bW (k+1))++dh ((c.sts.getD (k+1) st0).st.take (c.sts.getD (k+1) st0).st.length))++([32]++dec w),10)) [1,6] (a4 (ai rfl rfl)) (Or.inl rfl) (by exact (ai (ai rfl rfl) (iE (by simp only[zz,reduceCtorEq];rfl)))) (by exact (ai (ai rfl (ai (ai rfl rfl) rfl)) (ai rfl (ai rfl (ai rfl (fun _ _=>rfl)))))) ((by show (((aQ c.sts (k+1)++bW (k+1))++dh ((c.sts.getD (k+1) st0).st.take (c.sts.getD (k+1) st0).st.length))++([32]++dec w)).length≤1000000;rw[et];simp only[aaH,aio,akY];omega)) ?_
    have eN:(((aQ c.sts (k+1)++bW (k+1))++dh ((c.sts.getD (k+1) st0).st.take (c.sts.getD (k+1) st0).st.length))++([32]++dec w))++[10]=aQ c.sts (k+1+1):=by
     show _=aQ c.sts (k+1)++((((bW (k+1)++dh (c.sts.getD (k+1) st0).st)++ku (c.sts.getD (k+1) st0).wt))++[10])
     rw[et,e0]
     simp only[anr]
    refine ei ((k+1)+1) (ai (ai rfl rfl) (ai (ai (ai rfl (ai (ai rfl rfl) (ai (ai rfl rfl) (ai (ai (ai (fun _=>rfl) (aM (by omega))) rfl) (ai (ai (ai (ai rfl rfl) rfl) (ai rfl (ai rfl (ai ?_ ?_)))) trivial))))) rfl) (ai (ai (iL (by omega)) trivial) (iM (by omega)))))
    ·exact congrArg List.length eN
    ·exact gH eN
   ·have e0:ku (c.sts.getD (k+1) st0).wt=[]:=by unfold ku;rw[if_neg h4]
    refine aS (rE) ((true,[],(aQ c.sts (k+1)++bW (k+1))++dh ((c.sts.getD (k+1) st0).st.take (c.sts.getD (k+1) st0).st.length),10)) [1,5] (a4 (ai rfl rfl)) (Or.inl rfl) (by exact (ai (ai rfl rfl) (iE (by simp only[zz,reduceCtorEq];rfl)))) (by exact (ai (ai rfl (ai (ai rfl rfl) rfl)) (ai rfl (ai rfl (ai rfl (fun _ _=>rfl)))))) ((by show ((aQ c.sts (k+1)++bW (k+1))++dh ((c.sts.getD (k+1) st0).st.take (c.sts.getD (k+1) st0).st.length)).length≤1000000;rw[et];simp only[aaH,aio,akY];omega)) ?_
    have eN:((aQ c.sts (k+1)++bW (k+1))++dh ((c.sts.getD (k+1) st0).st.take (c.sts.getD (k+1) st0).st.length))++[10]=aQ c.sts (k+1+1):=by
     show _=aQ c.sts (k+1)++((((bW (k+1)++dh (c.sts.getD (k+1) st0).st)++ku (c.sts.getD (k+1) st0).wt))++[10])
     rw[et,e0,anp]
     simp only[anr]
    refine ei ((k+1)+1) (ai (ai rfl rfl) (ai (ai (ai rfl (ai (ai rfl rfl) (ai (ai rfl rfl) (ai (ai (ai (fun _=>rfl) (aM (by omega))) rfl) (ai (ai (ai (ai rfl rfl) rfl) (ai rfl (ai rfl (ai ?_ ?_)))) trivial))))) rfl) (ai (ai (iL (by omega)) trivial) (iM (by omega)))))
    ·exact congrArg List.length eN
    ·exact gH eN
  ·have hkn:k+1=c.sts.length:=by omega
   refine ei (bG.inv { X:=Nat,up:=fun i=>[(66,.s (iA i))],uo:=fun i=>[⟨1,143,[.s (.own 1 0),.rw 5 1 (aQ c.sts (k+1)++iw (bQ c) c.trs i).length (vT (aQ c.sts (k+1)++iw (bQ c) c.trs i))]⟩],inv:=fun i=>i≤c.trs.length∧(True),meas:=fun i=>c.trs.length-i,x0:=0 }) ?_
   refine ai (ai (ai (by exact (a4 (ai rfl rfl))) (ai ?_ ?_)) rfl) (ai (ai (ac7 _) ?_) ?_)
   ·exact (ai (ai (fun _=>rfl) (iE (by simp only[zz,reduceCtorEq];rfl))) rfl)
   ·refine (ai (ai (ai (ai rfl rfl) rfl) (ai rfl (ai rfl (ai ?_ ?_)))) trivial)
    ·show (aQ c.sts (k+1)).length=(aQ c.sts (k+1)++[]).length
     rw[anp]
    ·exact gH (by show _=_++[];rw[anp])
   ·trivial
   intro (i:Nat) ⟨hi,_⟩
   have hM:=yu hc hi
   refine ah (p:=i<c.trs.length) (ak (by omega)) (fun h5=>?_) (fun h5=>?_)
   ·refine ai (ai (abr _) (iN (n:=c.trs.length) (by omega))) (ai rfl ?_)
    obtain ⟨⟨q1,q2⟩,q3,q4,q5⟩:=wH hc h5
    obtain ⟨⟨p1,p2⟩,p3,p4⟩:=aaX hc h5
    have x1:=ng (kV hc h5).1.1 (by decide)
    have x2:=ng (kV hc h5).2.1.1 (by decide)
    refine ei (.seq [0,1,2,3,4,5,6,7,8,9]) (ai (by kernel_rfl) ?_)
    refine ei _ (ai (agf) (ei (c) (ei [] (ai (a4 (ai (fun _=>Or.inl rfl) (ai nof (Or.inl rfl)))) (ai (by exact (ai rfl (ai (ai rfl (fun _ _=>rfl)) (ai (ai rfl (fun _ _=>rfl)) (ai rfl (fun _ _=>rfl)))))) (ai trivial (ai (tL hc) ?_)))))))
    refine ei _ (ai (akf) (ei (((c.trs.getD i aG).wh,bQ c)) (ei [] (ai (a4 (ai (fun _=>Or.inl rfl) (ai nof (Or.inl rfl)))) (ai (by exact (ai (ai (iE (by simp only[zz,reduceCtorEq])) (ai (iE (by simp only[zz,reduceCtorEq])) (ai rfl (fun _ _=>rfl)))) (ai rfl (fun _ _=>rfl)))) (ai trivial (ai (aoC hc h40 h5) ?_)))))))
    refine ei (.one 0 (.one 1 (.one 4 (.one 5 (.one 9 (.one 2 (.one 3 (.one 6 (.one 7 (.one 8 (.one 10 (.one 11 (.wr 12 .done))))))))))))) (ai (by kernel_rfl) ?_)
    refine ei _ (ai (sJ) (ei ((c.trs.getD i aG).fr) (ei [] (ai (a4 (ai (fun _=>Or.inl rfl) (ai nof (Or.inl rfl)))) (ai (by exact (ai rfl (fun _ _=>rfl))) (ai trivial (ai (⟨x1,by show (c.trs.getD i aG).fr.length≤1000;omega⟩) ?_)))))))
    refine ai (fE (l:=inT (c.trs.getD i aG).fr) (m:=[32,62,32]) rfl rfl (by show _+3≤_;omega)) ?_
    refine ei _ (ai (sJ) (ei ((c.trs.getD i aG).to) (ei [] (ai (a4 (ai (fun _=>Or.inl rfl) (ai nof (Or.inl rfl)))) (ai (by exact (ai rfl (fun _ _=>rfl))) (ai trivial (ai (⟨x2,by show (c.trs.getD i aG).to.length≤1000;omega⟩) ?_)))))))
    have hX2:(strOf (inT (c.trs.getD i aG).fr)++strOf [32,62,32])++strOf (inT (c.trs.getD i aG).to)=strOf ((inT (c.trs.getD i aG).fr++[32,62,32])++inT (c.trs.getD i aG).to):=by rw[aC,aC]
    have hX3:((strOf (inT (c.trs.getD i aG).fr)++strOf [32,62,32])++strOf (inT (c.trs.getD i aG).to))++strOf [58,32]=strOf (((inT (c.trs.getD i aG).fr++[32,62,32])++inT (c.trs.getD i aG).to)++[58,32]):=by rw[hX2,aC]
    have hX4:(((strOf (inT (c.trs.getD i aG).fr)++strOf [32,62,32])++strOf (inT (c.trs.getD i aG).to))++strOf [58,32])++strOf (bB (bQ c) (c.trs.getD i aG).wh)=strOf ((((inT (c.trs.getD i aG).fr++[32,62,32])++inT (c.trs.getD i aG).to)++[58,32])++bB (bQ c) (c.trs.getD i aG).wh):=by rw[hX3,aC]
    have hX5:((((strOf (inT (c.trs.getD i aG).fr)++strOf [32,62,32])++strOf (inT (c.trs.getD i aG).to))++strOf [58,32])++strOf (bB (bQ c) (c.trs.getD i aG).wh))++strOf [10]=strOf (vF (bQ c) (c.trs.getD i aG)):=by rw[hX4,aC];rfl
    refine ai (fE (l:=inT (c.trs.getD i aG).fr++[32,62,32]) (m:=inT (c.trs.getD i aG).to) (aC _ _) rfl (by simp only[aaH,aio,akY];omega)) ?_
    refine ai (fE (l:=(inT (c.trs.getD i aG).fr++[32,62,32])++inT (c.trs.getD i aG).to) (m:=[58,32]) hX2 rfl (by simp only[aaH,aio,akY];omega)) ?_
    refine ai (fE (l:=((inT (c.trs.getD i aG).fr++[32,62,32])++inT (c.trs.getD i aG).to)++[58,32]) (m:=bB (bQ c) (c.trs.getD i aG).wh) hX3 rfl (by simp only[aaH,aio,akY];omega)) ?_
    refine ai (fE (l:=(((inT (c.trs.getD i aG).fr++[32,62,32])++inT (c.trs.getD i aG).to)++[58,32])++bB (bQ c) (c.trs.getD i aG).wh) (m:=[10]) hX4 rfl (by simp only[aaH,aio,akY];omega)) ?_
    refine aS (lG) ((true,[],aQ c.sts (k+1)++iw (bQ c) c.trs i,vF (bQ c) (c.trs.getD i aG))) [1,3] (a4 (ai rfl rfl)) (Or.inl rfl) ?_ (by exact (ai (ai rfl (ai (ai rfl rfl) rfl)) (ai rfl (ai rfl (ai rfl (fun _ _=>rfl)))))) (⟨by show (aQ c.sts (k+1)++iw (bQ c) c.trs i).length≤1000000;rw[aaH];omega,by show (vF (bQ c) (c.trs.getD i aG)).length≤1000000;omega⟩) ?_
    ·exact (ai (ai rfl rfl) rfl)
    have eN:(aQ c.sts (k+1)++iw (bQ c) c.trs i)++vF (bQ c) (c.trs.getD i aG)=aQ c.sts (k+1)++iw (bQ c) c.trs (i+1):=by rw[iw,anr]
    refine ei (i+1) (ai (ai rfl rfl) (ai (ai (ai rfl (ai (ai rfl rfl) (ai (ai rfl rfl) (ai (ai (ai (fun _=>rfl) (aM (by omega))) rfl) (ai (ai (ai (ai rfl rfl) rfl) (ai rfl (ai rfl (ai ?_ ?_)))) trivial))))) rfl) (ai (ai (iL (by omega)) trivial) (iM (by omega)))))
    ·exact congrArg List.length eN
    ·exact gH eN
   ·obtain rfl:i=c.trs.length:=by omega
    have hne:aQ c.sts (k+1)++iw (bQ c) c.trs c.trs.length≠[]:=fun e=>by
     have:=congrArg List.length e
     rw[aaH,aQ,aaH] at this
     have h7:0<(lnK k (c.sts.getD k st0)).length:=by unfold lnK;rw[aaH];exact ark _
     have:(aQ c.sts k).length+(lnK k (c.sts.getD k st0)).length+(iw (bQ c) c.trs c.trs.length).length=0:=this
     omega
    refine aci (aaN 143 2) rfl rfl rfl rfl (aQ c.sts (k+1)++iw (bQ c) c.trs c.trs.length) rfl hne (fun j _=>rfl) ?_
    have eT:abN c=aQ c.sts (k+1)++iw (bQ c) c.trs c.trs.length:=by unfold abN;rw[hkn]
    refine ai (ai (fun _=>(by exact (ai trivial trivial))) ?_) trivial
    show au _ (jL c)
    rw[jL,if_pos hc,hc,eT]
    exact (ai rfl rfl)
theorem aoJ {c:bD} (h:jJ c=true) (h0:bJ c=0):∀t∈c.trs,t.wh.size≤120:=fun t ht=>by
 obtain ⟨k,hk,rfl⟩:=aqc ht
 have h1:=(wH h0 hk).2.2.1
 have e:c.trs.getD k aG=c.trs[k]:=by rw[abo,abm hk];rfl
 rw[e] at h1
 have h2:kI (c.trs[k]).wh=true:=by
  by_cases h4:∀x∈c.trs,p9 x=true
  ·exact (agH (h4 _ ht)).2.2
  ·simp only[as3] at h4
   obtain ⟨x,hx,h4⟩:=h4
   rw[tO ⟨x,hx,by simpa using h4⟩] at h;cases h
 unfold kI at h2
 simp only[aqo,ahX,decide_eq_true_eq] at h2
 omega
theorem aqk {P:Program} {f:Nat} {α:Type} {args:α→List SV} {pre:α→Prop} {res:α→PV} (h:aL P f (fnG args pre res)) (a:α) (hp:pre a) {r:PV} (e:res a=r) :
  aL P f (fnG (fun _:Unit=>args a) (fun _=>True) (fun _=>r)):=by
 subst e
 exact ⟨h.1,fun _ _ E vs w hg hh hA=>h.2 a hp E vs w hg hh hA⟩
theorem alZ (c:bD):(if bJ c=0 then bQ c else []).length≤1000000:=by
 split
 ·rename_i h
  have:=(kX h).2.2.2;omega
 ·exact ac7 _
theorem aiX:aL Tryz.prog 5 arF:=by
 refine bg (Tb:=tab) mixed ay Tryz.func5 rfl rfl ?_
 rintro (c:bD) hpre
 refine ai (ai rfl (ai rfl rfl)) ?_
 refine ei _ (ai (al3) (ei (c) (ei [] (ai (a4 (ai (fun _=>Or.inl rfl) (ai nof (Or.inl rfl)))) (ai (by exact (ai rfl (ai (ai rfl (fun _ _=>rfl)) (ai (ai rfl (fun _ _=>rfl)) (ai rfl (fun _ _=>rfl)))))) (ai trivial (ai (trivial) ?_)))))))
 refine aZ (b:=!jJ c) rfl (fun h=>?_) (fun h=>?_)
 ·refine ei _ (ai (acK) (ei (()) (ei [] (ai (a4 (ai (fun _=>Or.inl rfl) (ai nof (Or.inr rfl)))) (ai (by exact trivial) (ai trivial (ai (trivial) ?_)))))))
  refine ai (ai (fun _=>trivial) ?_) trivial
  exact rfl
 have h:jJ c=true:=by simpa using h
 obtain ⟨ho,hf,hi⟩:=aoF h
 obtain ⟨n,hn⟩:∃n,bJ c=n:=⟨_,rfl⟩
 obtain ⟨nm,hnm⟩:∃nm,(if bJ c=0 then bQ c else [])=nm:=⟨_,rfl⟩
 obtain ⟨t,ht⟩:∃t,(if bJ c=0 then abN c else [])=t:=⟨_,rfl⟩
 have hnl:nm.length≤1000000:=by rw[←hnm];exact alZ c
 have eN:nC c=.tup [vZ nm,iP n]:=by unfold nC;rw[hnm,hn]
 have eT:jL c=.tup [sP t,iP n]:=by unfold jL;rw[ht,hn]
 refine ei _ (ai (wo) (ei (c) (ei [] (ai (a4 (ai (fun _=>Or.inl rfl) (ai nof (Or.inl rfl)))) (ai (by exact (ai rfl (ai (ai rfl (fun _ _=>rfl)) (ai (ai rfl (fun _ _=>rfl)) (ai rfl (fun _ _=>rfl)))))) (ai trivial (ai (hf) ?_)))))))
 refine ei _ (ai ((kM amu c ho eN)) (ei (()) (ei [] (ai (a4 (ai (fun _=>Or.inl rfl) (ai nof (Or.inl rfl)))) (ai (by exact (ai rfl (ai (ai rfl (fun _ _=>rfl)) (ai (ai rfl (fun _ _=>rfl)) (ai rfl (fun _ _=>rfl)))))) (ai trivial (ai (trivial) ?_)))))))
 refine ei _ (ai ((kM alv c ho eN)) (ei (()) (ei [] (ai (a4 (ai (fun _=>Or.inl rfl) (ai nof (Or.inl rfl)))) (ai (by exact (ai rfl (ai (ai rfl (fun _ _=>rfl)) (ai (ai rfl (fun _ _=>rfl)) (ai rfl (fun _ _=>rfl)))))) (ai trivial (ai (trivial) ?_)))))))
 refine ei _ (ai (wo) (ei (c) (ei [] (ai (a4 (ai (fun _=>Or.inl rfl) (ai nof (Or.inl rfl)))) (ai (by exact (ai rfl (ai (ai rfl (fun _ _=>rfl)) (ai (ai rfl (fun _ _=>rfl)) (ai rfl (fun _ _=>rfl)))))) (ai trivial (ai (hf) ?_)))))))
 refine ei _ (ai ((aqk akP c ⟨ho,aoJ h⟩ eT)) (ei (()) (ei [] (ai (a4 (ai (fun _=>Or.inl rfl) (ai nof (Or.inr rfl)))) (ai (by exact (ai rfl (ai (ai rfl (fun _ _=>rfl)) (ai (ai rfl (fun _ _=>rfl)) (ai rfl (fun _ _=>rfl)))))) (ai trivial (ai (trivial) ?_)))))))
 refine ei _ (ai ((uS ami c ho eT)) (ei (()) (ei [] (ai (a4 (ai (fun _=>Or.inl rfl) (ai nof (Or.inl rfl)))) (ai (by exact (ai rfl (ai (ai rfl (fun _ _=>rfl)) (ai (ai rfl (fun _ _=>rfl)) (ai rfl (fun _ _=>rfl)))))) (ai trivial (ai (trivial) ?_)))))))
 refine ei (.seq [0,1,2,5,3,4,6,7,8,9,10,11,12,13,14,15,16,17,18,19,20,21,22,23,24,25,26,27,28,29]) (ai (by kernel_rfl) ?_)
 refine ei _ (ai (acK) (ei (()) (ei [] (ai (a4 (ai (fun _=>Or.inl rfl) (ai nof (Or.inr rfl)))) (ai (by exact trivial) (ai trivial (ai (trivial) ?_)))))))
 refine ei _ (ai (wo) (ei (c) (ei [] (ai (a4 (ai (fun _=>Or.inl rfl) (ai nof (Or.inl rfl)))) (ai (by exact (ai rfl (ai (ai rfl (fun _ _=>rfl)) (ai (ai rfl (fun _ _=>rfl)) (ai rfl (fun _ _=>rfl)))))) (ai trivial (ai (hf) ?_)))))))
 refine ei _ (ai ((uS aav c ho (congrArg iP hn))) (ei (()) (ei [] (ai (a4 (ai (fun _=>Or.inl rfl) (ai nof (Or.inl rfl)))) (ai (by exact (ai rfl (ai (ai rfl (fun _ _=>rfl)) (ai (ai rfl (fun _ _=>rfl)) (ai rfl (fun _ _=>rfl)))))) (ai trivial (ai (trivial) ?_)))))))
 refine ei _ (ai ((uS wC c ho (congrArg iP hn))) (ei (()) (ei [] (ai (a4 (ai (fun _=>Or.inl rfl) (ai nof (Or.inl rfl)))) (ai (by exact (ai rfl (ai (ai rfl (fun _ _=>rfl)) (ai (ai rfl (fun _ _=>rfl)) (ai rfl (fun _ _=>rfl)))))) (ai trivial (ai (trivial) ?_)))))))
 refine aZ (b:=true) (by exact beq_self_eq_true n) (fun _=>?_) (fun h=>absurd h (by decide))
 refine ei _ (ai (amP) (ei ((nm,nm)) (ei [] (ai (a4 (ai (fun _=>Or.inl rfl) (ai nof (Or.inl rfl)))) (ai (by exact (ai (ai rfl (fun _ _=>rfl)) (ai rfl (fun _ _=>rfl)))) (ai trivial (ai (hnl) ?_)))))))
 refine aZ (b:=true) (by exact decide_eq_true rfl) (fun _=>?_) (fun h=>absurd h (by decide))
 refine aZ (b:=true) (by exact beq_self_eq_true n) (fun _=>?_) (fun h=>absurd h (by decide))
 refine aZ (b:=true) (by exact beq_self_eq_true t) (fun _=>?_) (fun h=>absurd h (by decide))
 refine ai (ai (fun _=>trivial) ?_) trivial
 show au _ (bP true)
 rw[(beq_self_eq_true n).symm]
 exact rfl
end Go.Sx.Pe
namespace Go.Sx.Pe
open Go Go.Proofs Go.Sx.Pn Go.ChangeShapes Go.WideShapes Go.ChangeAt Go.RowKit Go.Deep Go.Lib
theorem alf {H:Type} {enc:TypeId×Value→H} {P:Program} {f:Func} {s:ChangeSpec} {S:List TypeId} (hS:Closed P S) {tb:TypeId} (hb:P.underlying tb=some .bool) (hres:f.resultTypes=#[tb])
  {W W':World} {args:Array Value} {ds:List (DataW H)} {before:List MemPlace} (hW:DataW.Whole enc P f.params.toList s.vars false W args.toList ds [] before) (hv:s.vars=[])
  (hA:DataW.TrodAll enc P W 0 (fun _=>true) true f.params.toList args.toList ds before) (hts:∀t∈f.params.toList,t∈S) (hfn:s.fn H (ds++[])={ results:=[.lit (.bool true)],args:=ds,vars:=[] }) (hg:Below W.heap.size W W') :
  s.post enc P f false true false false W args (.bool true) W':=by
 have hlt:=hW.lt
 have hold:∀p∈before,(fun b=>decide (b<W.heap.size)) p.block=true:=fun p hp=>by simpa using hlt p hp
 have hargs:∀sp:Nat→Bool,(∀p∈before,sp p.block=true)→DataW.TrodAll enc P W' 0 sp true f.params.toList args.toList ds before:=fun sp hsp=>aaL hS hg.block hts hA hsp
 have hrt:(Value.bool true).resultList f.resultTypes.size=[.bool true]:=by rw[hres];rfl
 have hr:∀(b:Nat) (sp:Nat→Bool) (hd:Bool),DataW.TrodAll enc P W' b sp hd f.resultTypes.toList ((Value.bool true).resultList f.resultTypes.size) [.lit (.bool true)] []:=fun b sp hd=>by
  rw[hrt,hres];exact trodAll_cons_mk (shut_bool hb true) trodAll_mk0
 refine ⟨ds,[],before,[],before,[],hW,by rw[hfn];exact hr _ _ _,by rw[hfn];exact hargs _ hold,by rw[hfn,hv];rfl,World.keptBut_mono (fun p hp=>⟨hp,.inr (.inl hp)⟩) (hg.frame (·∈before)),fun h=>by cases h⟩
theorem aoz:ownKnob Tryz.prog.godebug=none:=by kernel_rfl
theorem an3 {d1 d2 d4 d5:DataW Unit} {n1 n2 n4 n5:String} {W:World} (h:laidMet Tryz.prog [(n1,d1),(n2,d2),("internal/strconv.uint64pow10",Go.Proofs.YteenedbiifampaaGreatDoor.Rows.laid_internal_strconv_uint64pow10),(n4,d4),(n5,d5)] W):∀p∈glP,gI W p.1=some p.2:=by
 have h3:TabIs Tryz.prog W "internal/strconv.uint64pow10" .u64 Lib.pow10Tab:=
  tabIs_of_head (rest:=[(n4,d4),(n5,d5)]) (show Tryz.prog.globalNamed "internal/strconv.uint64pow10"=some 0 by kernel_rfl) (show (Tryz.prog.globals[0]?).map (·.type)=some 275 by kernel_rfl) Tryz.underlying275 Tryz.underlying252 (by kernel_rfl) (by kernel_rfl) (laidMet.tail (laidMet.tail h))
 intro p hp
 rw[akz.1 hp]
 have h4:World.var? Tryz.prog W "internal/strconv.uint64pow10"=some p10:=h3
 unfold World.var? at h4
 rw[show Tryz.prog.globalNamed "internal/strconv.uint64pow10"=some 0 by kernel_rfl] at h4
 exact h4
def ag4 (vs:List Value):Obj→Obj
 | .cells _ t frozen=>.cells vs.toArray t frozen
 | o=>o
def u8s (l:List Nat):List Value:=l.map fun n:Nat=>Value.int .u8 (n:Int)
noncomputable def aan (os:Os):World:=
 { World.holding Tryz.prog os ⟨#[],#[],[]⟩ with heap:=((((((World.holding Tryz.prog os ⟨#[],#[],[]⟩).heap.modify 2 (ag4 (u8s Lib.deBruijn32tab))).modify 3 (ag4 (u8s Lib.deBruijn64tab))).modify 0 (ag4 p10.toList)).modify 5 (ag4 (u8s ([128,191,160,191,128,159,144,191,128,143]++List.replicate 22 0)))).modify 4 (ag4 (u8s Go.Pinned.utf8FirstZ))) }
theorem aou {E:Env} {v:Value} {d d':PV} (h:aP E v (.p false d)) (e:iH d d'):aP E v (.p false d'):=by
 cases h with | p _ _ _ hp=>exact .p _ _ _ (rz e hp)
theorem mK {P:Program} {t:TypeId} {fs:Array Field} {n:Nat} {l:List PV} {ts:List TypeId} (hu:P.underlying t=some (.struct fs)) (hts:fs.toList.map (·.type)=ts) (h:Shape P n t l) :
  ∃(n':Nat) (ls:List (List PV)),n=n'+1∧l=ls.flatten∧afH P n' ts ls:=by
 cases n with
 | zero=>exact h.elim
 | succ n=>
  unfold Shape at h;rw[hu] at h
  obtain ⟨ls,rfl,h1,h2⟩:=h
  refine ⟨n,ls,rfl,rfl,aec ts ls (by rw[h1,←hts];simp) fun i t x ht hx=>?_⟩
  subst hts
  simp only[ane,af4,ar6] at ht
  obtain ⟨f,hf,rfl⟩:=ht
  exact h2 i f x hf hx
theorem aaq {P:Program} {t e:TypeId} {n:Nat} {l:List PV} (hu:P.underlying t=some (.slice e)) (h:Shape P n t l):∃(n' m:Nat) (f:Nat→List PV),n=n'+1∧l=[.seq m f]∧∀j,j<m→Shape P n' e (f j):=by
 cases n with
 | zero=>exact h.elim
 | succ n=>unfold Shape at h;rw[hu] at h;obtain ⟨m,f,h1,h2,h3⟩:=h;exact ⟨n,m,f,rfl,h2,h3⟩
theorem aeJ {α:Type} (d:α) {g:α→List PV} {m:Nat} {f:Nat→List PV} (h:∀j,j<m→∃x,cB (f j) (g x)):∃L:List α,L.length=m∧∀j,j<m→cB (f j) (g (L.getD j d)):=by
 have h1:∀j,∃x:α,j<m→cB (f j) (g x):=fun j=>by
  by_cases hj:j<m
  ·obtain ⟨x,hx⟩:=h j hj;exact ⟨x,fun _=>hx⟩
  ·exact ⟨d,fun h=>absurd h hj⟩
 obtain ⟨c,hc⟩:=Classical.axiomOfChoice h1
 refine ⟨(List.range m).map c,by simp,fun j hj=>?_⟩
 have:((List.range m).map c).getD j d=c j:=by simp[abo,hj]
 rw[this];exact hc j hj
theorem qm {α:Type} (d:α) {g:α→List PV} {P:Program} {t e:TypeId} {n:Nat} {l:List PV} (hu:P.underlying t=some (.slice e)) (he:∀k x,k<n→Shape P k e x→∃y,cB x (g y)) (h:Shape P n t l):∃L:List α,cB l [.seq L.length (fun j=>g (L.getD j d))]:=by
 obtain ⟨n',m,f,rfl,rfl,hf⟩:=aaq hu h
 obtain ⟨L,rfl,hL⟩:=aeJ d fun j hj=>he n' (f j) (Nat.lt_succ_self _) (hf j hj)
 exact ⟨L,abK (ig hL)⟩
theorem qI:∀{a b c d:List PV},cB a b→cB c d→cB (a++c) (b++d)
 | [],[],_,_,_,h=>h
 | x :: a,y :: b,c,d,h,k=>bS (h.2 0 x y rfl rfl) (qI ⟨by simpa using h.1,fun j s s' hs hs'=>h.2 (j+1) s s' hs hs'⟩ k)
 | [],_ :: _,_,_,h,_=>by have:=h.1;simp at this
 | _ :: _,[],_,_,h,_=>by have:=h.1;simp at this
theorem ael {a b c a' b' c':List PV} (h1:cB a a') (h2:cB b b') (h3:cB c c'):cB [a,b,c].flatten (a'++(b'++c')):=by
 have:[a,b,c].flatten=a++(b++c):=by simp
 rw[this];exact qI h1 (qI h2 h3)
theorem aeF {a b a' b':List PV} (h1:cB a a') (h2:cB b b'):cB [a,b].flatten (a'++b'):=by
 have:[a,b].flatten=a++b:=by simp
 rw[this];exact qI h1 h2
theorem ajZ {a b c d a' b' c' d':List PV} (h1:cB a a') (h2:cB b b') (h3:cB c c') (h4:cB d d'):cB [a,b,c,d].flatten (a'++(b'++(c'++d'))):=by
 have:[a,b,c,d].flatten=a++(b++(c++d)):=by simp
 rw[this];exact qI h1 (qI h2 (qI h3 h4))
theorem wR {n:Nat} {l:List PV} (h:Shape Tryz.prog n 3 l):∃m:Int,cB l [iP m]:=by
 obtain ⟨m,_,rfl⟩:=aj5 Tryz.underlying3 h
 exact ⟨m,cB.rfl' _⟩
theorem anR {n:Nat} {l:List PV} (h:Shape Tryz.prog n 4 l):∃b:Bool,cB l [bP b]:=by
 obtain ⟨m,rfl⟩:=ai9 Tryz.underlying4 h
 exact ⟨m,cB.rfl' _⟩
theorem aqu {n:Nat} {l:List PV} (h:Shape Tryz.prog n 9 l):∃s:List UInt8,cB l [sP s]:=by
 obtain ⟨s,_,rfl⟩:=afz Tryz.underlying9 h
 refine ⟨s.data.toList,cB.of ?_⟩
 have:strOf s.data.toList=s:=by cases s;simp[strOf]
 show _=[PV.val (.string (strOf s.data.toList))]
 rw[this]
theorem aiv {n:Nat} {l:List PV} (h:Shape Tryz.prog n 29 l):∃L:List Int,cB l [mW L]:=qm 0 (g:=fun x=>[iP x]) Tryz.underlying29 (fun _ _ _ h=>wR h) h
theorem anM {n:Nat} {l:List PV} (h:Shape Tryz.prog n 22 l):∃L:List (List UInt8),cB l [vZ L]:=qm [] (g:=fun x=>[sP x]) Tryz.underlying22 (fun _ _ _ h=>aqu h) h
theorem aqN {n:Nat} {l:List PV} (h:Shape Tryz.prog n 94 l):∃x:Sk,cB l (skK x):=by
 obtain ⟨n',ls,rfl,rfl,h2⟩:=mK (ts:=[3,4]) Tryz.underlying94 (by decide) h
 match ls,h2 with
 | [a,b],⟨ha,hb,_⟩=>
  obtain ⟨x,hx⟩:=wR ha
  obtain ⟨y,hy⟩:=anR hb
  exact ⟨(x,y),aeF hx hy⟩
theorem apo {n:Nat} {l:List PV} (h:Shape Tryz.prog n 87 l):∃L:List Sk,cB l [aaz L]:=qm bO (g:=skK) Tryz.underlying87 (fun _ _ _ h=>aqN h) h
theorem ao8 {n:Nat} {l:List PV} (h:Shape Tryz.prog n 108 l):∃x:Stp,cB l (stK x):=by
 obtain ⟨n',ls,rfl,rfl,h2⟩:=mK (ts:=[87,3]) Tryz.underlying108 (by decide) h
 match ls,h2 with
 | [a,b],⟨ha,hb,_⟩=>
  obtain ⟨x,hx⟩:=apo ha
  obtain ⟨y,hy⟩:=wR hb
  exact ⟨⟨x,y⟩,aeF hx hy⟩
theorem aoM {n:Nat} {l:List PV} (h:Shape Tryz.prog n 23 l):∃L:List Stp,cB l [ajU L]:=qm st0 (g:=stK) Tryz.underlying23 (fun _ _ _ h=>ao8 h) h
theorem ae5 {d:PV} {n:Nat} {f g:Nat→List PV} (h:iH d (.seq n f)) (e:∀k,k<n→f k=g k):iH d (.seq n g):=by
 cases h with
 | refl=>exact ig fun k hk=>cB.of (e k hk)
 | nil=>exact .nil _
 | seq _ f0 _ hl he=>exact .seq n f0 g (fun j hj=>by rw[←e j hj];exact hl j hj) fun j k s s' hj hs hs'=>he j k s s' hj hs (by rw[e j hj];exact hs')
theorem amI {L:List Ex} {j:Nat} {x:List PV} (h:cB x (y7 (L.getD j aH))):cB x (exF L j):=by
 match x,h with
 | [p,q,r],⟨hl,h⟩=>
  refine bS (h 0 _ _ rfl rfl) (bS (h 1 _ _ rfl rfl) (abK ?_))
  exact ae5 (h 2 _ _ rfl rfl) fun k hk=>ajb _ k hk
 | [],⟨hl,_⟩=>simp[y7] at hl
 | [_],⟨hl,_⟩=>simp[y7] at hl
 | [_,_],⟨hl,_⟩=>simp[y7] at hl
 | _ :: _ :: _ :: _ :: _,⟨hl,_⟩=>simp[y7] at hl
theorem aqW:∀(n:Nat) (l:List PV),Shape Tryz.prog n 79 l→∃x:Ex,cB l (y7 x):=by
 intro n
 induction n using Nat.strongRecOn with
 | _ n ih=>
  intro l h
  obtain ⟨n',ls,rfl,rfl,h2⟩:=mK (ts:=[3,3,77]) Tryz.underlying79 (by decide) h
  match ls,h2 with
  | [a,b,c],⟨ha,hb,hc,_⟩=>
   obtain ⟨x,hx⟩:=wR ha
   obtain ⟨y,hy⟩:=wR hb
   obtain ⟨n2,m,f,rfl,rfl,hf⟩:=aaq Tryz.underlying77 hc
   obtain ⟨L,rfl,hL⟩:=aeJ aH fun j hj=>ih n2 (by omega) (f j) (hf j hj)
   refine ⟨.node x y L,ael hx hy (abK (ig fun j hj=>?_))⟩
   exact amI (hL j hj)
theorem aqe {n:Nat} {l:List PV} (h:Shape Tryz.prog n 81 l):∃x:kD,cB l (trK x):=by
 obtain ⟨n',ls,rfl,rfl,h2⟩:=mK (ts:=[29,29,79]) Tryz.underlying81 (by decide) h
 match ls,h2 with
 | [a,b,c],⟨ha,hb,hc,_⟩=>
  obtain ⟨x,hx⟩:=aiv ha
  obtain ⟨y,hy⟩:=aiv hb
  obtain ⟨z,hz⟩:=aqW _ _ hc
  exact ⟨⟨x,y,z⟩,ael hx hy hz⟩
theorem aot {n:Nat} {l:List PV} (h:Shape Tryz.prog n 24 l):∃L:List kD,cB l [alH L]:=qm aG (g:=trK) Tryz.underlying24 (fun _ _ _ h=>aqe h) h
def acy:List TypeId:=[3,4,9,29,72,22,94,87,95,41,43,108,23,79,77,81,24,26]
theorem yT:Closed Tryz.prog acy:=by
 intro t ht
 simp only[acy,akZ,List.mem_nil_iff,or_false] at ht
 rcases ht with rfl | rfl | rfl | rfl | rfl | rfl | rfl | rfl | rfl | rfl | rfl | rfl | rfl | rfl | rfl | rfl | rfl | rfl<;>kernel_rfl
section
variable {w : World} {r : Reach} {b : Nat} {v : Value} {n : Nat} {l : List PV}
theorem akL (hv:Value.okWide Tryz.prog w r b 26 v) (hs:Shape Tryz.prog n 26 l) (hr:Rel (gI w) v.cells.toList l):∃c:bD,aP (E0 w) v (kF c):=by
 obtain ⟨cs,hc⟩:=ali Tryz.underlying26 hv
 have hS:=apr hc hr
 obtain ⟨n',ls,rfl,rfl,h2⟩:=mK (ts:=[3,22,23,24]) Tryz.underlying26 (by decide) hs
 match ls,h2 with
 | [a,b,c,d],⟨ha,hb,hc,hd,_⟩=>
  obtain ⟨x,hx⟩:=wR ha
  obtain ⟨y,hy⟩:=anM hb
  obtain ⟨z,hz⟩:=aoM hc
  obtain ⟨u,hu⟩:=aot hd
  exact ⟨⟨x,y,z,u⟩,aou hS (wF (ajZ hx hy hz hu))⟩
end
end Go.Sx.Pe
namespace Go.Proofs.YteenedbiifampaaGreatDoor.chartChecks
open Go.ChangeShapes Go.WideShapes Go.ChangeAt Go.RowKit Go.Joins Go.Deep Go.Sx Go.Sx.Pn Go.Sx.Pe
set_option maxRecDepth 100000 in
theorem contract (H:Type) (enc:TypeId×Value→H) (W:World) (base:Nat) (args:Array Value) (ds gs:List (DataW H)) (before:List MemPlace)
  (hval:∀(j:Nat) t v,Tryz.f5.params[j]?=some t→args[j]?=some v→Value.okWide Tryz.prog W .any base t v)
  (hW:DataW.Whole enc Tryz.prog Tryz.f5.params.toList Rows.chartChecksSpec.vars false W args.toList ds gs before) (hL:laidMetH Tryz.prog Rows.chartChecksRow.laid W) :
  Calls Tryz.prog 5 args W fun e W'=>∃v,e=.returned v∧Rows.chartChecksSpec.post enc Tryz.prog Tryz.f5 false true false false W args v W':=by
 have hW':=hW
 obtain ⟨p,q,hA0,hV,rfl,hfz,hnd⟩:=hW
 obtain ⟨rfl,rfl⟩:=trodVars_none hV
 have hA:DataW.TrodAll enc Tryz.prog W 0 (fun _=>true) true Tryz.f5.params.toList args.toList ds p:=hA0
 have hA1:=hA
 rw[Tryz.params5] at hA hval
 clear hA0
 obtain ⟨v0,vs0,d0,ds0,p0,q0,hargs0,rfl,rfl,⟨fu0,h0⟩,r0⟩:=trodAll_cons hA
 obtain ⟨rfl,rfl,rfl⟩:=trodAll_nil r0
 obtain rfl:args=#[v0]:=by cases args;simp_all
 obtain ⟨l0,s0,e0⟩:=afs yT fu0 26 _ _ (by decide) h0
 obtain ⟨a0,S0⟩:=akL (hval 0 _ v0 rfl rfl) s0 e0
 simp only[anp] at hW' hA1
 refine (aha aiX a0 trivial W (an3 hL) _ (ajg (vs:=[v0]) (ai S0 trivial))).mono fun e W' ⟨he,hg⟩=>?_
 subst he
 exact ⟨_,rfl,alf yT Tryz.underlying4 (by kernel_rfl) hW' rfl hA1 (by rw[Tryz.params5];decide) rfl hg⟩
theorem laid_met (os:Os):laidMet Tryz.prog Rows.chartChecksRow.laid ((aan os).forCall (fun _ _=>0) ⟨#[],#[.agg #[.int .i64 0,.slice none 0 0,.slice none 0 0,.slice none 0 0]],[]⟩).memory:=
 laidMet_of_run' 8 (by kernel_rfl) (by kernel_rfl)
theorem reads (os:Os) {H:Type} (enc:TypeId×Value→H):∃places,DataW.whole enc Tryz.prog ((aan os).forCall (fun _ _=>0) ⟨#[],#[.agg #[.int .i64 0,.slice none 0 0,.slice none 0 0,.slice none 0 0]],[]⟩).memory Tryz.f5.params.toList Rows.chartChecksSpec.vars false (Array.toList (α:=Value) #[.agg #[.int .i64 0,.slice none 0 0,.slice none 0 0,.slice none 0 0]]) 8=some ([.agg [.lit (.int .i64 0),.nil,.nil,.nil]],[],places):=
 ⟨[],by kernel_rfl⟩
set_option maxRecDepth 100000 in
theorem lifted (os:Os) (started:os.Started) (H:Type) (enc:TypeId×Value→H) (F:Stop.Interp) :
  ReturnsInHanded {} Tryz.checked os 5 .any ((OpenSpec.ofChange Rows.chartChecksSpec).preRow enc Tryz.prog Tryz.f5 Rows.chartChecksRow.domain false Rows.chartChecksRow.laid) (((OpenSpec.ofChange Rows.chartChecksSpec).at F).post enc Tryz.prog Tryz.f5 false true false false):=by
 obtain ⟨places,hx⟩:=reads os enc
 refine returnsInHanded_of_row (C:=Tryz.checked) (s:=OpenSpec.ofChange Rows.chartChecksSpec) aoz started (by kernel_rfl) Tryz.func5
  (witness_row_at (enc:=enc) (C:=Tryz.checked) false (aan os) #[.agg #[.int .i64 0,.slice none 0 0,.slice none 0 0,.slice none 0 0]] rfl (by kernel_rfl) (by kernel_rfl) (by kernel_rfl)
   (OpenSpec.preRow_of_cond 8 hx (by kernel_rfl) (fun k hk=>by cases hk) (by kernel_rfl) (laid_met os))) ?_
 intro W base args ds gs before hval hW _ _ _ hL _ _
 exact contract H enc W base args ds gs before hval hW hL
theorem facts:joinedFacts Tryz.pinned.checked.prog 5 Tryz.f5 (OpenSpec.ofChange Rows.chartChecksSpec).bare Rows.chartChecksRow=true:=by kernel_rfl
theorem named:Tryz.pinned.checked.prog.funcNamed Rows.chartChecksRow.func=some 5:=by kernel_rfl
theorem inst:Tryz.f5.isInstance Tryz.pinned.checked.prog Rows.chartChecksRow.origin Rows.chartChecksRow.targs:=of_decide_eq_true (by kernel_rfl)
theorem wrap:Tryz.f5.isWrapper Tryz.pinned.checked.prog Rows.chartChecksRow.wrapper Rows.chartChecksRow.mainSum:=by unfold Func.isWrapper;first | (rw[if_pos (by decide +kernel)];kernel_rfl) | (rw[if_neg (by decide +kernel)];exact ⟨rfl,rfl⟩)
theorem said:Rows.ChartChecksSaid:=
 OpenClaim.holds_of_cond 5 Tryz.f5 rfl rfl rfl rfl rfl rfl rfl ⟨rfl,rfl,rfl,rfl,rfl⟩ rfl rfl rfl rfl rfl named Tryz.func5 facts inst wrap
  (fun os started H enc _ F=>by rw[OpenClaim.pre_eq_preRow];exact lifted os started H enc F)
theorem plain (f:FuncId) (fn:Func) (hf:Tryz.pinned.checked.prog.funcNamed "pneumatic/pneumaticlaw35.ChartChecks"=some f) (hfn:Tryz.pinned.checked.prog.funcs[f]?=some fn) :
  false=Tryz.pinned.checked.prog.looks []∧∀(j:Nat) t,fn.params[j]?=some t→Tryz.pinned.checked.prog.wantsStandIn t=false:=by
 obtain rfl:f=5:=Option.some.inj ((show Tryz.prog.funcNamed "pneumatic/pneumaticlaw35.ChartChecks"=some 5 by kernel_rfl).symm.trans hf) |>.symm
 obtain rfl:fn=Tryz.f5:=(Option.some.inj (Tryz.func5.symm.trans hfn)).symm
 refine ⟨by kernel_rfl,fun j t ht=>?_⟩
 rw[Tryz.params5] at ht
 have hm:∀t∈#[26],Tryz.prog.wantsStandIn t=false:=by decide +kernel
 exact hm t (asu ht)
theorem card:Rows.ChartChecksCardSaid:=
 Claim7.holds_tied_plain_at .later [] _ _ _ _ said (fun _ h=>by cases h) (by kernel_rfl) (fun _ h=>by cases h) chartChecks_row_tie rfl ⟨rfl,rfl⟩ (by kernel_rfl) rfl plain (by kernel_rfl)
end Go.Proofs.YteenedbiifampaaGreatDoor.chartChecks
