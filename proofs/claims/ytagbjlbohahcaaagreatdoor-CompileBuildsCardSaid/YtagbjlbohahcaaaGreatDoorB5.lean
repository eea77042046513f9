/- CompileBuilds, part 5 of its proof: declarations that the last part uses. -/
import Derived.Test.YtagbjlbohahcaaaGreatDoorB4
set_option maxHeartbeats 1000000
set_option maxRecDepth 4000
set_option linter.unusedSimpArgs false
set_option linter.unusedVariables false
set_option linter.unusedSectionVars false
namespace Go.Sx.Pe
open Go Go.Proofs Go.Sx.Pn
theorem aqg:av Tryz.prog 175 (bq (fun s:List UInt8=>[sA s]) (fun s=>s.length≤1000000) (fun s=>bP (jE s))):=by
 refine vF Tryz.func175 ?_
 rintro (s:List UInt8) hpre
 have hl:s.length≤1000000:=hpre
 have hz:=bY s
 refine fR (s.length) (fun k=>[(3,.s (iA k))]) (fun k=>[]) (fun k=>∀j,j<k→acd s j=false) (by exact (ai (ai (fun _=>rfl) (iE (by omega))) rfl)) (by exact trivial) ?_ ?_
 ·exact fun j hj=>absurd hj (aee _)
 intro (k:Nat) ⟨hk,hall⟩
 refine ah (p:=k<s.length) (by exact aB (by rw[hz];omega)) (fun h1=>?_) (fun h1=>?_)
 ·have i1:(strOf s)[((k:Nat):Int).toNat]?=some (s.getD k 0):=nI h1
  refine dR (.seq [0,1,2,3,4,5,6,7,8,9,10,11,12,13,14,15,16,17,18,19,20,21]) ?_
  refine ei (s.getD k 0) (ai (ai (aaT _) i1) ?_)
  refine bG (97≤(s.getD k 0).toNat) (fun g1=>?_) fun g1=>?_
  ·refine ei (s.getD k 0) (ai (ai (aaT _) i1) ?_)
   refine ei (s.getD k 0) (ai (ai (aaT _) i1) ?_)
   refine bG (65≤(s.getD k 0).toNat) (fun g2=>?_) fun g2=>?_
   ·refine ei (s.getD k 0) (ai (ai (aaT _) i1) ?_)
    refine bE (k=0) (fun g3=>?_) fun g3=>?_
    ·refine aC (b:=!decide ((((s.getD k 0).toNat:Nat):Int)≤122)) rfl (fun g4=>?_) (fun g4=>?_)
     ·have g4:¬((((s.getD k 0).toNat:Nat):Int)≤122):=by simpa using g4
      refine eN (bP (jE s)) ?_
      rw[qX h1 (nV.2 (by unfold nO;omega))]
      exact rfl
     ·have g4:(((s.getD k 0).toNat:Nat):Int)≤122:=by simpa using g4
      refine aC (b:=!decide ((((s.getD k 0).toNat:Nat):Int)≤122)) rfl (fun g4=>?_) (fun g4=>?_)
      ·have g5:¬((((s.getD k 0).toNat:Nat):Int)≤122):=by simpa using g4
       omega
      ·refine nX (k) (ai (ai (fun _=>rfl) (aH (by omega))) rfl) trivial ?_
       intro j hj
       by_cases e:j=k
       ·subst e;exact qZ (by unfold nO;omega)
       ·exact hall j (by omega)
    ·refine aC (b:=!decide ((((s.getD k 0).toNat:Nat):Int)≤122)) rfl (fun g4=>?_) (fun g4=>?_)
     ·have g4:¬((((s.getD k 0).toNat:Nat):Int)≤122):=by simpa using g4
      refine aC (b:=!decide ((((s.getD k 0).toNat:Nat):Int)≤90)) rfl (fun g6=>?_) (fun g6=>?_)
      ·refine ei (s.getD k 0) (ai (ai (aaT _) i1) ?_)
       refine bN ((s.getD k 0).toNat=95) (fun g5=>?_) fun g5=>?_
       ·refine ei (s.getD k 0) (ai (ai (aaT _) i1) ?_)
        refine bL ((s.getD k 0).toNat<48) (fun g6=>?_) fun g6=>?_
        ·refine eN (bP (jE s)) ?_
         rw[qX h1 (nV.2 (by unfold nO;omega))]
         exact rfl
        refine ei (s.getD k 0) (ai (ai (aaT _) i1) ?_)
        refine bL (57<(s.getD k 0).toNat) (fun g7=>?_) fun g7=>?_
        ·refine eN (bP (jE s)) ?_
         rw[qX h1 (nV.2 (by unfold nO;omega))]
         exact rfl
        ·refine nX (k) (ai (ai (fun _=>rfl) (aH (by omega))) rfl) trivial ?_
         intro j hj
         by_cases e:j=k
         ·subst e;exact qZ (by unfold nO;omega)
         ·exact hall j (by omega)
       ·refine nX (k) (ai (ai (fun _=>rfl) (aH (by omega))) rfl) trivial ?_
        intro j hj
        by_cases e:j=k
        ·subst e;exact qZ (by unfold nO;omega)
        ·exact hall j (by omega)
      ·have g7:(((s.getD k 0).toNat:Nat):Int)≤90:=by simpa using g6
       omega
     ·have g4:(((s.getD k 0).toNat:Nat):Int)≤122:=by simpa using g4
      refine nX (k) (ai (ai (fun _=>rfl) (aH (by omega))) rfl) trivial ?_
      intro j hj
      by_cases e:j=k
      ·subst e;exact qZ (by unfold nO;omega)
      ·exact hall j (by omega)
   ·omega
  ·refine ei (s.getD k 0) (ai (ai (aaT _) i1) ?_)
   refine bG (65≤(s.getD k 0).toNat) (fun g2=>?_) fun g2=>?_
   ·refine ei (s.getD k 0) (ai (ai (aaT _) i1) ?_)
    refine bE (k=0) (fun g3=>?_) fun g3=>?_
    ·refine eN (bP (jE s)) ?_
     rw[qX h1 (nV.2 (by unfold nO;omega))]
     exact rfl
    ·refine aC (b:=!decide ((((s.getD k 0).toNat:Nat):Int)≤90)) rfl (fun g6=>?_) (fun g6=>?_)
     ·have g6:¬((((s.getD k 0).toNat:Nat):Int)≤90):=by simpa using g6
      refine ei (s.getD k 0) (ai (ai (aaT _) i1) ?_)
      refine bN ((s.getD k 0).toNat=95) (fun g5=>?_) fun g5=>?_
      ·refine ei (s.getD k 0) (ai (ai (aaT _) i1) ?_)
       refine bL ((s.getD k 0).toNat<48) (fun g6=>?_) fun g6=>?_
       ·refine eN (bP (jE s)) ?_
        rw[qX h1 (nV.2 (by unfold nO;omega))]
        exact rfl
       refine ei (s.getD k 0) (ai (ai (aaT _) i1) ?_)
       refine bL (57<(s.getD k 0).toNat) (fun g7=>?_) fun g7=>?_
       ·refine eN (bP (jE s)) ?_
        rw[qX h1 (nV.2 (by unfold nO;omega))]
        exact rfl
       ·refine nX (k) (ai (ai (fun _=>rfl) (aH (by omega))) rfl) trivial ?_
        intro j hj
        by_cases e:j=k
        ·subst e;exact qZ (by unfold nO;omega)
        ·exact hall j (by omega)
      ·refine nX (k) (ai (ai (fun _=>rfl) (aH (by omega))) rfl) trivial ?_
       intro j hj
       by_cases e:j=k
       ·subst e;exact qZ (by unfold nO;omega)
       ·exact hall j (by omega)
     ·have g6:(((s.getD k 0).toNat:Nat):Int)≤90:=by simpa using g6
      refine nX (k) (ai (ai (fun _=>rfl) (aH (by omega))) rfl) trivial ?_
      intro j hj
      by_cases e:j=k
      ·subst e;exact qZ (by unfold nO;omega)
      ·exact hall j (by omega)
   ·refine bE (k=0) (fun g3=>?_) fun g3=>?_
    ·refine eN (bP (jE s)) ?_
     rw[qX h1 (nV.2 (by unfold nO;omega))]
     exact rfl
    ·refine ei (s.getD k 0) (ai (ai (aaT _) i1) ?_)
     refine bN ((s.getD k 0).toNat=95) (fun g5=>?_) fun g5=>?_
     ·refine ei (s.getD k 0) (ai (ai (aaT _) i1) ?_)
      refine bL ((s.getD k 0).toNat<48) (fun g6=>?_) fun g6=>?_
      ·refine eN (bP (jE s)) ?_
       rw[qX h1 (nV.2 (by unfold nO;omega))]
       exact rfl
      refine ei (s.getD k 0) (ai (ai (aaT _) i1) ?_)
      refine bL (57<(s.getD k 0).toNat) (fun g7=>?_) fun g7=>?_
      ·refine eN (bP (jE s)) ?_
       rw[qX h1 (nV.2 (by unfold nO;omega))]
       exact rfl
      ·refine nX (k) (ai (ai (fun _=>rfl) (aH (by omega))) rfl) trivial ?_
       intro j hj
       by_cases e:j=k
       ·subst e;exact qZ (by unfold nO;omega)
       ·exact hall j (by omega)
     ·refine nX (k) (ai (ai (fun _=>rfl) (aH (by omega))) rfl) trivial ?_
      intro j hj
      by_cases e:j=k
      ·subst e;exact qZ (by unfold nO;omega)
      ·exact hall j (by omega)
 ·obtain rfl:k=s.length:=by omega
  refine ai (ai (fun _=>trivial) ?_) trivial
  show (!((strOf s).data.toList==(ByteArray.empty).data.toList))=jE s
  rw[aqG hall]
  cases s<;>rfl
theorem aaj {p:Nat→Bool} {n k:Nat} (hk:k<n) (h:p k=true):(List.range n).any p=true:=amb.2 ⟨k,aup.2 hk,h⟩
theorem any_none {p:Nat→Bool} {n:Nat} (h:∀k,k<n→p k=false):(List.range n).any p=false:=ar6.2 fun k hk=>by rw[h k (aup.1 hk)];decide
def aiI (a:bC×Nat):Prop:=aj4 a∧(∀x∈a.1.ins,x.length≤1000000)∧∀x∈a.1.sgs,x.nm.length≤1000000
theorem arj {c:bC} {n:Nat} (h:aiI (c,n)):(dZ c n).length≤1000000:=by
 unfold dZ
 split
 ·show 2≤1000000;decide
 split
 ·rename_i h1
  by_cases h2:n-2*c.act.toNat<c.ins.length
  ·exact h.2.1 _ (aay (bB [] h2))
  ·rw[aai,awG (by omega)];exact ah8 _
 ·by_cases h2:n-2*c.act.toNat-c.ins.length<c.sgs.length
  ·exact h.2.2 _ (aay (bB ak h2))
  ·rw[aai,awG (by omega)];exact ah8 _
theorem ahK:av Tryz.prog 118 (bq (fun a:bC×Nat=>[rQ a.1,iA a.2]) aiI (fun a=>iP (kK a.1 a.2))):=by
 refine vF Tryz.func118 ?_
 rintro ⟨c,n⟩ hpre
 have hp:aiI (c,n):=hpre
 have hn:(n:Int)<2*c.act+c.ins.length+c.sgs.length:=hp.1.2.2
 have h4:c.sgs.length≤1000000:=hp.1.1.2.2
 have h3:c.ins.length≤1000000:=hp.1.1.2.1
 have h2:c.act≤6:=hp.1.2.1
 have hlen:=arj hp
 refine cK (ahQ) ((c,n)) (by exact (ai (ai rfl (ai (ai rfl (fun _ _=>rfl)) (ai (ai rfl (fun _ _=>rfl)) (ai (ai rfl (fun _ _=>rfl)) (ai rfl (fun _ _=>rfl)))))) rfl)) (hp.1) ?_
 refine cK (aqg) (dZ c n) (by exact rfl) (hlen) ?_
 refine aC (b:=!jE (dZ c n)) rfl (fun h5=>?_) (fun h5=>?_)
 ·refine eN (iP (kK c n)) ?_
  rw[kK,if_pos h5]
  exact rfl
 refine ah (p:=24<(dZ c n).length) (by exact aB (show (24:Int)<(((strOf (dZ c n)).size:Nat):Int)↔24<(dZ c n).length by rw[bY];omega)) (fun h6=>?_) (fun h6=>?_)
 ·refine eN (iP (kK c n)) ?_
  rw[kK,if_neg (show ¬(!jE (dZ c n))=true by rw[h5];decide),if_pos h6]
  exact rfl
 have hA:kK c n=if (List.range n).any (fun i=>dZ c i==dZ c n) then 7 else 0:=by unfold kK;rw[if_neg (show ¬(!jE (dZ c n))=true by rw[h5];decide),if_neg h6]
 refine fR (n) (fun k=>[(6,.s (iA k))]) (fun k=>[]) (fun k=>∀j,j<k→(dZ c j==dZ c n)=false) (by exact (ai (ai (fun _=>rfl) (iE (by omega))) rfl)) (by exact trivial) ?_ ?_
 ·exact fun j hj=>absurd hj (aee _)
 intro (k:Nat) ⟨hk,hall⟩
 refine bL (k<n) (fun h7=>?_) fun h7=>?_
 ·refine cK (ahQ) ((c,k)) (by exact (ai (ai rfl (ai (ai rfl (fun _ _=>rfl)) (ai (ai rfl (fun _ _=>rfl)) (ai (ai rfl (fun _ _=>rfl)) (ai rfl (fun _ _=>rfl)))))) rfl)) (⟨hp.1.1,hp.1.2.1,by show (k:Int)<2*c.act+c.ins.length+c.sgs.length;omega⟩) ?_
  refine aC (b:=dZ c k==dZ c n) rfl (fun h8=>?_) (fun h8=>?_)
  ·refine eN (iP (kK c n)) ?_
   rw[hA,if_pos (aaj h7 h8)]
   exact rfl
  refine nX (k) (ai (ai (fun _=>rfl) (aH (by omega))) rfl) trivial ?_
  intro j hj
  by_cases e:j=k
  ·subst e;exact h8
  ·exact hall j (by omega)
 ·obtain rfl:k=n:=by omega
  refine eN (iP (kK c k)) ?_
  rw[hA,if_neg (show ¬(List.range k).any (fun i=>dZ c i==dZ c k)=true by rw[any_none hall];decide)]
  exact rfl
theorem aa4 (v:Int) (x:Ex):qO v x=if x.op=1 then x.idx==v else x.args.any (qO v):=by
 have key:∀l:List Ex,aiC v l=l.any (qO v):=by
  intro l
  induction l with
  | nil=>rfl
  | cons x l ih=>rw[aiC,ih];rfl
 cases x with
 | node o i l=>
  rw[qO,key]
def awg (n:Nat):Spec:=bq (fun a:Ex×Int=>[iV a.1,iA a.2]) (fun a=>a.1.size≤1000000∧a.1.size≤n) (fun a=>bP (qO a.2 a.1))
theorem ar3:∀n,av Tryz.prog 224 (awg n)
 | 0=>by
  refine vF Tryz.func224 ?_
  rintro (a:Ex×Int) hpre
  have:=size_pos a.1
  exact absurd hpre.2 (by show ¬a.1.size≤0;omega)
 | n+1=>by
  have ih:=ar3 n
  refine vF Tryz.func224 ?_
  rintro (a:Ex×Int) hpre
  obtain ⟨hs,hn⟩:=hpre
  have hs:a.1.size≤1000000:=hs
  have hn:a.1.size≤n+1:=hn
  have hsz:=a.1.size_eq
  have hal:=oO a.1.args
  have hE:=aa4 a.2 a.1
  refine bE (a.1.op=1) (fun h1=>?_) fun h1=>?_
  ·refine eN (bP (qO a.2 a.1)) ?_
   rw[hE,if_pos h1]
   exact rfl
  rw[if_neg h1] at hE
  refine fR (a.1.args.length) (fun k=>[(5,.s (iA k))]) (fun k=>[]) (fun k=>∀y∈a.1.args.take k,qO a.2 y=false) (by exact (ai (ai (fun _=>rfl) (iE (by omega))) rfl)) (by exact trivial) ?_ ?_
  ·exact fun y hy=>absurd hy (by simp)
  intro (k:Nat) ⟨hk,hall⟩
  refine bL (k<a.1.args.length) (fun h2=>?_) fun h2=>?_
  ·refine iX (k) (a.1.args.length) ?_
   have hm:=aay (bB bD h2)
   have hms:=iQ hm
   refine cK (ih) ((a.1.args.getD k bD,a.2)) (by exact (ai (ai (iE (by simp only[zz,reduceCtorEq])) (ai (iE (by simp only[zz,reduceCtorEq])) (ai rfl (uX _)))) rfl)) (⟨by show (a.1.args.getD k bD).size≤1000000;omega,by show (a.1.args.getD k bD).size≤n;omega⟩) ?_
   refine aC (b:=qO a.2 (a.1.args.getD k bD)) rfl (fun h3=>?_) (fun h3=>?_)
   ·refine eN (bP (qO a.2 a.1)) ?_
    rw[hE,show a.1.args.any (qO a.2)=true from amb.2 ⟨_,hm,h3⟩]
    exact rfl
   refine nX (k) (ai (ai (fun _=>rfl) (aH (by omega))) rfl) trivial ?_
   intro y hy
   rw[aO bD h2] at hy
   rcases acw.1 hy with hy | hy
   ·exact hall y hy
   ·simp only[acC] at hy;subst hy;exact h3
  ·obtain rfl:k=a.1.args.length:=by omega
   rw[acr] at hall
   refine eN (bP (qO a.2 a.1)) ?_
   rw[hE,show a.1.args.any (qO a.2)=false from ar6.2 fun y hy=>by rw[hall y hy];decide]
   exact rfl
theorem auv:av Tryz.prog 224 (bq (fun a:Ex×Int=>[iV a.1,iA a.2]) (fun a=>a.1.size≤1000000) (fun a=>bP (qO a.2 a.1))):=lV (fun a=>a.1.size) ar3
def aub (a:bC×Nat):Prop:=(kQ a.1∧a.1.act≤6)∧anI a.1∧a.2<a.1.sgs.length
theorem aj1:av Tryz.prog 177 (bq (fun a:bC×Nat=>[rQ a.1,iA a.2]) aub (fun a=>bP (qN a.1 a.2))):=by
 refine vF Tryz.func177 ?_
 rintro ⟨c,i⟩ hpre
 obtain ⟨⟨hs,h6⟩,ho,hi⟩:=hpre
 have hs0:=hs
 obtain ⟨⟨h1,h2⟩,h3,h4⟩:=hs
 have h1:0≤c.act:=h1
 have h6:c.act≤6:=h6
 have h3:c.ins.length≤1000000:=h3
 have h4:c.sgs.length≤1000000:=h4
 have hi:i<c.sgs.length:=hi
 have hos:=(ho.1 _ (aay (bB ak hi))).1
 refine ei (mD.inv { X:=Nat,up:=fun k=>[(5,.s (iA (k:Nat)))],uo:=fun _=>[],inv:=fun k=>i≤k∧k≤c.sgs.length∧∀j,j<k→acS c i j=false,meas:=fun k=>c.sgs.length-k,x0:=i }) ?_
 refine ai (ai (ai (by exact (a4 (ai rfl rfl))) (ai ?_ ?_)) ?_) (ai ?_ ?_)
 ·exact (ai (ai nof rfl) rfl)
 ·exact trivial
 ·rfl
 ·refine ⟨acn _,(show i≤c.sgs.length by omega),fun j hj=>?_⟩
  have hj:j<i:=hj
  unfold acS;rw[decide_eq_false (by omega)];rfl
 rintro (k:Nat) ⟨hik,hk,hall⟩
 have hik:i≤k:=hik
 have hk:k≤c.sgs.length:=hk
 refine ah (p:=k<c.sgs.length) (aB (by dsimp only;omega)) (fun g1=>?_) (fun g1=>?_)
 ·refine dR (.seq [0,1,2,3,4,5,6,7,8,9,10,11,12,13,14,16,15,17,18,19]) ?_
  refine iX (k) (c.sgs.length) ?_
  refine aC (b:=(c.sgs.getD k ak).kd==0) rfl (fun g2=>?_) (fun g2=>?_)
  ·refine iX (i) (c.sgs.length) ?_
   refine cK (adS) (c) (by exact (ai rfl (ai (ai rfl (fun _ _=>rfl)) (ai (ai rfl (fun _ _=>rfl)) (ai (ai rfl (fun _ _=>rfl)) (ai rfl (fun _ _=>rfl))))))) (hs0) ?_
   refine ei _ (ai (auv) (ei (((c.sgs.getD i ak).on,bU c+(k:Int))) (ei [] (ai (a4 (ai (fun _=>Or.inl rfl) (ai nof (Or.inl rfl)))) (ai ?_ (ai (by exact trivial) (ai (hos) ?_)))))))
   ·refine (ai (ai (iE (by simp only[zz,reduceCtorEq])) (ai (iE (by simp only[zz,reduceCtorEq])) (ai rfl (fun _ _=>rfl)))) ?_)
    exact dD (by unfold bU;omega) (by unfold bU;omega)
   refine aC (b:=qO (bU c+(k:Int)) (c.sgs.getD i ak).on) rfl (fun g3=>?_) (fun g3=>?_)
   ·refine eN (bP (qN c i)) ?_
    rw[show qN c i=true from aaj g1 (by unfold acS;rw[decide_eq_true hik,g2,g3];rfl)]
    exact rfl
   refine ei ((k+1)) (ai (ai rfl rfl) (ai (ai ?_ rfl) (ai ?_ ?_)))
   ·exact (ai rfl (ai (ai rfl rfl) (ai (ai rfl rfl) (ai (ai (ai (fun _=>rfl) (aH (by omega))) rfl) trivial))))
   ·refine ⟨by show i≤k+1;omega,by show k+1≤c.sgs.length;omega,fun j hj=>?_⟩
    by_cases e:j=k
    ·subst e;unfold acS;rw[g3];simp
    ·exact hall j (by omega)
   ·show c.sgs.length-(k+1)<c.sgs.length-k;omega
  ·refine ei ((k+1)) (ai (ai rfl rfl) (ai (ai ?_ rfl) (ai ?_ ?_)))
   ·exact (ai rfl (ai (ai rfl rfl) (ai (ai rfl rfl) (ai (ai (ai (fun _=>rfl) (aH (by omega))) rfl) trivial))))
   ·refine ⟨by show i≤k+1;omega,by show k+1≤c.sgs.length;omega,fun j hj=>?_⟩
    by_cases e:j=k
    ·subst e;unfold acS;rw[g2];simp
    ·exact hall j (by omega)
   ·show c.sgs.length-(k+1)<c.sgs.length-k;omega
 ·obtain rfl:k=c.sgs.length:=by omega
  refine eN (bP (qN c i)) ?_
  rw[show qN c i=false from any_none hall]
  exact rfl
def aby (c:bC):Prop:=(kQ c∧c.act≤6)∧anI c∧(∀x∈c.ins,x.length≤1000000)∧∀x∈c.sgs,x.nm.length≤1000000
theorem asc {c:bC} (h:aby c) {n:Nat} (hn:(n:Int)<dx c):aiI (c,n):=⟨⟨h.1.1,h.1.2,hn⟩,h.2.2⟩
theorem amS:av Tryz.prog 119 (bq (fun a:bC×Nat=>[rQ a.1,iA a.2]) (fun a=>aby a.1∧a.2<a.1.sgs.length) (fun a=>iP (aT a.1 a.2))):=by
 refine vF Tryz.func119 ?_
 rintro ⟨c,i⟩ hpre
 obtain ⟨hgd,hi⟩:=hpre
 have hgd:aby c:=hgd
 have hi:i<c.sgs.length:=hi
 have hs0:kQ c:=hgd.1.1
 have h1:0≤c.act:=hs0.1.1
 have h6:c.act≤6:=hgd.1.2
 have h3:c.ins.length≤1000000:=hs0.2.1
 have h4:c.sgs.length≤1000000:=hs0.2.2
 have hlN:dx c=2*c.act+c.ins.length+c.sgs.length:=rfl
 have hsN:bU c=2*c.act+c.ins.length:=rfl
 refine iX (i) (c.sgs.length) ?_
 refine dR (.seq [0,1,3,2,4,5,6]) ?_
 refine cK (adS) (c) (by exact (ai rfl (ai (ai rfl (fun _ _=>rfl)) (ai (ai rfl (fun _ _=>rfl)) (ai (ai rfl (fun _ _=>rfl)) (ai rfl (fun _ _=>rfl))))))) (hs0) ?_
 refine ei _ (ai (ahK) (ei ((c,2*c.act.toNat+c.ins.length+i)) (ei [] (ai (a4 (ai (fun _=>Or.inl rfl) (ai nof (Or.inl rfl)))) (ai ?_ (ai (by exact trivial) (ai (asc hgd (by rw[hlN];omega)) ?_)))))))
 ·refine (ai (ai rfl (ai (ai rfl (fun _ _=>rfl)) (ai (ai rfl (fun _ _=>rfl)) (ai (ai rfl (fun _ _=>rfl)) (ai rfl (fun _ _=>rfl)))))) ?_)
  show IntKind.i64.wrap (bU c+(i:Int))=((2*c.act.toNat+c.ins.length+i:Nat):Int)
  rw[dD (by omega) (by omega),hsN];omega
 refine aW (p:=kK c (2*c.act.toNat+c.ins.length+i)=0) (bR (by dsimp only;omega)) (fun n1=>?_) (fun n1=>?_)
 ·refine eN (iP (aT c i)) ?_
  rw[aT,if_pos n1]
  exact rfl
 have n1:¬¬kK c (2*c.act.toNat+c.ins.length+i)=0:=fun h=>h n1
 refine ah (p:=(c.sgs.getD i ak).kd<0) (aB Iff.rfl) (fun g1=>?_) (fun g1=>?_)
 ·refine eN (iP (aT c i)) ?_
  rw[aT,if_neg n1,if_pos (.inl g1)]
  exact rfl
 refine ah (p:=3≤(c.sgs.getD i ak).kd) (fV Iff.rfl) (fun g2=>?_) (fun g2=>?_)
 ·refine eN (iP (aT c i)) ?_
  rw[aT,if_neg n1,if_pos (.inr g2)]
  exact rfl
 have n2:¬((c.sgs.getD i ak).kd<0∨3≤(c.sgs.getD i ak).kd):=fun h=>h.elim g1 g2
 refine dR (.seq [0,1,2,3,4,5]) ?_
 refine cK (adJ) (c) (by exact (ai rfl (ai (ai rfl (fun _ _=>rfl)) (ai (ai rfl (fun _ _=>rfl)) (ai (ai rfl (fun _ _=>rfl)) (ai rfl (fun _ _=>rfl))))))) (hs0) ?_
 refine cK (ac5) (((c.sgs.getD i ak).on,dx c)) (by exact (ai (ai (iE (by simp only[zz,reduceCtorEq])) (ai (iE (by simp only[zz,reduceCtorEq])) (ai rfl (fun _ _=>rfl)))) rfl)) (trivial) ?_
 refine aW (p:=bf (c.sgs.getD i ak).on (dx c)=0) (bR (by dsimp only;omega)) (fun n3=>?_) (fun n3=>?_)
 ·refine eN (iP (aT c i)) ?_
  rw[aT,if_neg n1,if_neg n2,if_pos n3]
  exact rfl
 have n3:¬¬bf (c.sgs.getD i ak).on (dx c)=0:=fun h=>h n3
 refine dR (.seq [0,1,2,3,4,5,6,7]) ?_
 refine aC (b:=(c.sgs.getD i ak).kd==1) rfl (fun g3=>?_) (fun g3=>?_)
 ·have g3:(c.sgs.getD i ak).kd=1:=by simpa using g3
  refine dR (.seq [0,1,2,3,4,5]) ?_
  refine cK (adJ) (c) (by exact (ai rfl (ai (ai rfl (fun _ _=>rfl)) (ai (ai rfl (fun _ _=>rfl)) (ai (ai rfl (fun _ _=>rfl)) (ai rfl (fun _ _=>rfl))))))) (hs0) ?_
  refine cK (ac5) (((c.sgs.getD i ak).off,dx c)) (by exact (ai (ai (iE (by simp only[zz,reduceCtorEq])) (ai (iE (by simp only[zz,reduceCtorEq])) (ai rfl (fun _ _=>rfl)))) rfl)) (trivial) ?_
  refine aW (p:=bf (c.sgs.getD i ak).off (dx c)=0) (bR (by dsimp only;omega)) (fun n4=>?_) (fun n4=>?_)
  ·refine eN (iP (aT c i)) ?_
   rw[aT,if_neg n1,if_neg n2,if_neg n3,if_pos ⟨g3,n4⟩]
   exact rfl
  have n4:¬((c.sgs.getD i ak).kd=1∧¬bf (c.sgs.getD i ak).off (dx c)=0):=fun h=>h.2 n4
  have hA:aT c i=if (c.sgs.getD i ak).kd=0∧qN c i=true then 9
   else if (c.sgs.getD i ak).kd=2∧((c.sgs.getD i ak).dl<1∨1000000<(c.sgs.getD i ak).dl) then 2
   else if (¬(c.sgs.getD i ak).kd=1∧(bK (c.sgs.getD i ak).off=false∨(c.sgs.getD i ak).ini=true))∨(¬(c.sgs.getD i ak).kd=2∧¬(c.sgs.getD i ak).dl=0) then 3 else 0:=by
   rw[aT,if_neg n1,if_neg n2,if_neg n3,if_neg n4]
  refine ah (p:=(c.sgs.getD i ak).kd=0) (by simp only[zz,reduceCtorEq]) (fun g5=>?_) (fun g5=>?_)
  ·refine cK (aj1) ((c,i)) (by exact (ai (ai rfl (ai (ai rfl (fun _ _=>rfl)) (ai (ai rfl (fun _ _=>rfl)) (ai (ai rfl (fun _ _=>rfl)) (ai rfl (fun _ _=>rfl)))))) rfl)) (⟨hgd.1,hgd.2.1,hi⟩) ?_
   refine aC (b:=qN c i) rfl (fun g6=>?_) (fun g6=>?_)
   ·refine eN (iP (aT c i)) ?_
    rw[hA,if_pos ⟨g5,g6⟩]
    exact rfl
   have n5:¬((c.sgs.getD i ak).kd=0∧qN c i=true):=fun h=>by rw[g6] at h;cases h.2
   refine aC (b:=(c.sgs.getD i ak).kd==2) rfl (fun g7=>?_) (fun g7=>?_)
   ·have g7:(c.sgs.getD i ak).kd=2:=by simpa using g7
    refine bL ((c.sgs.getD i ak).dl<1) (fun g8=>?_) fun g8=>?_
    ·refine eN (iP (aT c i)) ?_
     rw[hA,if_neg n5,if_pos ⟨g7,.inl g8⟩]
     exact rfl
    refine bL (1000000<(c.sgs.getD i ak).dl) (fun g9=>?_) fun g9=>?_
    ·refine eN (iP (aT c i)) ?_
     rw[hA,if_neg n5,if_pos ⟨g7,.inr g9⟩]
     exact rfl
    have n6:¬((c.sgs.getD i ak).kd=2∧((c.sgs.getD i ak).dl<1∨1000000<(c.sgs.getD i ak).dl)):=fun h=>h.2.elim g8 g9
    refine aC (b:=!((c.sgs.getD i ak).kd==1)) rfl (fun g10=>?_) (fun g10=>?_)
    ·have k1:¬(c.sgs.getD i ak).kd=1:=by simpa using g10
     refine cK (qM) ((c.sgs.getD i ak).off) (by exact (ai (iE (by simp only[zz,reduceCtorEq])) (ai (iE (by simp only[zz,reduceCtorEq])) (ai rfl (fun _ _=>rfl))))) (trivial) ?_
     refine aC (b:=!bK (c.sgs.getD i ak).off) rfl (fun g11=>?_) (fun g11=>?_)
     ·have g11:bK (c.sgs.getD i ak).off=false:=by simpa using g11
      refine eN (iP (aT c i)) ?_
      rw[hA,if_neg n5,if_neg n6,if_pos (.inl ⟨k1,.inl g11⟩)]
      exact rfl
     have g11:bK (c.sgs.getD i ak).off=true:=by simpa using g11
     refine aC (b:=(c.sgs.getD i ak).ini) rfl (fun g12=>?_) (fun g12=>?_)
     ·refine eN (iP (aT c i)) ?_
      rw[hA,if_neg n5,if_neg n6,if_pos (.inl ⟨k1,.inr g12⟩)]
      exact rfl
     have m7:¬(¬(c.sgs.getD i ak).kd=1∧(bK (c.sgs.getD i ak).off=false∨(c.sgs.getD i ak).ini=true)):=fun h=>h.2.elim (fun e=>by rw[g11] at e;cases e) (fun e=>by rw[g12] at e;cases e)
     refine aC (b:=!((c.sgs.getD i ak).kd==2)) rfl (fun g13=>?_) (fun g13=>?_)
     ·have g13:¬(c.sgs.getD i ak).kd=2:=by simpa using g13
      refine bN ((c.sgs.getD i ak).dl=0) (fun g14=>?_) fun g14=>?_
      ·refine eN (iP (aT c i)) ?_
       rw[hA,if_neg n5,if_neg n6,if_pos (.inr ⟨g13,g14⟩)]
       exact rfl
      ·refine eN (iP (aT c i)) ?_
       rw[hA,if_neg n5,if_neg n6,if_neg (fun h=>h.elim m7 fun h=>h.2 g14)]
       exact rfl
     ·have g13:(c.sgs.getD i ak).kd=2:=by simpa using g13
      refine eN (iP (aT c i)) ?_
      rw[hA,if_neg n5,if_neg n6,if_neg (fun h=>h.elim m7 fun h=>h.1 g13)]
      exact rfl
    ·have k1:(c.sgs.getD i ak).kd=1:=by simpa using g10
     have m7:¬(¬(c.sgs.getD i ak).kd=1∧(bK (c.sgs.getD i ak).off=false∨(c.sgs.getD i ak).ini=true)):=fun h=>h.1 k1
     refine aC (b:=!((c.sgs.getD i ak).kd==2)) rfl (fun g13=>?_) (fun g13=>?_)
     ·have g13:¬(c.sgs.getD i ak).kd=2:=by simpa using g13
      refine bN ((c.sgs.getD i ak).dl=0) (fun g14=>?_) fun g14=>?_
      ·refine eN (iP (aT c i)) ?_
       rw[hA,if_neg n5,if_neg n6,if_pos (.inr ⟨g13,g14⟩)]
       exact rfl
      ·refine eN (iP (aT c i)) ?_
       rw[hA,if_neg n5,if_neg n6,if_neg (fun h=>h.elim m7 fun h=>h.2 g14)]
       exact rfl
     ·have g13:(c.sgs.getD i ak).kd=2:=by simpa using g13
      refine eN (iP (aT c i)) ?_
      rw[hA,if_neg n5,if_neg n6,if_neg (fun h=>h.elim m7 fun h=>h.1 g13)]
      exact rfl
   ·have n6:¬((c.sgs.getD i ak).kd=2∧((c.sgs.getD i ak).dl<1∨1000000<(c.sgs.getD i ak).dl)):=fun h=>by rw[h.1] at g7;cases g7
    refine aC (b:=!((c.sgs.getD i ak).kd==1)) rfl (fun g10=>?_) (fun g10=>?_)
    ·have k1:¬(c.sgs.getD i ak).kd=1:=by simpa using g10
     refine cK (qM) ((c.sgs.getD i ak).off) (by exact (ai (iE (by simp only[zz,reduceCtorEq])) (ai (iE (by simp only[zz,reduceCtorEq])) (ai rfl (fun _ _=>rfl))))) (trivial) ?_
     refine aC (b:=!bK (c.sgs.getD i ak).off) rfl (fun g11=>?_) (fun g11=>?_)
     ·have g11:bK (c.sgs.getD i ak).off=false:=by simpa using g11
      refine eN (iP (aT c i)) ?_
      rw[hA,if_neg n5,if_neg n6,if_pos (.inl ⟨k1,.inl g11⟩)]
      exact rfl
     have g11:bK (c.sgs.getD i ak).off=true:=by simpa using g11
     refine aC (b:=(c.sgs.getD i ak).ini) rfl (fun g12=>?_) (fun g12=>?_)
     ·refine eN (iP (aT c i)) ?_
      rw[hA,if_neg n5,if_neg n6,if_pos (.inl ⟨k1,.inr g12⟩)]
      exact rfl
     have m7:¬(¬(c.sgs.getD i ak).kd=1∧(bK (c.sgs.getD i ak).off=false∨(c.sgs.getD i ak).ini=true)):=fun h=>h.2.elim (fun e=>by rw[g11] at e;cases e) (fun e=>by rw[g12] at e;cases e)
     refine aC (b:=!((c.sgs.getD i ak).kd==2)) rfl (fun g13=>?_) (fun g13=>?_)
     ·have g13:¬(c.sgs.getD i ak).kd=2:=by simpa using g13
      refine bN ((c.sgs.getD i ak).dl=0) (fun g14=>?_) fun g14=>?_
      ·refine eN (iP (aT c i)) ?_
       rw[hA,if_neg n5,if_neg n6,if_pos (.inr ⟨g13,g14⟩)]
       exact rfl
      ·refine eN (iP (aT c i)) ?_
       rw[hA,if_neg n5,if_neg n6,if_neg (fun h=>h.elim m7 fun h=>h.2 g14)]
       exact rfl
     ·have g13:(c.sgs.getD i ak).kd=2:=by simpa using g13
      refine eN (iP (aT c i)) ?_
      rw[hA,if_neg n5,if_neg n6,if_neg (fun h=>h.elim m7 fun h=>h.1 g13)]
      exact rfl
    ·have k1:(c.sgs.getD i ak).kd=1:=by simpa using g10
     have m7:¬(¬(c.sgs.getD i ak).kd=1∧(bK (c.sgs.getD i ak).off=false∨(c.sgs.getD i ak).ini=true)):=fun h=>h.1 k1
     refine aC (b:=!((c.sgs.getD i ak).kd==2)) rfl (fun g13=>?_) (fun g13=>?_)
     ·have g13:¬(c.sgs.getD i ak).kd=2:=by simpa using g13
      refine bN ((c.sgs.getD i ak).dl=0) (fun g14=>?_) fun g14=>?_
      ·refine eN (iP (aT c i)) ?_
       rw[hA,if_neg n5,if_neg n6,if_pos (.inr ⟨g13,g14⟩)]
       exact rfl
      ·refine eN (iP (aT c i)) ?_
       rw[hA,if_neg n5,if_neg n6,if_neg (fun h=>h.elim m7 fun h=>h.2 g14)]
       exact rfl
     ·have g13:(c.sgs.getD i ak).kd=2:=by simpa using g13
      refine eN (iP (aT c i)) ?_
      rw[hA,if_neg n5,if_neg n6,if_neg (fun h=>h.elim m7 fun h=>h.1 g13)]
      exact rfl
  ·have n5:¬((c.sgs.getD i ak).kd=0∧qN c i=true):=fun h=>g5 h.1
   refine aC (b:=(c.sgs.getD i ak).kd==2) rfl (fun g7=>?_) (fun g7=>?_)
   ·have g7:(c.sgs.getD i ak).kd=2:=by simpa using g7
    refine bL ((c.sgs.getD i ak).dl<1) (fun g8=>?_) fun g8=>?_
    ·refine eN (iP (aT c i)) ?_
     rw[hA,if_neg n5,if_pos ⟨g7,.inl g8⟩]
     exact rfl
    refine bL (1000000<(c.sgs.getD i ak).dl) (fun g9=>?_) fun g9=>?_
    ·refine eN (iP (aT c i)) ?_
     rw[hA,if_neg n5,if_pos ⟨g7,.inr g9⟩]
     exact rfl
    have n6:¬((c.sgs.getD i ak).kd=2∧((c.sgs.getD i ak).dl<1∨1000000<(c.sgs.getD i ak).dl)):=fun h=>h.2.elim g8 g9
    refine aC (b:=!((c.sgs.getD i ak).kd==1)) rfl (fun g10=>?_) (fun g10=>?_)
    ·have k1:¬(c.sgs.getD i ak).kd=1:=by simpa using g10
     refine cK (qM) ((c.sgs.getD i ak).off) (by exact (ai (iE (by simp only[zz,reduceCtorEq])) (ai (iE (by simp only[zz,reduceCtorEq])) (ai rfl (fun _ _=>rfl))))) (trivial) ?_
     refine aC (b:=!bK (c.sgs.getD i ak).off) rfl (fun g11=>?_) (fun g11=>?_)
     ·have g11:bK (c.sgs.getD i ak).off=false:=by simpa using g11
      refine eN (iP (aT c i)) ?_
      rw[hA,if_neg n5,if_neg n6,if_pos (.inl ⟨k1,.inl g11⟩)]
      exact rfl
     have g11:bK (c.sgs.getD i ak).off=true:=by simpa using g11
     refine aC (b:=(c.sgs.getD i ak).ini) rfl (fun g12=>?_) (fun g12=>?_)
     ·refine eN (iP (aT c i)) ?_
      rw[hA,if_neg n5,if_neg n6,if_pos (.inl ⟨k1,.inr g12⟩)]
      exact rfl
     have m7:¬(¬(c.sgs.getD i ak).kd=1∧(bK (c.sgs.getD i ak).off=false∨(c.sgs.getD i ak).ini=true)):=fun h=>h.2.elim (fun e=>by rw[g11] at e;cases e) (fun e=>by rw[g12] at e;cases e)
     refine aC (b:=!((c.sgs.getD i ak).kd==2)) rfl (fun g13=>?_) (fun g13=>?_)
     ·have g13:¬(c.sgs.getD i ak).kd=2:=by simpa using g13
      refine bN ((c.sgs.getD i ak).dl=0) (fun g14=>?_) fun g14=>?_
      ·refine eN (iP (aT c i)) ?_
       rw[hA,if_neg n5,if_neg n6,if_pos (.inr ⟨g13,g14⟩)]
       exact rfl
      ·refine eN (iP (aT c i)) ?_
       rw[hA,if_neg n5,if_neg n6,if_neg (fun h=>h.elim m7 fun h=>h.2 g14)]
       exact rfl
     ·have g13:(c.sgs.getD i ak).kd=2:=by simpa using g13
      refine eN (iP (aT c i)) ?_
      rw[hA,if_neg n5,if_neg n6,if_neg (fun h=>h.elim m7 fun h=>h.1 g13)]
      exact rfl
    ·have k1:(c.sgs.getD i ak).kd=1:=by simpa using g10
     have m7:¬(¬(c.sgs.getD i ak).kd=1∧(bK (c.sgs.getD i ak).off=false∨(c.sgs.getD i ak).ini=true)):=fun h=>h.1 k1
     refine aC (b:=!((c.sgs.getD i ak).kd==2)) rfl (fun g13=>?_) (fun g13=>?_)
     ·have g13:¬(c.sgs.getD i ak).kd=2:=by simpa using g13
      refine bN ((c.sgs.getD i ak).dl=0) (fun g14=>?_) fun g14=>?_
      ·refine eN (iP (aT c i)) ?_
       rw[hA,if_neg n5,if_neg n6,if_pos (.inr ⟨g13,g14⟩)]
       exact rfl
      ·refine eN (iP (aT c i)) ?_
       rw[hA,if_neg n5,if_neg n6,if_neg (fun h=>h.elim m7 fun h=>h.2 g14)]
       exact rfl
     ·have g13:(c.sgs.getD i ak).kd=2:=by simpa using g13
      refine eN (iP (aT c i)) ?_
      rw[hA,if_neg n5,if_neg n6,if_neg (fun h=>h.elim m7 fun h=>h.1 g13)]
      exact rfl
   ·have n6:¬((c.sgs.getD i ak).kd=2∧((c.sgs.getD i ak).dl<1∨1000000<(c.sgs.getD i ak).dl)):=fun h=>by rw[h.1] at g7;cases g7
    refine aC (b:=!((c.sgs.getD i ak).kd==1)) rfl (fun g10=>?_) (fun g10=>?_)
    ·have k1:¬(c.sgs.getD i ak).kd=1:=by simpa using g10
     refine cK (qM) ((c.sgs.getD i ak).off) (by exact (ai (iE (by simp only[zz,reduceCtorEq])) (ai (iE (by simp only[zz,reduceCtorEq])) (ai rfl (fun _ _=>rfl))))) (trivial) ?_
     refine aC (b:=!bK (c.sgs.getD i ak).off) rfl (fun g11=>?_) (fun g11=>?_)
     ·have g11:bK (c.sgs.getD i ak).off=false:=by simpa using g11
      refine eN (iP (aT c i)) ?_
      rw[hA,if_neg n5,if_neg n6,if_pos (.inl ⟨k1,.inl g11⟩)]
      exact rfl
     have g11:bK (c.sgs.getD i ak).off=true:=by simpa using g11
     refine aC (b:=(c.sgs.getD i ak).ini) rfl (fun g12=>?_) (fun g12=>?_)
     ·refine eN (iP (aT c i)) ?_
      rw[hA,if_neg n5,if_neg n6,if_pos (.inl ⟨k1,.inr g12⟩)]
      exact rfl
     have m7:¬(¬(c.sgs.getD i ak).kd=1∧(bK (c.sgs.getD i ak).off=false∨(c.sgs.getD i ak).ini=true)):=fun h=>h.2.elim (fun e=>by rw[g11] at e;cases e) (fun e=>by rw[g12] at e;cases e)
     refine aC (b:=!((c.sgs.getD i ak).kd==2)) rfl (fun g13=>?_) (fun g13=>?_)
     ·have g13:¬(c.sgs.getD i ak).kd=2:=by simpa using g13
      refine bN ((c.sgs.getD i ak).dl=0) (fun g14=>?_) fun g14=>?_
      ·refine eN (iP (aT c i)) ?_
       rw[hA,if_neg n5,if_neg n6,if_pos (.inr ⟨g13,g14⟩)]
       exact rfl
      ·refine eN (iP (aT c i)) ?_
       rw[hA,if_neg n5,if_neg n6,if_neg (fun h=>h.elim m7 fun h=>h.2 g14)]
       exact rfl
     ·have g13:(c.sgs.getD i ak).kd=2:=by simpa using g13
      refine eN (iP (aT c i)) ?_
      rw[hA,if_neg n5,if_neg n6,if_neg (fun h=>h.elim m7 fun h=>h.1 g13)]
      exact rfl
    ·have k1:(c.sgs.getD i ak).kd=1:=by simpa using g10
     have m7:¬(¬(c.sgs.getD i ak).kd=1∧(bK (c.sgs.getD i ak).off=false∨(c.sgs.getD i ak).ini=true)):=fun h=>h.1 k1
     refine aC (b:=!((c.sgs.getD i ak).kd==2)) rfl (fun g13=>?_) (fun g13=>?_)
     ·have g13:¬(c.sgs.getD i ak).kd=2:=by simpa using g13
      refine aW (p:=(c.sgs.getD i ak).dl=0) (by simp only[zz,reduceCtorEq]) (fun g14=>?_) (fun g14=>?_)
      ·refine eN (iP (aT c i)) ?_
       rw[hA,if_neg n5,if_neg n6,if_pos (.inr ⟨g13,g14⟩)]
       exact rfl
      ·refine eN (iP (aT c i)) ?_
       rw[hA,if_neg n5,if_neg n6,if_neg (fun h=>h.elim m7 fun h=>h.2 g14)]
       exact rfl
     ·have g13:(c.sgs.getD i ak).kd=2:=by simpa using g13
      refine eN (iP (aT c i)) ?_
      rw[hA,if_neg n5,if_neg n6,if_neg (fun h=>h.elim m7 fun h=>h.1 g13)]
      exact rfl
 ·have n4:¬((c.sgs.getD i ak).kd=1∧¬bf (c.sgs.getD i ak).off (dx c)=0):=fun h=>by rw[h.1] at g3;cases g3
  have hA:aT c i=if (c.sgs.getD i ak).kd=0∧qN c i=true then 9
   else if (c.sgs.getD i ak).kd=2∧((c.sgs.getD i ak).dl<1∨1000000<(c.sgs.getD i ak).dl) then 2
   else if (¬(c.sgs.getD i ak).kd=1∧(bK (c.sgs.getD i ak).off=false∨(c.sgs.getD i ak).ini=true))∨(¬(c.sgs.getD i ak).kd=2∧¬(c.sgs.getD i ak).dl=0) then 3 else 0:=by
   rw[aT,if_neg n1,if_neg n2,if_neg n3,if_neg n4]
  refine ah (p:=(c.sgs.getD i ak).kd=0) (by simp only[zz,reduceCtorEq]) (fun g5=>?_) (fun g5=>?_)
  ·refine cK (aj1) ((c,i)) (by exact (ai (ai rfl (ai (ai rfl (fun _ _=>rfl)) (ai (ai rfl (fun _ _=>rfl)) (ai (ai rfl (fun _ _=>rfl)) (ai rfl (fun _ _=>rfl)))))) rfl)) (⟨hgd.1,hgd.2.1,hi⟩) ?_
   refine aC (b:=qN c i) rfl (fun g6=>?_) (fun g6=>?_)
   ·refine eN (iP (aT c i)) ?_
    rw[hA,if_pos ⟨g5,g6⟩]
    exact rfl
   have n5:¬((c.sgs.getD i ak).kd=0∧qN c i=true):=fun h=>by rw[g6] at h;cases h.2
   refine aC (b:=(c.sgs.getD i ak).kd==2) rfl (fun g7=>?_) (fun g7=>?_)
   ·have g7:(c.sgs.getD i ak).kd=2:=by simpa using g7
    refine bL ((c.sgs.getD i ak).dl<1) (fun g8=>?_) fun g8=>?_
    ·refine eN (iP (aT c i)) ?_
     rw[hA,if_neg n5,if_pos ⟨g7,.inl g8⟩]
     exact rfl
    refine bL (1000000<(c.sgs.getD i ak).dl) (fun g9=>?_) fun g9=>?_
    ·refine eN (iP (aT c i)) ?_
     rw[hA,if_neg n5,if_pos ⟨g7,.inr g9⟩]
     exact rfl
    have n6:¬((c.sgs.getD i ak).kd=2∧((c.sgs.getD i ak).dl<1∨1000000<(c.sgs.getD i ak).dl)):=fun h=>h.2.elim g8 g9
    refine aC (b:=!((c.sgs.getD i ak).kd==1)) rfl (fun g10=>?_) (fun g10=>?_)
    ·have k1:¬(c.sgs.getD i ak).kd=1:=by simpa using g10
     refine cK (qM) ((c.sgs.getD i ak).off) (by exact (ai (iE (by simp only[zz,reduceCtorEq])) (ai (iE (by simp only[zz,reduceCtorEq])) (ai rfl (fun _ _=>rfl))))) (trivial) ?_
     refine aC (b:=!bK (c.sgs.getD i ak).off) rfl (fun g11=>?_) (fun g11=>?_)
     ·have g11:bK (c.sgs.getD i ak).off=false:=by simpa using g11
      refine eN (iP (aT c i)) ?_
      rw[hA,if_neg n5,if_neg n6,if_pos (.inl ⟨k1,.inl g11⟩)]
      exact rfl
     have g11:bK (c.sgs.getD i ak).off=true:=by simpa using g11
     refine aC (b:=(c.sgs.getD i ak).ini) rfl (fun g12=>?_) (fun g12=>?_)
     ·refine eN (iP (aT c i)) ?_
      rw[hA,if_neg n5,if_neg n6,if_pos (.inl ⟨k1,.inr g12⟩)]
      exact rfl
     have m7:¬(¬(c.sgs.getD i ak).kd=1∧(bK (c.sgs.getD i ak).off=false∨(c.sgs.getD i ak).ini=true)):=fun h=>h.2.elim (fun e=>by rw[g11] at e;cases e) (fun e=>by rw[g12] at e;cases e)
     refine aC (b:=!((c.sgs.getD i ak).kd==2)) rfl (fun g13=>?_) (fun g13=>?_)
     ·have g13:¬(c.sgs.getD i ak).kd=2:=by simpa using g13
      refine bN ((c.sgs.getD i ak).dl=0) (fun g14=>?_) fun g14=>?_
      ·refine eN (iP (aT c i)) ?_
       rw[hA,if_neg n5,if_neg n6,if_pos (.inr ⟨g13,g14⟩)]
       exact rfl
      ·refine eN (iP (aT c i)) ?_
       rw[hA,if_neg n5,if_neg n6,if_neg (fun h=>h.elim m7 fun h=>h.2 g14)]
       exact rfl
     ·have g13:(c.sgs.getD i ak).kd=2:=by simpa using g13
      refine eN (iP (aT c i)) ?_
      rw[hA,if_neg n5,if_neg n6,if_neg (fun h=>h.elim m7 fun h=>h.1 g13)]
      exact rfl
    ·have k1:(c.sgs.getD i ak).kd=1:=by simpa using g10
     have m7:¬(¬(c.sgs.getD i ak).kd=1∧(bK (c.sgs.getD i ak).off=false∨(c.sgs.getD i ak).ini=true)):=fun h=>h.1 k1
     refine aC (b:=!((c.sgs.getD i ak).kd==2)) rfl (fun g13=>?_) (fun g13=>?_)
     ·have g13:¬(c.sgs.getD i ak).kd=2:=by simpa using g13
      refine bN ((c.sgs.getD i ak).dl=0) (fun g14=>?_) fun g14=>?_
      ·refine eN (iP (aT c i)) ?_
       rw[hA,if_neg n5,if_neg n6,if_pos (.inr ⟨g13,g14⟩)]
       exact rfl
      ·refine eN (iP (aT c i)) ?_
       rw[hA,if_neg n5,if_neg n6,if_neg (fun h=>h.elim m7 fun h=>h.2 g14)]
       exact rfl
     ·have g13:(c.sgs.getD i ak).kd=2:=by simpa using g13
      refine eN (iP (aT c i)) ?_
      rw[hA,if_neg n5,if_neg n6,if_neg (fun h=>h.elim m7 fun h=>h.1 g13)]
      exact rfl
   ·have n6:¬((c.sgs.getD i ak).kd=2∧((c.sgs.getD i ak).dl<1∨1000000<(c.sgs.getD i ak).dl)):=fun h=>by rw[h.1] at g7;cases g7
    refine aC (b:=!((c.sgs.getD i ak).kd==1)) rfl (fun g10=>?_) (fun g10=>?_)
    ·have k1:¬(c.sgs.getD i ak).kd=1:=by simpa using g10
     refine cK (qM) ((c.sgs.getD i ak).off) (by exact (ai (iE (by simp only[zz,reduceCtorEq])) (ai (iE (by simp only[zz,reduceCtorEq])) (ai rfl (fun _ _=>rfl))))) (trivial) ?_
     refine aC (b:=!bK (c.sgs.getD i ak).off) rfl (fun g11=>?_) (fun g11=>?_)
     ·have g11:bK (c.sgs.getD i ak).off=false:=by simpa using g11
      refine eN (iP (aT c i)) ?_
      rw[hA,if_neg n5,if_neg n6,if_pos (.inl ⟨k1,.inl g11⟩)]
      exact rfl
     have g11:bK (c.sgs.getD i ak).off=true:=by simpa using g11
     refine aC (b:=(c.sgs.getD i ak).ini) rfl (fun g12=>?_) (fun g12=>?_)
     ·refine eN (iP (aT c i)) ?_
      rw[hA,if_neg n5,if_neg n6,if_pos (.inl ⟨k1,.inr g12⟩)]
      exact rfl
     have m7:¬(¬(c.sgs.getD i ak).kd=1∧(bK (c.sgs.getD i ak).off=false∨(c.sgs.getD i ak).ini=true)):=fun h=>h.2.elim (fun e=>by rw[g11] at e;cases e) (fun e=>by rw[g12] at e;cases e)
     refine aC (b:=!((c.sgs.getD i ak).kd==2)) rfl (fun g13=>?_) (fun g13=>?_)
     ·have g13:¬(c.sgs.getD i ak).kd=2:=by simpa using g13
      refine aW (p:=(c.sgs.getD i ak).dl=0) (by simp only[zz,reduceCtorEq]) (fun g14=>?_) (fun g14=>?_)
      ·refine eN (iP (aT c i)) ?_
       rw[hA,if_neg n5,if_neg n6,if_pos (.inr ⟨g13,g14⟩)]
       exact rfl
      ·refine eN (iP (aT c i)) ?_
       rw[hA,if_neg n5,if_neg n6,if_neg (fun h=>h.elim m7 fun h=>h.2 g14)]
       exact rfl
     ·have g13:(c.sgs.getD i ak).kd=2:=by simpa using g13
      refine eN (iP (aT c i)) ?_
      rw[hA,if_neg n5,if_neg n6,if_neg (fun h=>h.elim m7 fun h=>h.1 g13)]
      exact rfl
    ·have k1:(c.sgs.getD i ak).kd=1:=by simpa using g10
     have m7:¬(¬(c.sgs.getD i ak).kd=1∧(bK (c.sgs.getD i ak).off=false∨(c.sgs.getD i ak).ini=true)):=fun h=>h.1 k1
     refine aC (b:=!((c.sgs.getD i ak).kd==2)) rfl (fun g13=>?_) (fun g13=>?_)
     ·have g13:¬(c.sgs.getD i ak).kd=2:=by simpa using g13
      refine bN ((c.sgs.getD i ak).dl=0) (fun g14=>?_) fun g14=>?_
      ·refine eN (iP (aT c i)) ?_
       rw[hA,if_neg n5,if_neg n6,if_pos (.inr ⟨g13,g14⟩)]
       exact rfl
      ·refine eN (iP (aT c i)) ?_
       rw[hA,if_neg n5,if_neg n6,if_neg (fun h=>h.elim m7 fun h=>h.2 g14)]
       exact rfl
     ·have g13:(c.sgs.getD i ak).kd=2:=by simpa using g13
      refine eN (iP (aT c i)) ?_
      rw[hA,if_neg n5,if_neg n6,if_neg (fun h=>h.elim m7 fun h=>h.1 g13)]
      exact rfl
  ·have n5:¬((c.sgs.getD i ak).kd=0∧qN c i=true):=fun h=>g5 h.1
   refine aC (b:=(c.sgs.getD i ak).kd==2) rfl (fun g7=>?_) (fun g7=>?_)
   ·have g7:(c.sgs.getD i ak).kd=2:=by simpa using g7
    refine ah (p:=(c.sgs.getD i ak).dl<1) (aB Iff.rfl) (fun g8=>?_) (fun g8=>?_)
    ·refine eN (iP (aT c i)) ?_
     rw[hA,if_neg n5,if_pos ⟨g7,.inl g8⟩]
     exact rfl
    refine ah (p:=1000000<(c.sgs.getD i ak).dl) (aB Iff.rfl) (fun g9=>?_) (fun g9=>?_)
    ·refine eN (iP (aT c i)) ?_
     rw[hA,if_neg n5,if_pos ⟨g7,.inr g9⟩]
     exact rfl
    have n6:¬((c.sgs.getD i ak).kd=2∧((c.sgs.getD i ak).dl<1∨1000000<(c.sgs.getD i ak).dl)):=fun h=>h.2.elim g8 g9
    refine aC (b:=!((c.sgs.getD i ak).kd==1)) rfl (fun g10=>?_) (fun g10=>?_)
    ·have k1:¬(c.sgs.getD i ak).kd=1:=by simpa using g10
     refine cK (qM) ((c.sgs.getD i ak).off) (by exact (ai (iE (by simp only[zz,reduceCtorEq])) (ai (iE (by simp only[zz,reduceCtorEq])) (ai rfl (fun _ _=>rfl))))) (trivial) ?_
     refine aC (b:=!bK (c.sgs.getD i ak).off) rfl (fun g11=>?_) (fun g11=>?_)
     ·have g11:bK (c.sgs.getD i ak).off=false:=by simpa using g11
      refine eN (iP (aT c i)) ?_
      rw[hA,if_neg n5,if_neg n6,if_pos (.inl ⟨k1,.inl g11⟩)]
      exact rfl
     have g11:bK (c.sgs.getD i ak).off=true:=by simpa using g11
     refine aC (b:=(c.sgs.getD i ak).ini) rfl (fun g12=>?_) (fun g12=>?_)
     ·refine eN (iP (aT c i)) ?_
      rw[hA,if_neg n5,if_neg n6,if_pos (.inl ⟨k1,.inr g12⟩)]
      exact rfl
     have m7:¬(¬(c.sgs.getD i ak).kd=1∧(bK (c.sgs.getD i ak).off=false∨(c.sgs.getD i ak).ini=true)):=fun h=>h.2.elim (fun e=>by rw[g11] at e;cases e) (fun e=>by rw[g12] at e;cases e)
     refine aC (b:=!((c.sgs.getD i ak).kd==2)) rfl (fun g13=>?_) (fun g13=>?_)
     ·have g13:¬(c.sgs.getD i ak).kd=2:=by simpa using g13
      refine bN ((c.sgs.getD i ak).dl=0) (fun g14=>?_) fun g14=>?_
      ·refine eN (iP (aT c i)) ?_
       rw[hA,if_neg n5,if_neg n6,if_pos (.inr ⟨g13,g14⟩)]
       exact rfl
      ·refine eN (iP (aT c i)) ?_
       rw[hA,if_neg n5,if_neg n6,if_neg (fun h=>h.elim m7 fun h=>h.2 g14)]
       exact rfl
     ·have g13:(c.sgs.getD i ak).kd=2:=by simpa using g13
      refine eN (iP (aT c i)) ?_
      rw[hA,if_neg n5,if_neg n6,if_neg (fun h=>h.elim m7 fun h=>h.1 g13)]
      exact rfl
    ·have k1:(c.sgs.getD i ak).kd=1:=by simpa using g10
     have m7:¬(¬(c.sgs.getD i ak).kd=1∧(bK (c.sgs.getD i ak).off=false∨(c.sgs.getD i ak).ini=true)):=fun h=>h.1 k1
     refine aC (b:=!((c.sgs.getD i ak).kd==2)) rfl (fun g13=>?_) (fun g13=>?_)
     ·have g13:¬(c.sgs.getD i ak).kd=2:=by simpa using g13
      refine bN ((c.sgs.getD i ak).dl=0) (fun g14=>?_) fun g14=>?_
      ·refine eN (iP (aT c i)) ?_
       rw[hA,if_neg n5,if_neg n6,if_pos (.inr ⟨g13,g14⟩)]
       exact rfl
      ·refine eN (iP (aT c i)) ?_
       rw[hA,if_neg n5,if_neg n6,if_neg (fun h=>h.elim m7 fun h=>h.2 g14)]
       exact rfl
     ·have g13:(c.sgs.getD i ak).kd=2:=by simpa using g13
      refine eN (iP (aT c i)) ?_
      rw[hA,if_neg n5,if_neg n6,if_neg (fun h=>h.elim m7 fun h=>h.1 g13)]
      exact rfl
   ·have n6:¬((c.sgs.getD i ak).kd=2∧((c.sgs.getD i ak).dl<1∨1000000<(c.sgs.getD i ak).dl)):=fun h=>by rw[h.1] at g7;cases g7
    refine aC (b:=!((c.sgs.getD i ak).kd==1)) rfl (fun g10=>?_) (fun g10=>?_)
    ·have k1:¬(c.sgs.getD i ak).kd=1:=by simpa using g10
     refine cK (qM) ((c.sgs.getD i ak).off) (by exact (ai (iE (by simp only[zz,reduceCtorEq])) (ai (iE (by simp only[zz,reduceCtorEq])) (ai rfl (fun _ _=>rfl))))) (trivial) ?_
     refine aC (b:=!bK (c.sgs.getD i ak).off) rfl (fun g11=>?_) (fun g11=>?_)
     ·have g11:bK (c.sgs.getD i ak).off=false:=by simpa using g11
      refine eN (iP (aT c i)) ?_
      rw[hA,if_neg n5,if_neg n6,if_pos (.inl ⟨k1,.inl g11⟩)]
      exact rfl
     have g11:bK (c.sgs.getD i ak).off=true:=by simpa using g11
     refine aC (b:=(c.sgs.getD i ak).ini) rfl (fun g12=>?_) (fun g12=>?_)
     ·refine eN (iP (aT c i)) ?_
      rw[hA,if_neg n5,if_neg n6,if_pos (.inl ⟨k1,.inr g12⟩)]
      exact rfl
     have m7:¬(¬(c.sgs.getD i ak).kd=1∧(bK (c.sgs.getD i ak).off=false∨(c.sgs.getD i ak).ini=true)):=fun h=>h.2.elim (fun e=>by rw[g11] at e;cases e) (fun e=>by rw[g12] at e;cases e)
     refine aC (b:=!((c.sgs.getD i ak).kd==2)) rfl (fun g13=>?_) (fun g13=>?_)
     ·have g13:¬(c.sgs.getD i ak).kd=2:=by simpa using g13
      refine bN ((c.sgs.getD i ak).dl=0) (fun g14=>?_) fun g14=>?_
      ·refine eN (iP (aT c i)) ?_
       rw[hA,if_neg n5,if_neg n6,if_pos (.inr ⟨g13,g14⟩)]
       exact rfl
      ·refine eN (iP (aT c i)) ?_
       rw[hA,if_neg n5,if_neg n6,if_neg (fun h=>h.elim m7 fun h=>h.2 g14)]
       exact rfl
     ·have g13:(c.sgs.getD i ak).kd=2:=by simpa using g13
      refine eN (iP (aT c i)) ?_
      rw[hA,if_neg n5,if_neg n6,if_neg (fun h=>h.elim m7 fun h=>h.1 g13)]
      exact rfl
    ·have k1:(c.sgs.getD i ak).kd=1:=by simpa using g10
     have m7:¬(¬(c.sgs.getD i ak).kd=1∧(bK (c.sgs.getD i ak).off=false∨(c.sgs.getD i ak).ini=true)):=fun h=>h.1 k1
     refine aC (b:=!((c.sgs.getD i ak).kd==2)) rfl (fun g13=>?_) (fun g13=>?_)
     ·have g13:¬(c.sgs.getD i ak).kd=2:=by simpa using g13
      refine aW (p:=(c.sgs.getD i ak).dl=0) (by simp only[zz,reduceCtorEq]) (fun g14=>?_) (fun g14=>?_)
      ·refine eN (iP (aT c i)) ?_
       rw[hA,if_neg n5,if_neg n6,if_pos (.inr ⟨g13,g14⟩)]
       exact rfl
      ·refine eN (iP (aT c i)) ?_
       rw[hA,if_neg n5,if_neg n6,if_neg (fun h=>h.elim m7 fun h=>h.2 g14)]
       exact rfl
     ·have g13:(c.sgs.getD i ak).kd=2:=by simpa using g13
      refine eN (iP (aT c i)) ?_
      rw[hA,if_neg n5,if_neg n6,if_neg (fun h=>h.elim m7 fun h=>h.1 g13)]
      exact rfl
def axc (c:bC) (w:Nat):List Int:=if w=0 then c.pl else c.mi
def kZ (c:bC) (x:Int):Bool:=decide (x<0)||decide (dx c≤x)
theorem amo:av Tryz.prog 120 (bq (fun c:bC=>[rQ c]) (fun c=>kQ c∧c.pl.length≤1000000∧c.mi.length≤1000000) (fun c=>iP (nS c))):=by
 refine vI [4000024] Tryz.func120 ?_
 rintro (c:bC) hpre
 obtain ⟨hs0,hp,hm⟩:=hpre
 have hp:c.pl.length≤1000000:=hp
 have hm:c.mi.length≤1000000:=hm
 refine bN ((c.pl.length:Int)=c.act) (fun h1=>?_) fun h1=>?_
 ·refine eN (iP (nS c)) ?_
  rw[nS,if_pos (show ¬((c.pl.length:Int)=c.act∧(c.mi.length:Int)=c.act) from fun h=>h1 h.1)]
  exact rfl
 refine bN ((c.mi.length:Int)=c.act) (fun h2=>?_) fun h2=>?_
 ·refine eN (iP (nS c)) ?_
  rw[nS,if_pos (show ¬((c.pl.length:Int)=c.act∧(c.mi.length:Int)=c.act) from fun h=>h2 h.2)]
  exact rfl
 have hA:nS c=if abw c c.pl||abw c c.mi then 6 else 0:=by unfold nS;rw[if_neg (fun h=>h ⟨h1,h2⟩)]
 refine fR (2) (fun w=>[(26,.s (iA w))]) (fun w=>[]) (fun w=>∀v,v<w→abw c (axc c v)=false) ?_ ?_ ?_ ?_
 ·exact (ai (ai (fun _=>rfl) (iE (by omega))) rfl)
 ·exact trivial
 ·exact fun v hv=>absurd hv (aee _)
 intro (w:Nat) ⟨hw,hall⟩
 refine bL (w<2) (fun h3=>?_) fun h3=>?_
 ·rcases (show w=0∨w=1 by omega) with rfl | rfl
  ·refine ai (ai (by decide) (by decide)) ?_
   refine ai rfl ?_
   refine fR (c.pl.length) (fun k=>[(5,.s (iA k))]) (fun k=>[]) (fun k=>∀j,j<k→kZ c (c.pl.getD j 0)=false) (by exact (ai (ai (fun _=>rfl) (iE (by omega))) rfl)) (by exact trivial) ?_ ?_
   ·exact fun j hj=>absurd hj (aee _)
   intro (k:Nat) ⟨hk,hal⟩
   refine bL (k<c.pl.length) (fun h4=>?_) fun h4=>?_
   ·refine dR (.seq [0,1,2,3,4,5,6,7,8,9,10,11,12,13]) ?_
    refine iX (k) (c.pl.length) ?_
    refine ah (p:=c.pl.getD k 0<0) (aB Iff.rfl) (fun h5=>?_) (fun h5=>?_)
    ·refine eN (iP (nS c)) ?_
     rw[hA,if_pos (by rw[aoU];exact .inl (amb.2 ⟨_,aay (bB 0 h4),by rw[decide_eq_true h5];rfl⟩))]
     exact rfl
    refine iX (k) (c.pl.length) ?_
    refine cK (adJ) (c) (by exact (ai rfl (ai (ai rfl (fun _ _=>rfl)) (ai (ai rfl (fun _ _=>rfl)) (ai (ai rfl (fun _ _=>rfl)) (ai rfl (fun _ _=>rfl))))))) (hs0) ?_
    refine ah (p:=dx c≤c.pl.getD k 0) (fV Iff.rfl) (fun h6=>?_) (fun h6=>?_)
    ·refine eN (iP (nS c)) ?_
     rw[hA,if_pos (by rw[aoU];exact .inl (amb.2 ⟨_,aay (bB 0 h4),by rw[decide_eq_true h6,Bool.or_true]⟩))]
     exact rfl
    refine nX (k) (ai (ai (fun _=>rfl) (aH (by omega))) rfl) trivial ?_
    intro j hj
    by_cases e:j=k
    ·subst e;unfold kZ;rw[decide_eq_false h5,decide_eq_false h6];rfl
    ·exact hal j (by omega)
   ·obtain rfl:k=c.pl.length:=by omega
    refine nX (0) (ai (ai (fun _=>rfl) (aH (by omega))) rfl) trivial ?_
    intro v hv
    by_cases e:v=0
    ·subst e
     show (c.pl).any (kZ c)=false
     rw[ar6]
     intro x hx
     obtain ⟨j,hj,rfl⟩:=aoG hx
     have:=hal j hj
     rw[aai,aau hj] at this
     rw[show kZ c (c.pl)[j]=false from this];decide
    ·exact hall v (by omega)
  ·refine ai (ai (by decide) (by decide)) ?_
   refine ai rfl ?_
   refine fR (c.mi.length) (fun k=>[(5,.s (iA k))]) (fun k=>[]) (fun k=>∀j,j<k→kZ c (c.mi.getD j 0)=false) (by exact (ai (ai (fun _=>rfl) (iE (by omega))) rfl)) (by exact trivial) ?_ ?_
   ·exact fun j hj=>absurd hj (aee _)
   intro (k:Nat) ⟨hk,hal⟩
   refine bL (k<c.mi.length) (fun h4=>?_) fun h4=>?_
   ·refine dR (.seq [0,1,2,3,4,5,6,7,8,9,10,11,12,13]) ?_
    refine iX (k) (c.mi.length) ?_
    refine ah (p:=c.mi.getD k 0<0) (aB Iff.rfl) (fun h5=>?_) (fun h5=>?_)
    ·refine eN (iP (nS c)) ?_
     rw[hA,if_pos (by rw[aoU];exact .inr (amb.2 ⟨_,aay (bB 0 h4),by rw[decide_eq_true h5];rfl⟩))]
     exact rfl
    refine iX (k) (c.mi.length) ?_
    refine cK (adJ) (c) (by exact (ai rfl (ai (ai rfl (fun _ _=>rfl)) (ai (ai rfl (fun _ _=>rfl)) (ai (ai rfl (fun _ _=>rfl)) (ai rfl (fun _ _=>rfl))))))) (hs0) ?_
    refine ah (p:=dx c≤c.mi.getD k 0) (fV Iff.rfl) (fun h6=>?_) (fun h6=>?_)
    ·refine eN (iP (nS c)) ?_
     rw[hA,if_pos (by rw[aoU];exact .inr (amb.2 ⟨_,aay (bB 0 h4),by rw[decide_eq_true h6,Bool.or_true]⟩))]
     exact rfl
    refine nX (k) (ai (ai (fun _=>rfl) (aH (by omega))) rfl) trivial ?_
    intro j hj
    by_cases e:j=k
    ·subst e;unfold kZ;rw[decide_eq_false h5,decide_eq_false h6];rfl
    ·exact hal j (by omega)
   ·obtain rfl:k=c.mi.length:=by omega
    refine nX (1) (ai (ai (fun _=>rfl) (aH (by omega))) rfl) trivial ?_
    intro v hv
    by_cases e:v=1
    ·subst e
     show (c.mi).any (kZ c)=false
     rw[ar6]
     intro x hx
     obtain ⟨j,hj,rfl⟩:=aoG hx
     have:=hal j hj
     rw[aai,aau hj] at this
     rw[show kZ c (c.mi)[j]=false from this];decide
    ·exact hall v (by omega)
 ·obtain rfl:w=2:=by omega
  have e1:abw c c.pl=false:=hall 0 (by decide)
  have e2:abw c c.mi=false:=hall 1 (by decide)
  refine eN (iP (nS c)) ?_
  rw[hA,e1,e2,if_neg (show ¬(false||false)=true by decide)]
  exact rfl
theorem asC:av Tryz.prog 68 (bq (fun c:bC=>[rQ c]) (fun c=>anI c∧(c.ins.length≤1000000∧c.sgs.length≤1000000)∧(∀x∈c.ins,x.length≤1000000)∧∀x∈c.sgs,x.nm.length≤1000000) (fun c=>iP (bH c))):=by
 refine vF Tryz.func68 ?_
 rintro (c:bC) hpre
 obtain ⟨ho,⟨h3,h4⟩,hn⟩:=hpre
 have h3:c.ins.length≤1000000:=h3
 have h4:c.sgs.length≤1000000:=h4
 refine bL (c.act<1) (fun g1=>?_) fun g1=>?_
 ·refine eN (iP (bH c)) ?_
  rw[bH,if_pos (.inl g1)]
  exact rfl
 refine bL (6<c.act) (fun g2=>?_) fun g2=>?_
 ·refine eN (iP (bH c)) ?_
  rw[bH,if_pos (.inr g2)]
  exact rfl
 have n1:¬(c.act<1∨6<c.act):=fun h=>h.elim g1 g2
 refine bL (16<c.ins.length) (fun g3=>?_) fun g3=>?_
 ·refine eN (iP (bH c)) ?_
  rw[bH,if_neg n1,if_pos (.inl g3)]
  exact rfl
 refine bL (64<c.sgs.length) (fun g4=>?_) fun g4=>?_
 ·refine eN (iP (bH c)) ?_
  rw[bH,if_neg n1,if_pos (.inr g4)]
  exact rfl
 have n2:¬(16<c.ins.length∨64<c.sgs.length):=fun h=>h.elim g3 g4
 have hs0:kQ c:=⟨⟨by omega,by omega⟩,h3,h4⟩
 have hgd:aby c:=⟨⟨hs0,by omega⟩,ho,hn⟩
 have hlN:dx c=2*c.act+c.ins.length+c.sgs.length:=rfl
 refine fR (c.ins.length) (fun k=>[(3,.s (iA k))]) (fun k=>[]) (fun k=>∀j,j<k→kK c (2*c.act.toNat+j)=0) (by exact (ai (ai (fun _=>rfl) (iE (by omega))) rfl)) (by exact trivial) ?_ ?_
 ·exact fun j hj=>absurd hj (aee _)
 intro (k:Nat) ⟨hk,hall⟩
 refine bL (k<c.ins.length) (fun g5=>?_) fun g5=>?_
 ·refine ei _ (ai (ahK) (ei ((c,2*c.act.toNat+k)) (ei [] (ai (a4 (ai (fun _=>Or.inl rfl) (ai nof (Or.inl rfl)))) (ai ?_ (ai (by exact trivial) (ai (asc hgd (by rw[hlN];omega)) ?_)))))))
  ·refine (ai (ai rfl (ai (ai rfl (fun _ _=>rfl)) (ai (ai rfl (fun _ _=>rfl)) (ai (ai rfl (fun _ _=>rfl)) (ai rfl (fun _ _=>rfl)))))) ?_)
   show IntKind.i64.wrap (IntKind.i64.wrap (2*c.act)+(k:Int))=((2*c.act.toNat+k:Nat):Int)
   rw[dD (n:=2*c.act) (by omega) (by omega),dD (by omega) (by omega)];omega
  refine aW (p:=kK c (2*c.act.toNat+k)=0) (bR (by dsimp only;omega)) (fun g6=>?_) (fun g6=>?_)
  ·have e:=dJ (f:=fun i=>kK c (2*c.act.toNat+i)) g5 hall g6
   refine eN (iP (bH c)) ?_
   rw[bH,if_neg n1,if_neg n2,if_pos (show ¬dw (fun i=>kK c (2*c.act.toNat+i)) c.ins.length=0 by rw[e];exact g6),e]
   exact rfl
  refine nX (k) (ai (ai (fun _=>rfl) (aH (by omega))) rfl) trivial ?_
  intro j hj
  by_cases e:j=k
  ·rw[e];exact g6
  ·exact hall j (by omega)
 obtain rfl:k=c.ins.length:=by omega
 have n3:¬¬dw (fun i=>kK c (2*c.act.toNat+i)) c.ins.length=0:=fun h=>h (gK hall)
 refine fR (c.sgs.length) (fun k=>[(5,.s (iA k))]) (fun k=>[]) (fun k=>∀j,j<k→aT c j=0) (by exact (ai (ai (fun _=>rfl) (iE (by omega))) rfl)) (by exact trivial) ?_ ?_
 ·exact fun j hj=>absurd hj (aee _)
 intro (k:Nat) ⟨hk,hall2⟩
 refine bL (k<c.sgs.length) (fun g5=>?_) fun g5=>?_
 ·refine cK (amS) ((c,k)) (by exact (ai (ai rfl (ai (ai rfl (fun _ _=>rfl)) (ai (ai rfl (fun _ _=>rfl)) (ai (ai rfl (fun _ _=>rfl)) (ai rfl (fun _ _=>rfl)))))) rfl)) (⟨hgd,g5⟩) ?_
  refine aW (p:=aT c k=0) (bR (by dsimp only;omega)) (fun g6=>?_) (fun g6=>?_)
  ·have e:=dJ (f:=aT c) g5 hall2 g6
   refine eN (iP (bH c)) ?_
   rw[bH,if_neg n1,if_neg n2,if_neg n3,if_pos (show ¬dw (aT c) c.sgs.length=0 by rw[e];exact g6),e]
   exact rfl
  refine nX (k) (ai (ai (fun _=>rfl) (aH (by omega))) rfl) trivial ?_
  intro j hj
  by_cases e:j=k
  ·rw[e];exact g6
  ·exact hall2 j (by omega)
 obtain rfl:k=c.sgs.length:=by omega
 have n4:¬¬dw (aT c) c.sgs.length=0:=fun h=>h (gK hall2)
 refine cK (amo) (c) (by exact (ai rfl (ai (ai rfl (fun _ _=>rfl)) (ai (ai rfl (fun _ _=>rfl)) (ai (ai rfl (fun _ _=>rfl)) (ai rfl (fun _ _=>rfl))))))) (⟨hs0,ho.2⟩) ?_
 refine eN (iP (bH c)) ?_
 rw[bH,if_neg n1,if_neg n2,if_neg n3,if_neg n4]
 exact rfl
def sU (c:bC) (s:eZ):Prop:=(s.en.length:Int)=c.act∧(s.va.length:Int)=c.act∧s.inp.length=c.ins.length∧s.vl.length=c.sgs.length∧s.ti.length=c.sgs.length
instance (c:bC) (s:eZ):Decidable (sU c s):=by unfold sU;infer_instance
def nT (most x:Int):Bool:=decide (x<0)||decide (most≤x)
def aaN (c:bC) (s:eZ) (i:Nat):Bool:=if (c.sgs.getD i ak).kd==2 then !(s.vl.getD i false==(s.ti.getD i 0==2)) else !(s.ti.getD i 0==0)
def mJ (c:bC) (s:eZ):Int:=if ¬sU c s then 8 else if s.en.any (nT 4)=true then 1 else if s.ti.any (nT 3)=true then 1 else if (List.range s.ti.length).any (aaN c s)=true then 14 else 0
def afj (s:eZ):Prop:=s.en.length≤1000000∧s.ti.length≤1000000
theorem nA:av Tryz.prog 123 (bq (fun c:bC=>[rQ c]) kQ (fun c=>iP (bU c))):=by
 refine vF Tryz.func123 ?_
 rintro (c:bC) hpre
 obtain ⟨⟨h1,h2⟩,h3,h4⟩:=hpre
 have h1:0≤c.act:=h1
 have h2:c.act≤1000:=h2
 have h3:c.ins.length≤1000000:=h3
 refine ai (ai (fun _=>trivial) ?_) trivial
 show IntKind.i64.wrap (IntKind.i64.wrap (2*c.act)+(c.ins.length:Int))=bU c
 rw[dD (n:=2*c.act) (by omega) (by omega),dD (by omega) (by omega)];rfl
theorem aac:av Tryz.prog 77 (bq (fun c:bC=>[rQ c]) kQ (fun c=>iP (dx c))):=by
 refine vF Tryz.func77 ?_
 rintro (c:bC) hpre
 have hs0:kQ c:=hpre
 obtain ⟨⟨h1,h2⟩,h3,h4⟩:=hpre
 have h1:0≤c.act:=h1
 have h2:c.act≤1000:=h2
 have h3:c.ins.length≤1000000:=h3
 have h4:c.sgs.length≤1000000:=h4
 refine dR (.seq [0,2,3,4,1,5,6]) ?_
 refine cK (nA) (c) (by exact (ai rfl (ai (ai rfl (fun _ _=>rfl)) (ai (ai rfl (fun _ _=>rfl)) (ai (ai rfl (fun _ _=>rfl)) (ai rfl (fun _ _=>rfl))))))) (hs0) ?_
 refine ai (ai (fun _=>trivial) ?_) trivial
 show IntKind.i64.wrap (bU c+(c.sgs.length:Int))=dx c
 rw[dD (by unfold bU;omega) (by unfold bU;omega)];rfl
theorem aeC:av Tryz.prog 183 (bq (fun x:Ex=>[iV x]) (fun _=>True) (fun x=>bP (bK x))):=by
 refine vF Tryz.func183 ?_
 rintro (x:Ex) hpre
 refine aC (b:=x.op==0) rfl (fun h1=>?_) (fun h1=>?_)
 ·refine aC (b:=x.idx==0) rfl (fun h2=>?_) (fun h2=>?_)
  ·refine eN (bP (bK x)) ?_
   rw[show bK x=(((x.args.length:Nat):Int)==0) by unfold bK;rw[h1,h2];cases x.args<;>rfl]
   exact rfl
  ·refine eN (bP (bK x)) ?_
   rw[show bK x=false by unfold bK;rw[h2];simp]
   exact rfl
 ·refine eN (bP (bK x)) ?_
  rw[show bK x=false by unfold bK;rw[h1];simp]
  exact rfl
theorem apf:av Tryz.prog 127 (bq (fun a:bC×Nat=>[rQ a.1,iA a.2]) aj4 (fun a=>sP (dZ a.1 a.2))):=by
 refine vF Tryz.func127 ?_
 rintro ⟨c,n⟩ hpre
 obtain ⟨hs,h6,hn⟩:=hpre
 have hs0:=hs
 obtain ⟨⟨h1,h2⟩,h3,h4⟩:=hs
 have h1:0≤c.act:=h1
 have h6:c.act≤6:=h6
 have h3:c.ins.length≤1000000:=h3
 have h4:c.sgs.length≤1000000:=h4
 have hn:(n:Int)<2*c.act+c.ins.length+c.sgs.length:=hn
 refine cK (nA) (c) (by exact (ai rfl (ai (ai rfl (fun _ _=>rfl)) (ai (ai rfl (fun _ _=>rfl)) (ai (ai rfl (fun _ _=>rfl)) (ai rfl (fun _ _=>rfl))))))) (hs0) ?_
 refine ah (p:=(n:Int)<2*c.act) (by exact aB (by rw[dD (n:=2*c.act) (by omega) (by omega)])) (fun g1=>?_) (fun g1=>?_)
 ·have hq:IntKind.i64.wrap ((n:Int).tdiv 2)=((n / 2:Nat):Int):=by rw[show ((n:Int).tdiv 2)=((n / 2:Nat):Int) from rfl];exact xP (by omega)
  have hr:((n:Int).tmod 2)=((n % 2:Nat):Int):=rfl
  have hx:IntKind.i32.wrap (IntKind.i64.wrap (97+IntKind.i64.wrap ((n:Int).tdiv 2)))=((97+n / 2:Nat):Int):=by
   rw[hq,dD (by omega) (by omega)]
   have:n / 2<6:=by omega
   generalize n / 2=q at *
   match q,this with
   | 0,_=>rfl | 1,_=>rfl | 2,_=>rfl | 3,_=>rfl | 4,_=>rfl | 5,_=>rfl
  have hy:IntKind.i32.wrap (IntKind.i64.wrap (48+(n:Int).tmod 2))=((48+n % 2:Nat):Int):=by
   rw[hr,dD (by omega) (by omega)]
   have:n % 2<2:=by omega
   generalize n % 2=q at *
   match q,this with
   | 0,_=>rfl | 1,_=>rfl
  refine ai (by decide) ?_
  refine ai (by rw[hx];omega) ?_
  refine ai (by decide) ?_
  refine ai (by rw[hy];omega) ?_
  refine ai (by show ((2:Nat):Int)≤9223372036854775807;decide) ?_
  refine ai (ai (fun _=>trivial) ?_) trivial
  show (⟨#[UInt8.ofNat (IntKind.i32.wrap (IntKind.i64.wrap (97+IntKind.i64.wrap ((n:Int).tdiv 2)))).toNat]⟩:ByteArray)++⟨#[UInt8.ofNat (IntKind.i32.wrap (IntKind.i64.wrap (48+(n:Int).tmod 2))).toNat]⟩=strOf (dZ c n)
  rw[hx,hy]
  unfold dZ
  rw[if_pos g1,ad9,ad9];rfl
 refine ah (p:=(n:Int)<bU c) (by exact aB Iff.rfl) (fun g2=>?_) (fun g2=>?_)
 ·have hd:IntKind.i64.wrap ((n:Int)-IntKind.i64.wrap (2*c.act))=((n-2*c.act.toNat:Nat):Int):=by
   rw[dD (n:=2*c.act) (by omega) (by omega),dD (by omega) (by omega)];omega
  have g3:(n:Int)<2*c.act+c.ins.length:=g2
  refine ai (ai (by rw[hd];exact aaT _) (by rw[hd];show ((n-2*c.act.toNat:Nat):Int)<(c.ins.length:Int);omega)) ?_
  refine ai rfl ?_
  refine ai (ai (fun _=>trivial) ?_) trivial
  show strOf (c.ins.getD (IntKind.i64.wrap ((n:Int)-IntKind.i64.wrap (2*c.act))).toNat [])=strOf (dZ c n)
  unfold dZ
  rw[hd,if_neg g1,if_pos g2,ad9]
 ·have hN:bU c=2*c.act+c.ins.length:=rfl
  have hd:IntKind.i64.wrap ((n:Int)-bU c)=((n-2*c.act.toNat-c.ins.length:Nat):Int):=by
   rw[hN,dD (by omega) (by omega)];omega
  refine ai (ai (by rw[hd];exact aaT _) (by rw[hd];show ((n-2*c.act.toNat-c.ins.length:Nat):Int)<(c.sgs.length:Int);omega)) ?_
  refine ai rfl ?_
  refine ai (ai (fun _=>trivial) ?_) trivial
  show strOf (c.sgs.getD (IntKind.i64.wrap ((n:Int)-bU c)).toNat ak).nm=strOf (dZ c n)
  unfold dZ
  rw[hd,if_neg g1,if_neg g2,ad9]
def aqI (m:Int):PV:=.fn 190 [.pt [iP m] 0]
theorem apK:av Tryz.prog 189 (bq (fun m:Int=>[iA m]) (fun _=>True) (fun m=>aqI m)):=by
 refine vF Tryz.func189 ?_
 rintro (m:Int) hpre
 refine ai (ai (fun _=>trivial) ?_) trivial
 exact (ai rfl rfl)
theorem atJ:av Tryz.prog 190 (bq (fun a:Int×Int=>[iA a.2,.p false (.pt [iP a.1] 0)]) (fun _=>True) (fun a=>bP (nT a.1 a.2))):=by
 refine vF Tryz.func190 ?_
 rintro ⟨m,x⟩ hpre
 refine bL (x<0) (fun h1=>?_) fun h1=>?_
 ·refine eN (bP (nT m x)) ?_
  rw[show nT m x=true by unfold nT;rw[decide_eq_true h1];rfl]
  exact rfl
 ·refine eN (bP (nT m x)) ?_
  rw[show nT m x=decide (m≤x) by unfold nT;rw[decide_eq_false h1];rfl]
  exact rfl
theorem aqT:av Tryz.prog 187 (bq (fun a:Int×List Int=>[isA a.2,.p false (aqI a.1)]) (fun a=>a.2.length≤1000000) (fun a=>iP (jv (nT a.1) a.2))):=by
 refine vF Tryz.func187 ?_
 rintro ⟨m,l⟩ hpre
 have hl:l.length≤1000000:=hpre
 refine fR (l.length) (fun k=>[(8,.s (iA k))]) (fun k=>[]) (fun k=>∀y∈l.take k,nT m y=false) (by exact (ai (ai (fun _=>rfl) (iE (by omega))) rfl)) (by exact trivial) ?_ ?_
 ·exact fun y hy=>absurd hy (by simp)
 intro (k:Nat) ⟨hk,hall⟩
 refine ah (p:=k<l.length) (aB (by dsimp only;omega)) (fun h1=>?_) (fun h1=>?_)
 ·refine iX (k) (l.length) ?_
  refine cK (atJ) ((m,l.getD k 0)) (by exact (ai (iE (by simp only[zz,reduceCtorEq])) (ai rfl rfl))) (trivial) ?_
  refine aC (b:=nT m (l.getD k 0)) rfl (fun h2=>?_) (fun h2=>?_)
  ·refine eN (iP (jv (nT m) l)) ?_
   rw[qV (d:=0) h1 h2 hall]
   exact rfl
  refine nX (k) (ai (ai (fun _=>rfl) (aH (by omega))) rfl) trivial ?_
  intro y hy
  rw[aO 0 h1] at hy
  rcases acw.1 hy with hy | hy
  ·exact hall y hy
  ·simp only[acC] at hy;subst hy;exact h2
 ·obtain rfl:k=l.length:=by omega
  rw[acr] at hall
  refine eN (iP (jv (nT m) l)) ?_
  rw[tX hall]
  exact rfl
theorem ajB:av Tryz.prog 130 (bq (fun a:Int×List Int=>[isA a.2,.p false (aqI a.1)]) (fun a=>a.2.length≤1000000) (fun a=>bP (a.2.any (nT a.1)))):=by
 refine vF Tryz.func130 ?_
 rintro ⟨m,l⟩ hpre
 refine cK (aqT) ((m,l)) (by exact (ai (ai rfl (fun _ _=>rfl)) (ai rfl rfl))) (hpre) ?_
 refine eN (bP (l.any (nT m))) ?_
 rw[(qD (nT m) l).symm]
 exact rfl
theorem aqh:av Tryz.prog 135 (bq (fun a:bC×eZ=>[rQ a.1,yR a.2]) (fun a=>afj a.2) (fun a=>iP (mJ a.1 a.2))):=by
 refine vF Tryz.func135 ?_
 rintro ⟨c,s⟩ hpre
 obtain ⟨hen,hti⟩:=hpre
 have hen:s.en.length≤1000000:=hen
 have hti:s.ti.length≤1000000:=hti
 refine aW (p:=(s.en.length:Int)=c.act) (bR (by dsimp only;omega)) (fun s1=>?_) (fun s1=>?_)
 ·refine eN (iP (mJ c s)) ?_
  rw[mJ,if_pos (show ¬sU c s from fun h=>s1 h.1)]
  exact rfl
 refine aW (p:=(s.va.length:Int)=c.act) (bR (by dsimp only;omega)) (fun s2=>?_) (fun s2=>?_)
 ·refine eN (iP (mJ c s)) ?_
  rw[mJ,if_pos (show ¬sU c s from fun h=>s2 h.2.1)]
  exact rfl
 refine aW (p:=s.inp.length=c.ins.length) (bR (by dsimp only;omega)) (fun s3=>?_) (fun s3=>?_)
 ·refine eN (iP (mJ c s)) ?_
  rw[mJ,if_pos (show ¬sU c s from fun h=>s3 h.2.2.1)]
  exact rfl
 refine aW (p:=s.vl.length=c.sgs.length) (bR (by dsimp only;omega)) (fun s4=>?_) (fun s4=>?_)
 ·refine eN (iP (mJ c s)) ?_
  rw[mJ,if_pos (show ¬sU c s from fun h=>s4 h.2.2.2.1)]
  exact rfl
 refine aW (p:=s.ti.length=c.sgs.length) (bR (by dsimp only;omega)) (fun s5=>?_) (fun s5=>?_)
 ·refine eN (iP (mJ c s)) ?_
  rw[mJ,if_pos (show ¬sU c s from fun h=>s5 h.2.2.2.2)]
  exact rfl
 have n1:¬¬sU c s:=fun h=>h ⟨s1,s2,s3,s4,s5⟩
 refine dR (.seq [0,1,2,3,4,5,6,7,8,9,10,11]) ?_
 refine cK (apK) ((4:Int)) (by exact rfl) (trivial) ?_
 refine cK (ajB) (((4:Int),s.en)) (by exact (ai (ai rfl (fun _ _=>rfl)) (ai rfl rfl))) (hen) ?_
 refine aC (b:=s.en.any (nT 4)) rfl (fun h1=>?_) (fun h1=>?_)
 ·refine eN (iP (mJ c s)) ?_
  rw[mJ,if_neg n1,if_pos h1]
  exact rfl
 have n2:¬s.en.any (nT 4)=true:=by rw[h1];decide
 refine cK (apK) ((3:Int)) (by exact rfl) (trivial) ?_
 refine cK (ajB) (((3:Int),s.ti)) (by exact (ai (ai rfl (fun _ _=>rfl)) (ai rfl rfl))) (hti) ?_
 refine aC (b:=s.ti.any (nT 3)) rfl (fun h2=>?_) (fun h2=>?_)
 ·refine eN (iP (mJ c s)) ?_
  rw[mJ,if_neg n1,if_neg n2,if_pos h2]
  exact rfl
 have hA:mJ c s=if (List.range s.ti.length).any (aaN c s)=true then 14 else 0:=by unfold mJ;rw[if_neg n1,if_neg n2,if_neg (show ¬s.ti.any (nT 3)=true by rw[h2];decide)]
 refine fR (s.ti.length) (fun k=>[(65,.s (iA k))]) (fun k=>[]) (fun k=>∀j,j<k→aaN c s j=false) (by exact (ai (ai (fun _=>rfl) (iE (by omega))) rfl)) (by exact trivial) ?_ ?_
 ·exact fun j hj=>absurd hj (aee _)
 intro (k:Nat) ⟨hk,hall3⟩
 refine ah (p:=k<s.ti.length) (aB (by dsimp only;omega)) (fun g1=>?_) (fun g1=>?_)
 ·refine iX (k) (s.ti.length) ?_
  refine iX (k) (c.sgs.length) ?_
  refine aC (b:=!((c.sgs.getD k ak).kd==2)) rfl (fun g2=>?_) (fun g2=>?_)
  ·have g2:((c.sgs.getD k ak).kd==2)=false:=by simpa using g2
   refine aC (b:=s.ti.getD k 0 != 0) rfl (fun g3=>?_) (fun g3=>?_)
   ·refine eN (iP (mJ c s)) ?_
    rw[hA,if_pos (aaj g1 (show aaN c s k=true by unfold aaN;rw[g2,if_neg (by decide)];exact g3))]
    exact rfl
   refine aC (b:=(c.sgs.getD k ak).kd==2) rfl (fun g4=>?_) (fun g4=>?_)
   ·rw[g2] at g4;cases g4
   ·refine nX (k) (ai (ai (fun _=>rfl) (aH (by omega))) rfl) trivial ?_
    intro j hj
    by_cases e:j=k
    ·subst e;unfold aaN;rw[g2,if_neg (by decide)];exact g3
    ·exact hall3 j (by omega)
  ·have g2:((c.sgs.getD k ak).kd==2)=true:=by simpa using g2
   refine aC (b:=(c.sgs.getD k ak).kd==2) rfl (fun g4=>?_) (fun g4=>?_)
   ·refine iX (k) (s.vl.length) ?_
    refine aC (b:=!(s.vl.getD k false==(s.ti.getD k 0==2))) rfl (fun g5=>?_) (fun g5=>?_)
    ·refine eN (iP (mJ c s)) ?_
     rw[hA,if_pos (aaj g1 (show aaN c s k=true by unfold aaN;rw[if_pos g2];exact g5))]
     exact rfl
    ·refine nX (k) (ai (ai (fun _=>rfl) (aH (by omega))) rfl) trivial ?_
     intro j hj
     by_cases e:j=k
     ·subst e;unfold aaN;rw[if_pos g2];exact g5
     ·exact hall3 j (by omega)
   ·rw[g2] at g4;cases g4
 obtain rfl:k=s.ti.length:=by omega
 refine eN (iP (mJ c s)) ?_
 rw[hA,if_neg (show ¬(List.range s.ti.length).any (aaN c s)=true by rw[any_none hall3];decide)]
 exact rfl
def jw (c:aA) (m:List Bool) (l:List Int):List Bool:=l.foldl (fun m i=>dW m (c.trs.getD i.toNat aY).fr false) m
theorem ala (c:aA) (m:List Bool) (l:List Int) (i:Int):jw c m (l++[i])=dW (jw c m l) (c.trs.getD i.toNat aY).fr false:=by unfold jw;rw[au5];rfl
theorem xw (c:aA):∀(l:List Int) (m:List Bool),(jw c m l).length=m.length
 | [],_=>rfl
 | i :: l,m=>by
  show (jw c (dW m (c.trs.getD i.toNat aY).fr false) l).length=_
  rw[xw c l,lX]
def ac4 (c:aA) (a:List Bool) (l:List Int):List Bool:=kF c (jw c a l) l
def bsR (l:List Bool):LV:=.rw 4 1 l.length (fun k=>[bP (l.getD k false)])
theorem jI {m:List Bool} {j:Nat} (hj:j<m.length) (b:Bool):∀k,iY (fun k=>[bP (m.getD k false)]) j 0 [bP b] k=[bP ((m.set j b).getD k false)]:=by
 intro k
 unfold iY
 rw[aai (l:=m.set j b),axC]
 by_cases h:k=j
 ·rw[if_pos h,if_pos h.symm,if_pos hj];rfl
 ·rw[if_neg h,if_neg (fun e=>h e.symm),←aai]
theorem vP {a b:List Bool} {n:Nat} {f g:Nat→List PV} (hn:n=a.length) (hf:∀k,k<a.length→f k=[bP (a.getD k false)]) (hg:∀k,k<b.length→g k=[bP (b.getD k false)]):∀k,k<(a++b).length→bI n f g k=[bP ((a++b).getD k false)]:=by
 intro k hk
 subst hn
 unfold bI
 by_cases h:k<a.length
 ·rw[if_pos h,hf k h,aai,aai,alx h]
 ·have hb:k-a.length<b.length:=by rw[aao] at hk;omega
  rw[if_neg h,hg _ hb,aai,aai,ael (by omega)]
theorem len2 {x y:PV}:∀k,k<2→(aU 1 [x,y] k).length=1:=fun k hk=>by
 match k,hk with
 | 0,_=>rfl | 1,_=>rfl
theorem arO (x y:Bool):∀k,k<[x,y].length→aU 1 [bP x,bP y] k=[bP ([x,y].getD k false)]:=fun k hk=>by
 match k,hk with
 | 0,_=>rfl | 1,_=>rfl
def ai1 (x:Int):List Bool:=[x==0,x==2]
def iH (l:List Int):List Bool:=l.flatMap ai1
theorem afs {l:List Int} {k:Nat} (h:k<l.length):iH (l.take (k+1))=iH (l.take k)++ai1 (l.getD k 0):=by rw[aO 0 h];unfold iH;rw[List.flatMap_append];simp
theorem wC:∀l:List Int,(iH l).length=2*l.length
 | []=>rfl
 | x :: l=>by
  have:=wC l
  unfold iH at this ⊢
  rw[List.flatMap_cons,aao,this]
  simp[ai1];omega
def fC (s:eZ):List Bool:=(iH s.en++s.inp)++s.vl
def adZ (s:eZ):Prop:=s.en.length≤100000∧s.inp.length≤100000∧s.vl.length≤100000
theorem anc:av Tryz.prog 78 (bQ (fun s:eZ=>[yR s]) adZ (fun s=>kH (fC s))):=by
 refine vF Tryz.func78 ?_
 rintro (s:eZ) hpre
 obtain ⟨h1,h2,h3⟩:=hpre
 have h1:s.en.length≤100000:=h1
 have h2:s.inp.length≤100000:=h2
 have h3:s.vl.length≤100000:=h3
 refine fR (s.en.length) (fun k=>[(9,.s (iA k)),(3,bsR (iH (s.en.take k)))]) (fun k=>[]) (fun k=>True) ?_ ?_ ?_ ?_
 ·exact (ai (ai (ai (fun _=>rfl) (iE (by omega))) rfl) rfl)
 ·exact trivial
 ·trivial
 intro (k:Nat) ⟨hk,_⟩
 have hl:(iH (s.en.take k)).length≤200000:=by rw[wC,arM];omega
 refine bL (k<s.en.length) (fun g1=>?_) fun g1=>?_
 ·refine iX (k) (s.en.length) ?_
  have e:=afs g1
  refine ai (mxL (n:=(iH (s.en.take k)).length+2) (by omega) (by decide)) (ai len2 ?_)
  refine nX (k) (ai (ai (ai (fun _=>rfl) (aH (by omega))) rfl) (ai rfl (ai rfl (ai ?_ ?_)))) trivial trivial
  ·rw[e,aao];rfl
  ·rw[e];exact fun q hq=>vP (a:=iH (s.en.take k)) (b:=ai1 (s.en.getD k 0)) rfl (fun _ _=>rfl) (arO _ _) q (by rw[aao];exact hq)
 obtain rfl:k=s.en.length:=by omega
 have et:s.en.take s.en.length=s.en:=acr
 refine dR (.one 0 (.one 1 (.one 2 (.one 4 (.rd 5 [3] (.one 3 (.one 6 (.one 7 .done)))))))) ?_
 refine ai (mxL (n:=(iH (s.en.take s.en.length)).length+s.inp.length) (by omega) (by decide)) (ai (fun _ _=>rfl) ?_)
 refine ai (mxL (n:=(iH (s.en.take s.en.length)).length+s.inp.length+s.vl.length) (by omega) (by decide)) (ai (fun _ _=>rfl) ?_)
 have eV:fC s=(iH (s.en.take s.en.length)++s.inp)++s.vl:=by rw[et];rfl
 refine eF (kH (fC s)) ?_
 rw[eV]
 refine (ai ?_ ?_)
 ·show (iH (s.en.take s.en.length)).length+s.inp.length+s.vl.length=_
  rw[aao,aao]
 ·intro j hj
  exact vP (a:=iH (s.en.take s.en.length)++s.inp) (b:=s.vl) (by rw[aao]) (fun i hi=>vP (a:=iH (s.en.take s.en.length)) (b:=s.inp) rfl (fun _ _=>rfl) (fun _ _=>rfl) i hi) (fun _ _=>rfl) j (by rw[aao,aao];exact hj)
def uj (c:bC) (s:eZ):Int:=if ¬bH c=0 then bH c else mJ c s
def agX (c:bC):Prop:=anI c∧(c.ins.length≤1000000∧c.sgs.length≤1000000)∧(∀x∈c.ins,x.length≤1000000)∧∀x∈c.sgs,x.nm.length≤1000000
def aS (c:aA):Int:=2*c.act+c.ins.length
def gT (c:aA):Nat→Nat
 | 0=>0
 | k+1=>gT c k+if 0<(c.sts.getD k st0).wt then 1 else 0
theorem lD (c:aA):∀k,gT c k≤k
 | 0=>acn _
 | k+1=>by have:=lD c k;rw[gT];split<;>omega
theorem ab4:av Tryz.prog 106 (bq (fun c:aA=>[jh c]) oo (fun c=>iP (aS c))):=by
 refine vF Tryz.func106 ?_
 rintro (c:aA) hpre
 obtain ⟨h1,h2,h3,h4⟩:=hpre
 have h1:0≤c.act:=h1
 have h2:c.act≤1000:=h2
 have h3:c.ins.length≤1000000:=h3
 refine ai (ai (fun _=>trivial) ?_) trivial
 show IntKind.i64.wrap (IntKind.i64.wrap (2*c.act)+(c.ins.length:Int))=aS c
 rw[dD (n:=2*c.act) (by omega) (by omega),dD (by omega) (by omega)];rfl
def mg (c:aA) (k:Nat):Int:=aS c+k
theorem oW:av Tryz.prog 53 (bq (fun a:aA×Nat=>[jh a.1,iA a.2]) (fun a=>oo a.1∧a.2≤1000000) (fun a=>iP (mg a.1 a.2))):=by
 refine vF Tryz.func53 ?_
 rintro ⟨c,k⟩ hpre
 obtain ⟨hs,hk⟩:=hpre
 have hk:k≤1000000:=hk
 have h1:0≤c.act:=hs.1
 have h2:c.act≤1000:=hs.2.1
 have h3:c.ins.length≤1000000:=hs.2.2.1
 refine cK (ab4) (c) (by exact (ai rfl (ai (ai rfl (fun _ _=>rfl)) (ai (ai rfl (fun _ _=>rfl)) (ai rfl (fun _ _=>rfl)))))) (hs) ?_
 refine ai (ai (fun _=>trivial) ?_) trivial
 show IntKind.i64.wrap (aS c+(k:Int))=mg c k
 rw[dD (by unfold aS;omega) (by unfold aS;omega)];rfl
def lJ (c:aA) (i:Nat):Int:=aS c+c.sts.length+i+gT c c.sts.length
theorem aeR:av Tryz.prog 162 (bq (fun a:aA×Nat=>[jh a.1,iA a.2]) (fun a=>oo a.1∧a.2≤1000000) (fun a=>iP (lJ a.1 a.2))):=by
 refine vF Tryz.func162 ?_
 rintro ⟨c,i⟩ hpre
 obtain ⟨hs,hi⟩:=hpre
 have hi:i≤1000000:=hi
 have h1:0≤c.act:=hs.1
 have h2:c.act≤1000:=hs.2.1
 have h3:c.ins.length≤1000000:=hs.2.2.1
 have h4:c.sts.length≤1000000:=hs.2.2.2
 have hb:aS c=2*c.act+c.ins.length:=rfl
 refine dR (.seq [0,2,3,4,6,1,5,7,8]) ?_
 refine cK (ab4) (c) (by exact (ai rfl (ai (ai rfl (fun _ _=>rfl)) (ai (ai rfl (fun _ _=>rfl)) (ai rfl (fun _ _=>rfl)))))) (hs) ?_
 have hw:IntKind.i64.wrap (IntKind.i64.wrap (aS c+(c.sts.length:Int))+(i:Int))=aS c+c.sts.length+i:=by
  rw[dD (n:=aS c+(c.sts.length:Int)) (by omega) (by omega),dD (by omega) (by omega)]
 refine fR (c.sts.length) (fun k=>[(6,.s (iA k)),(5,.s (iA (aS c+c.sts.length+i+gT c k)))]) (fun k=>[]) (fun k=>True) ?_ ?_ ?_ ?_
 ·refine (ai (ai (ai (fun _=>rfl) (iE (by omega))) rfl) (ai (ai (fun _=>rfl) ?_) rfl))
  show IntKind.i64.wrap (IntKind.i64.wrap (aS c+(c.sts.length:Int))+(i:Int))=_
  rw[hw];show _=aS c+c.sts.length+i+((0:Nat):Int);omega
 ·exact trivial
 ·trivial
 intro (k:Nat) ⟨hk,_⟩
 have ht:=lD c k
 refine ah (p:=k<c.sts.length) (aB (by dsimp only;omega)) (fun g1=>?_) (fun g1=>?_)
 ·refine iX (k) (c.sts.length) ?_
  refine ah (p:=0<(c.sts.getD k st0).wt) (aB Iff.rfl) (fun g2=>?_) (fun g2=>?_)
  ·have e:gT c (k+1)=gT c k+1:=by rw[gT,if_pos g2]
   refine nX (k) (ai (ai (ai (fun _=>rfl) (aH (by omega))) rfl) (ai (ai (fun _=>rfl) ?_) rfl)) trivial trivial
   show IntKind.i64.wrap (aS c+c.sts.length+i+gT c k+1)=_
   rw[e,dD (by omega) (by omega)];omega
  ·have e:gT c (k+1)=gT c k:=by rw[gT,if_neg g2,awL]
   refine nX (k) (ai (ai (ai (fun _=>rfl) (aH (by omega))) rfl) (ai (ai nof (iE (by omega))) rfl)) trivial trivial
   all_goals rw[e]
 ·obtain rfl:k=c.sts.length:=by omega
  refine eN _ ?_
  exact (iE (by simp only[zz,reduceCtorEq];rfl))
theorem amG:av Tryz.prog 165 (bq (fun a:List Int×List Int=>[isA a.1,isA a.2]) (fun a=>a.1.length≤1000000∧a.2.length≤1000000) (fun a=>bP (nP a.1 a.2))):=by
 refine vF Tryz.func165 ?_
 rintro ⟨l,m⟩ hpre
 obtain ⟨hl,hm⟩:=hpre
 have hl:l.length≤1000000:=hl
 refine fR (l.length) (fun k=>[(5,.s (iA k))]) (fun k=>[]) (fun k=>∀y∈l.take k,gM m y=false) (by exact (ai (ai (fun _=>rfl) (iE (by omega))) rfl)) (by exact trivial) ?_ ?_
 ·exact fun y hy=>absurd hy (by simp)
 intro (k:Nat) ⟨hk,hall⟩
 refine ah (p:=k<l.length) (aB (by dsimp only;omega)) (fun h1=>?_) (fun h1=>?_)
 ·refine iX (k) (l.length) ?_
  refine cK (aeF) ((m,l.getD k 0)) (by exact (ai (ai rfl (fun _ _=>rfl)) (iE (by simp only[zz,reduceCtorEq])))) (hm) ?_
  refine aC (b:=gM m (l.getD k 0)) rfl (fun h2=>?_) (fun h2=>?_)
  ·refine eN (bP (nP l m)) ?_
   rw[show nP l m=true from amb.2 ⟨_,aay (bB 0 h1),h2⟩]
   exact rfl
  refine nX (k) (ai (ai (fun _=>rfl) (aH (by omega))) rfl) trivial ?_
  intro y hy
  rw[aO 0 h1] at hy
  rcases acw.1 hy with hy | hy
  ·exact hall y hy
  ·simp only[acC] at hy;subst hy;exact h2
 ·obtain rfl:k=l.length:=by omega
  rw[acr] at hall
  refine eN (bP (nP l m)) ?_
  rw[show nP l m=false from ar6.2 fun y hy=>by rw[hall y hy];decide]
  exact rfl
def skB (x y:Sk):Bool:=x.1==y.1&&x.2==y.2
def uR (l:List Sk) (x:Sk):Bool:=l.any fun y=>skB x y
def arQ (a:List Sk×Sk):Prop:=a.1.length≤1000000
theorem asN:av Tryz.prog 79 (bq (fun a:List Sk×Sk=>[anl a.1,skA a.2]) arQ (fun a=>iP (jv (fun y=>skB a.2 y) a.1))):=by
 refine vF Tryz.func79 ?_
 rintro (a:List Sk×Sk) hpre
 have hl:a.1.length≤1000000:=hpre
 refine fR (a.1.length) (fun k=>[(8,.s (iA k))]) (fun k=>[]) (fun k=>∀y∈a.1.take k,skB a.2 y=false) (by exact (ai (ai (fun _=>rfl) (iE (by omega))) rfl)) (by exact trivial) ?_ ?_
 ·exact fun y hy=>absurd hy (by simp)
 intro (k:Nat) ⟨hk,hall⟩
 refine bL (k<a.1.length) (fun h1=>?_) fun h1=>?_
 ·refine dR (.seq [0,1,2,3,4,5]) ?_
  refine iX (k) (a.1.length) ?_
  refine ah (p:=skB a.2 (a.1.getD k bV)=true) (by (show ((a.2.1==(a.1.getD k bV).1)&&((a.2.2==(a.1.getD k bV).2)&&true))=true↔_;rw[Bool.and_true];exact Iff.rfl)) (fun h2=>?_) (fun h2=>?_)
  ·refine eN (iP (jv (fun y=>skB a.2 y) a.1)) ?_
   rw[qV (d:=bV) h1 h2 hall]
   exact rfl
  refine nX (k) (ai (ai (fun _=>rfl) (aH (by omega))) rfl) trivial ?_
  intro y hy
  rw[aO bV h1] at hy
  rcases acw.1 hy with hy | hy
  ·exact hall y hy
  ·simp only[acC] at hy;subst hy;simpa using h2
 ·obtain rfl:k=a.1.length:=by omega
  rw[acr] at hall
  refine eN (iP (jv (fun y=>skB a.2 y) a.1)) ?_
  rw[tX hall]
  exact rfl
theorem atq:av Tryz.prog 41 (bq (fun a:List Sk×Sk=>[anl a.1,skA a.2]) arQ (fun a=>bP (uR a.1 a.2))):=by
 refine vF Tryz.func41 ?_
 rintro (a:List Sk×Sk) hpre
 refine cK (asN) (a) (by exact (ai (ai rfl (fun _ _=>rfl)) (ai rfl rfl))) (hpre) ?_
 refine eN (bP (uR a.1 a.2)) ?_
 rw[show uR a.1 a.2=decide (0≤jv (fun y=>skB a.2 y) a.1) from (qD (fun y=>skB a.2 y) a.1).symm]
 exact rfl
def tZ (c:aA) (k:Nat):Int:=if (c.sts.getD k st0).wt=0 then -1099511627776 else aS c+c.sts.length+gT c k
def cZ (c:aA):Nat→List Int
 | 0=>[]
 | k+1=>cZ c k++[tZ c k]
theorem o7 (c:aA):∀k,(cZ c k).length=k
 | 0=>rfl
 | k+1=>by rw[cZ,aao,o7 c k];rfl
def ac8 (c:aA):Prop:=oo c∧∀x∈c.sts,0≤x.wt
theorem aff:av Tryz.prog 54 (bQ (fun c:aA=>[jh c]) ac8 (fun c=>fE (cZ c c.sts.length))):=by
 refine vF Tryz.func54 ?_
 rintro (c:aA) hpre
 obtain ⟨hs,hw0⟩:=hpre
 have h1:0≤c.act:=hs.1
 have h2:c.act≤1000:=hs.2.1
 have h3:c.ins.length≤1000000:=hs.2.2.1
 have h4:c.sts.length≤1000000:=hs.2.2.2
 have hb:aS c=2*c.act+c.ins.length:=rfl
 refine dR (.seq [0,2,3,4,1,5,6]) ?_
 refine cK (ab4) (c) (by exact (ai rfl (ai (ai rfl (fun _ _=>rfl)) (ai (ai rfl (fun _ _=>rfl)) (ai rfl (fun _ _=>rfl)))))) (hs) ?_
 refine fR (c.sts.length) (fun k=>[(5,.s (iA k)),(4,isR (cZ c k)),(3,.s (iA (aS c+c.sts.length+gT c k)))]) (fun k=>[]) (fun k=>True) ?_ ?_ ?_ ?_
 ·refine (ai (ai (ai (fun _=>rfl) (iE (by omega))) rfl) (ai rfl (ai (ai (fun _=>rfl) ?_) rfl)))
  show IntKind.i64.wrap (aS c+(c.sts.length:Int))=aS c+c.sts.length+((0:Nat):Int)
  rw[dD (by omega) (by omega)];omega
 ·exact trivial
 ·trivial
 intro (k:Nat) ⟨hk,_⟩
 have ht:=lD c k
 have hl:=o7 c k
 refine bL (k<c.sts.length) (fun g1=>?_) fun g1=>?_
 ·refine iX (k) (c.sts.length) ?_
  have hw:=hw0 _ (aay (bB st0 g1))
  refine ah (p:=(c.sts.getD k st0).wt=0) (by simp only[zz,reduceCtorEq]) (fun g2=>?_) (fun g2=>?_)
  ·have e1:cZ c (k+1)=cZ c k++[-1099511627776]:=by rw[cZ];unfold tZ;rw[if_pos g2]
   have e2:gT c (k+1)=gT c k:=by rw[gT,if_neg (by omega),awL]
   refine ai (mxL (n:=(cZ c k).length+1) (by omega) (by decide)) (ai (fJ 1 rfl) ?_)
   refine nX (k) (ai (ai (ai (fun _=>rfl) (aH (by omega))) rfl) (ai (ai rfl (ai rfl (ai ?_ ?_))) (ai (ai nof (iE (by omega))) rfl))) trivial trivial
   ·rw[e1,aao];rfl
   ·rw[e1];exact dK _ _
   all_goals rw[e2]
  ·have e1:cZ c (k+1)=cZ c k++[aS c+c.sts.length+gT c k]:=by rw[cZ];unfold tZ;rw[if_neg g2]
   have e2:gT c (k+1)=gT c k+1:=by rw[gT,if_pos (by omega)]
   refine ai (mxL (n:=(cZ c k).length+1) (by omega) (by decide)) (ai (fJ 1 rfl) ?_)
   refine nX (k) (ai (ai (ai (fun _=>rfl) (aH (by omega))) rfl) (ai (ai rfl (ai rfl (ai ?_ ?_))) (ai (ai (fun _=>rfl) ?_) rfl))) trivial trivial
   ·rw[e1,aao];rfl
   ·rw[e1];exact dK _ _
   ·show IntKind.i64.wrap (aS c+c.sts.length+gT c k+1)=_
    rw[e2,dD (by omega) (by omega)];omega
 ·obtain rfl:k=c.sts.length:=by omega
  refine ai (ai (fun _=>(by exact (fun _ _=>rfl))) ?_) trivial
  exact (ai rfl (fun _ _=>rfl))
def u7 (c:aA) (fr:Bool) (i:Nat):List Int:=if fr then (c.trs.getD i aY).fr else (c.trs.getD i aY).to
def gD (c:aA) (s:Int) (fr:Bool):Nat→List Int
 | 0=>[]
 | i+1=>if gM (u7 c fr i) s then gD c s fr i++[lJ c i] else gD c s fr i
theorem lq (c:aA) (s:Int) (fr:Bool):∀k,(gD c s fr k).length≤k
 | 0=>acn _
 | k+1=>by
  have:=lq c s fr k
  rw[gD];split
  ·rw[aao];simp;omega
  ·omega
def aps (a:aA×Int×Bool):Prop:=oo a.1∧gN a.1∧a.1.trs.length≤1000000
theorem kr:av Tryz.prog 99 (bQ (fun a:aA×Int×Bool=>[jh a.1,iA a.2.1,bA a.2.2]) aps (fun a=>fE (gD a.1 a.2.1 a.2.2 a.1.trs.length))):=by
 refine vF Tryz.func99 ?_
 rintro ⟨c,s,fr⟩ hpre
 obtain ⟨hs,ho,ht⟩:=hpre
 have ht:c.trs.length≤1000000:=ht
 refine fR (c.trs.length) (fun k=>[(8,.s (iA k)),(7,isR (gD c s fr k))]) (fun k=>[]) (fun k=>True) ?_ ?_ ?_ ?_
 ·exact (ai (ai (ai (fun _=>rfl) (iE (by omega))) rfl) rfl)
 ·exact trivial
 ·trivial
 intro (k:Nat) ⟨hk,_⟩
 have hl:=lq c s fr k
 refine ah (p:=k<c.trs.length) (aB (by dsimp only;omega)) (fun g1=>?_) (fun g1=>?_)
 ·refine iX (k) (c.trs.length) ?_
  have hto:=mP ho g1
  refine aC (b:=fr) rfl (fun g2=>?_) (fun g2=>?_)
  ·subst g2
   refine iX (k) (c.trs.length) ?_
   refine cK (aeF) (((c.trs.getD k aY).fr,s)) (by exact (ai (ai rfl (fun _ _=>rfl)) rfl)) (hto.1) ?_
   refine aC (b:=gM (c.trs.getD k aY).fr s) rfl (fun g3=>?_) (fun g3=>?_)
   ·refine cK (aeR) ((c,k)) (by exact (ai (ai rfl (ai (ai rfl (fun _ _=>rfl)) (ai (ai rfl (fun _ _=>rfl)) (ai rfl (fun _ _=>rfl))))) rfl)) (⟨hs,by show k≤1000000;omega⟩) ?_
    have e1:gD c s true (k+1)=gD c s true k++[lJ c k]:=by rw[gD,if_pos (show gM (u7 c true k) s=true from g3)]
    refine ai (mxL (n:=(gD c s true k).length+1) (by omega) (by decide)) (ai (fJ 1 rfl) ?_)
    refine nX (k) (ai (ai (ai (fun _=>rfl) (aH (by omega))) rfl) (ai rfl (ai rfl (ai ?_ ?_)))) trivial trivial
    ·rw[e1,aao];rfl
    ·rw[e1];exact dK _ _
   ·have e1:gD c s true (k+1)=gD c s true k:=by rw[gD,if_neg (show ¬gM (u7 c true k) s=true by rw[show gM (u7 c true k) s=false from g3];decide)]
    refine nX (k) (ai (ai (ai (fun _=>rfl) (aH (by omega))) rfl) (ai rfl (ai rfl (ai ?_ ?_)))) trivial trivial
    ·rw[e1]
    ·rw[e1];exact fun _ _=>rfl
  ·subst g2
   refine cK (aeF) (((c.trs.getD k aY).to,s)) (by exact (ai (ai rfl (fun _ _=>rfl)) rfl)) (hto.2.1) ?_
   refine aC (b:=gM (c.trs.getD k aY).to s) rfl (fun g3=>?_) (fun g3=>?_)
   ·refine cK (aeR) ((c,k)) (by exact (ai (ai rfl (ai (ai rfl (fun _ _=>rfl)) (ai (ai rfl (fun _ _=>rfl)) (ai rfl (fun _ _=>rfl))))) rfl)) (⟨hs,by show k≤1000000;omega⟩) ?_
    have e1:gD c s false (k+1)=gD c s false k++[lJ c k]:=by rw[gD,if_pos (show gM (u7 c false k) s=true from g3)]
    refine ai (mxL (n:=(gD c s false k).length+1) (by omega) (by decide)) (ai (fJ 1 rfl) ?_)
    refine nX (k) (ai (ai (ai (fun _=>rfl) (aH (by omega))) rfl) (ai rfl (ai rfl (ai ?_ ?_)))) trivial trivial
    ·rw[e1,aao];rfl
    ·rw[e1];exact dK _ _
   ·have e1:gD c s false (k+1)=gD c s false k:=by rw[gD,if_neg (show ¬gM (u7 c false k) s=true by rw[show gM (u7 c false k) s=false from g3];decide)]
    refine nX (k) (ai (ai (ai (fun _=>rfl) (aH (by omega))) rfl) (ai rfl (ai rfl (ai ?_ ?_)))) trivial trivial
    ·rw[e1]
    ·rw[e1];exact fun _ _=>rfl
 ·obtain rfl:k=c.trs.length:=by omega
  refine ai (ai (fun _=>(by exact (fun _ _=>rfl))) ?_) trivial
  exact (ai rfl (fun _ _=>rfl))
def dO (c:aA) (x:Sk):Nat→List Int
 | 0=>[]
 | k+1=>if uR (c.sts.getD k st0).st x then dO c x k++[mg c k] else dO c x k
theorem sQ (c:aA) (x:Sk):∀k,(dO c x k).length≤k
 | 0=>acn _
 | k+1=>by
  have:=sQ c x k
  rw[dO];split
  ·rw[aao];simp;omega
  ·omega
def uU (c:aA) (x:Sk) (k j:Nat):List Int:=if uR ((c.sts.getD k st0).st.take j) x then dO c x k++[mg c k] else dO c x k
theorem amk {x y:Sk}:skB x y=true↔y=x:=by
 unfold skB
 rw[aaX,beq_iff_eq,beq_iff_eq]
 constructor
 ·rintro ⟨h1,h2⟩;exact Prod.ext h1.symm h2.symm
 ·rintro rfl;exact ⟨rfl,rfl⟩
theorem z8 {l:List Sk} {x:Sk}:uR l x=true↔x∈l:=by
 unfold uR
 rw[amb]
 constructor
 ·rintro ⟨y,hy,h⟩;rw[←amk.1 h];exact hy
 ·exact fun h=>⟨x,h,amk.2 rfl⟩
theorem aqV {l:List Sk} (hn:l.Nodup) {j:Nat} (hj:j<l.length):uR (l.take j) (l.getD j bV)=false:=by
 rw[awF]
 intro h
 have h:=z8.1 h
 have e:l=l.take j++l.getD j bV :: l.drop (j+1):=by
  have h2:l.getD j bV=l[j]:=by rw[aai,aau hj];rfl
  rw[h2,←axv hj,axu]
 rw[e,List.nodup_append] at hn
 exact hn.2.2 _ h _ (auK ..) rfl
def aof (a:aA×Sk):Prop:=oo a.1∧gN a.1∧∀y∈a.1.sts,y.st.Nodup
theorem qY:av Tryz.prog 105 (bQ (fun a:aA×Sk=>[jh a.1,skA a.2]) aof (fun a=>fE (dO a.1 a.2 a.1.sts.length))):=by
 refine vF Tryz.func105 ?_
 rintro ⟨c,x⟩ hpre
 obtain ⟨hs,ho,hn⟩:=hpre
 have h4:c.sts.length≤1000000:=hs.2.2.2
 refine fR (c.sts.length) (fun k=>[(6,.s (iA k)),(5,isR (dO c x k))]) (fun k=>[]) (fun k=>True) ?_ ?_ ?_ ?_
 ·exact (ai (ai (ai (fun _=>rfl) (iE (by omega))) rfl) rfl)
 ·exact trivial
 ·trivial
 intro (k:Nat) ⟨hk,_⟩
 have hl:=sQ c x k
 refine ah (p:=k<c.sts.length) (aB (by dsimp only;omega)) (fun g1=>?_) (fun g1=>?_)
 ·refine iX (k) (c.sts.length) ?_
  have hm:=aay (bB st0 g1)
  have hlo:=ho.1 _ hm
  have hnd:=hn _ hm
  have e0:uU c x k 0=dO c x k:=by unfold uU;rw[List.take_zero];rfl
  refine fR ((c.sts.getD k st0).st.length) (fun j=>[(23,.s (iA j)),(5,isR (uU c x k j))]) (fun j=>[]) (fun j=>True) ?_ ?_ ?_ ?_
  ·exact (ai (ai (ai (fun _=>rfl) (iE (by omega))) rfl) (ai rfl (ai rfl (ai rfl (fun _ _=>rfl)))))
   all_goals rw[e0]
   all_goals exact fun _ _=>rfl
  ·exact trivial
  ·trivial
  intro (j:Nat) ⟨hj,_⟩
  refine ah (p:=j<(c.sts.getD k st0).st.length) (by simp only[zz,reduceCtorEq];omega) (fun g2=>?_) (fun g2=>?_)
  ·refine iX (j) ((c.sts.getD k st0).st.length) ?_
   refine ah (p:=(c.sts.getD k st0).st.getD j bV=x) (by (show ((((c.sts.getD k st0).st.getD j bV).1==x.1)&&((((c.sts.getD k st0).st.getD j bV).2==x.2)&&true))=true↔_;rw[Bool.and_true,aaX,beq_iff_eq,beq_iff_eq];exact ⟨fun h=>Prod.ext h.1 h.2,fun h=>by rw[h];exact ⟨rfl,rfl⟩⟩)) (fun g3=>?_) (fun g3=>?_)
   ·have e1:uU c x k j=dO c x k:=by
     have:=aqV hnd g2
     rw[g3] at this
     unfold uU;rw[this,if_neg (by decide)]
    have e2:uU c x k (j+1)=dO c x k++[mg c k]:=by
     unfold uU
     rw[if_pos (z8.2 (by rw[aO bV g2,g3];simp))]
    refine cK (oW) ((c,k)) (by exact (ai (ai rfl (ai (ai rfl (fun _ _=>rfl)) (ai (ai rfl (fun _ _=>rfl)) (ai rfl (fun _ _=>rfl))))) rfl)) (⟨hs,by show k≤1000000;omega⟩) ?_
    refine ai (ai (by show (uU c x k j).length+1≤maxLen;rw[e1];unfold maxLen;omega) (by show ((uU c x k j).length+1)*8≤140737488355328;rw[e1];omega)) (ai (fJ 1 rfl) ?_)
    refine nX (j) (ai (ai (ai (fun _=>rfl) (aH (by omega))) rfl) (ai rfl (ai rfl (ai ?_ ?_)))) trivial trivial
    ·rw[e2,e1,aao];rfl
    ·rw[e2,e1];exact dK _ _
   ·have e2:uU c x k (j+1)=uU c x k j:=by
     have:uR ((c.sts.getD k st0).st.take (j+1)) x=uR ((c.sts.getD k st0).st.take j) x:=by
      rw[arX,z8,z8,aO bV g2,acw,acC]
      exact ⟨fun h=>h.elim id fun h=>absurd h.symm g3,.inl⟩
     unfold uU;rw[this]
    refine nX (j) (ai (ai (ai (fun _=>rfl) (aH (by omega))) rfl) (ai rfl (ai rfl (ai ?_ ?_)))) trivial trivial
    ·rw[e2]
    ·rw[e2];exact fun _ _=>rfl
  ·have ej:uU c x k j=dO c x (k+1):=by
    unfold uU
    rw[auV (by omega),dO]
   refine nX (k) (ai (ai (ai (fun _=>rfl) (aH (by omega))) rfl) (ai rfl (ai rfl (ai ?_ ?_)))) trivial trivial
   ·rw[ej]
   ·rw[ej];exact fun _ _=>rfl
 ·obtain rfl:k=c.sts.length:=by omega
  refine ai (ai (fun _=>(by exact (fun _ _=>rfl))) ?_) trivial
  exact (ai rfl (fun _ _=>rfl))
theorem acP:∀n,n<1000→(dec n).length≤3:=by decide +kernel
theorem nH:av Tryz.prog 97 (bq (fun a:List UInt8×Nat=>[sA a.1,iA a.2]) (fun a=>a.1.length≤1000∧a.2<1000) (fun a=>sP (a.1++dec a.2))):=by
 refine vF Tryz.func97 ?_
 rintro ⟨s,n⟩ hpre
 obtain ⟨hs,hn⟩:=hpre
 have hn:n<1000:=hn
 have hs:s.length≤1000:=hs
 refine cK (aqr) (n) (by exact rfl) ((by show n<1000000000000;omega)) ?_
 have hd:=acP n hn
 refine ai (by show ((((strOf s).size+(strOf (dec n)).size:Nat)):Int)≤9223372036854775807;rw[bY,bY];omega) ?_
 refine ai (ai (fun _=>trivial) ?_) trivial
 show strOf s++strOf (dec n)=strOf (s++dec n)
 rw[uS]
def frI (c:aA) (i:Int):List Int:=(c.trs.getD i.toNat aY).fr
def frr (c:aA) (out:List Int) (i:Int):List Int:=if out.all (fun k=>!nP (frI c i) (frI c k)) then out++[i] else out
def at0 (c:aA) (l:List Int):List Int:=l.foldl (frr c) []
theorem aju (c:aA):∀(l out:List Int),(l.foldl (frr c) out).length≤out.length+l.length∧∀x∈l.foldl (frr c) out,x∈out∨x∈l
 | [],out=>⟨by simp,fun x h=>.inl h⟩
 | i :: l,out=>by
  obtain ⟨h1,h2⟩:=aju c l (frr c out i)
  have h3:(frr c out i).length≤out.length+1:=by unfold frr;split<;>simp
  refine ⟨by rw[avb,aog];omega,fun x hx=>?_⟩
  rcases h2 x hx with h | h
  ·unfold frr at h
   split at h
   ·rcases acw.1 h with h | h
    ·exact .inl h
    ·exact .inr (by simp at h;simp[h])
   ·exact .inl h
  ·exact .inr (arU _ h)
def yS (c:aA) (a v:List Bool):List Int:=at0 c (jP (pE c a v) c.trs.length)
def akh (c:aA) (a v:List Bool):PV:=if mH c a v=0 then .tup [kH (ac4 c a (yS c a v)),fE (yS c a v),iP 0] else .tup [kH [],fE [],iP (mH c a v)]
structure kY where
 act:Int
 sts:List Stp
def sqK (s:kY):List PV:=[iP s.act,aaK s.sts]
def sqA (s:kY):SV:=.p false (.agg (sqK s))
def ckE (l:List Sk) (k:Nat):Int:=if (l.getD k bV).1<0∨6≤(l.getD k bV).1 then 2 else if 0<k∧(l.getD k bV).1=(l.getD (k-1) bV).1 then 7 else if 0<k∧(l.getD k bV).1<(l.getD (k-1) bV).1 then 9 else 0
def mG (x:Stp):Int:=if x.st.length=0 then 13 else if 6<x.st.length then 5 else if ¬dw (ckE x.st) x.st.length=0 then dw (ckE x.st) x.st.length else if x.wt<0∨1000000<x.wt then 2 else 0
def aqY (x:Int):Bool:=decide (0≤x)&&decide (x<6)
theorem akd {x:Int}:aqY x=true↔0≤x∧x<6:=by unfold aqY;rw[aaX,decide_eq_true_iff,decide_eq_true_iff]
theorem aoY:av Tryz.prog 250 (bq (fun x:Int=>[iA x]) (fun _=>True) (fun x=>bP (decide (0≤x)&&decide (x<6)))):=by
 refine vF Tryz.func250 ?_
 rintro (x:Int) hpre
 refine bG (0≤x) (fun h1=>?_) fun h1=>?_
 ·refine eN (bP (decide (0≤x)&&decide (x<6))) ?_
  rw[decide_eq_true h1,ac9]
  exact rfl
 ·refine eN (bP (decide (0≤x)&&decide (x<6))) ?_
  rw[decide_eq_false h1,aoc]
  exact rfl
def aam (l:List Sk) (k:Nat):Int:=if k=0 then -1 else (l.getD (k-1) bV).1
def aw3:Spec:=bq (fun x:Stp=>[stA x]) (fun _=>True) (fun x=>iP (mG x))
theorem avh:av Tryz.prog 198 aw3:=by
 refine vF Tryz.func198 ?_
 rintro (x:Stp) hpre
 refine bE (x.st.length=0) (fun h1=>?_) fun h1=>?_
 ·refine eN (iP (mG x)) ?_
  rw[mG,if_pos h1]
  exact rfl
 refine bL (6<x.st.length) (fun h2=>?_) fun h2=>?_
 ·refine eN (iP (mG x)) ?_
  rw[mG,if_neg h1,if_pos h2]
  exact rfl
 have hA:∀e,dw (ckE x.st) x.st.length=e→¬e=0→mG x=e:=fun e h h0=>by unfold mG;rw[if_neg h1,if_neg h2,if_pos (by rw[h];exact h0),h]
 refine fR (x.st.length) (fun k=>[(19,.s (iA k)),(4,.s (iA (aam x.st k)))]) (fun k=>[]) (fun k=>∀j,j<k→ckE x.st j=0) (by exact (ai (ai (ai (fun _=>rfl) (iE (by omega))) rfl) (ai (ai (fun _=>rfl) (iE rfl)) rfl))) (by exact trivial) ?_ ?_
 ·exact fun j hj=>absurd hj (aee _)
 intro (k:Nat) ⟨hk,hall⟩
 refine bL (k<x.st.length) (fun h3=>?_) fun h3=>?_
 ·refine iX (k) (x.st.length) ?_
  refine cK (aoY) ((x.st.getD k bV).1) (by exact (iE (by simp only[zz,reduceCtorEq]))) (trivial) ?_
  refine aC (b:=!aqY (x.st.getD k bV).1) rfl (fun h4=>?_) (fun h4=>?_)
  ·have h4:¬(0≤(x.st.getD k bV).1∧(x.st.getD k bV).1<6):=by rw[←akd];simpa using h4
   have e:ckE x.st k=2:=by unfold ckE;rw[if_pos (by omega)]
   refine eN (iP (mG x)) ?_
   rw[hA 2 ((dJ h3 hall (by rw[e];decide)).trans e) (by decide)]
   exact rfl
  have h4:0≤(x.st.getD k bV).1∧(x.st.getD k bV).1<6:=by rw[←akd];simpa using h4
  refine ah (p:=(x.st.getD k bV).1=aam x.st k) (by simp only[zz,reduceCtorEq]) (fun h5=>?_) (fun h5=>?_)
  ·have hk0:0<k:=by
    rcases ar9 k with e | e
    ·subst e;unfold aam at h5;rw[if_pos rfl] at h5;omega
    ·exact e
   have h5:(x.st.getD k bV).1=(x.st.getD (k-1) bV).1:=by unfold aam at h5;rwa [if_neg (by omega)] at h5
   have e:ckE x.st k=7:=by unfold ckE;rw[if_neg (by omega),if_pos ⟨hk0,h5⟩]
   refine eN (iP (mG x)) ?_
   rw[hA 7 ((dJ h3 hall (by rw[e];decide)).trans e) (by decide)]
   exact rfl
  refine ah (p:=(x.st.getD k bV).1<aam x.st k) (aB Iff.rfl) (fun h6=>?_) (fun h6=>?_)
  ·have hk0:0<k:=by
    rcases ar9 k with e | e
    ·subst e;unfold aam at h6;rw[if_pos rfl] at h6;omega
    ·exact e
   have h6:(x.st.getD k bV).1<(x.st.getD (k-1) bV).1:=by unfold aam at h6;rwa [if_neg (by omega)] at h6
   have e:ckE x.st k=9:=by unfold ckE;rw[if_neg (by omega),if_neg (by omega),if_pos ⟨hk0,h6⟩]
   refine eN (iP (mG x)) ?_
   rw[hA 9 ((dJ h3 hall (by rw[e];decide)).trans e) (by decide)]
   exact rfl
  refine nX (k) (ai (ai (ai (fun _=>rfl) (aH (by omega))) rfl) (ai (ai nof (iE (by simp only[zz,reduceCtorEq];rfl))) rfl)) trivial ?_
  intro j hj
  by_cases hjk:j=k
  ·subst hjk
   unfold aam at h5 h6
   unfold ckE
   rw[if_neg (by omega)]
   by_cases e0:j=0
   ·rw[if_neg (by omega),if_neg (by omega)]
   ·rw[if_neg e0] at h5 h6
    rw[if_neg (fun h=>h5 h.2),if_neg (fun h=>h6 h.2)]
  ·exact hall j (by omega)
 ·obtain rfl:k=x.st.length:=by omega
  have e2:dw (ckE x.st) x.st.length=0:=gK hall
  have hB:mG x=if x.wt<0∨1000000<x.wt then 2 else 0:=by unfold mG;rw[if_neg h1,if_neg h2,if_neg (fun h=>h e2)]
  refine bL (x.wt<0) (fun h7=>?_) fun h7=>?_
  ·refine eN (iP (mG x)) ?_
   rw[hB,if_pos (.inl h7)]
   exact rfl
  refine bL (1000000<x.wt) (fun h8=>?_) fun h8=>?_
  ·refine eN (iP (mG x)) ?_
   rw[hB,if_pos (.inr h8)]
   exact rfl
  ·refine eN (iP (mG x)) ?_
   rw[hB,if_neg (by omega)]
   exact rfl
theorem ai6 {m:List Bool} {j:Nat} (hj:j<m.length) (b:Bool) (k:Nat):vS (lM m) j (bP b) k=lM (m.set j b) k:=by
 unfold vS lM
 rw[aai,aai,axC]
 by_cases h:k=j
 ·rw[if_pos h,if_pos h.symm,if_pos hj];rfl
 ·rw[if_neg h,if_neg (fun e=>h e.symm)]
def okS (n:Nat) (l:List Sk):Prop:=∀y∈l,0≤y.1∧y.1<(n:Int)
theorem afT {n:Nat} {l:List Sk} (h:okS n l) {k:Nat} (hk:k<l.length):0≤(l.getD k bV).1∧(l.getD k bV).1<(n:Int):=h _ (aay (bB bV hk))
def wV (m:List Bool) (l:List Sk):List Bool:=l.foldl (fun m y=>m.set y.1.toNat y.2) m
theorem aot (m:List Bool) (l:List Sk) (y:Sk):wV m (l++[y])=(wV m l).set y.1.toNat y.2:=by unfold wV;rw[au5];rfl
theorem aeV:∀(l:List Sk) (m:List Bool),(wV m l).length=m.length
 | [],_=>rfl
 | y :: l,m=>by
  show (wV (m.set y.1.toNat y.2) l).length=_
  rw[aeV l,aob]
theorem zi {x:Stp} (h:mG x=0):(0<x.st.length∧x.st.length≤6)∧okS 6 x.st∧0≤x.wt∧x.wt≤1000000:=by
 unfold mG at h
 split at h
 ·cases h
 rename_i h1
 split at h
 ·cases h
 rename_i h2
 split at h
 ·rename_i h3;exact absurd h h3
 rename_i h3
 split at h
 ·cases h
 rename_i h4
 refine ⟨⟨by omega,by omega⟩,fun y hy=>?_,by omega,by omega⟩
 obtain ⟨i,hi,rfl⟩:=aoG hy
 have h5:=pJ (aku.1 h3) i hi
 unfold ckE at h5
 have hg:x.st.getD i bV=x.st[i]:=by rw[aai,aau hi];rfl
 rw[hg] at h5
 split at h5
 ·cases h5
 ·omega
def enP (m:List Bool):PV:=.arr 6 (lM m)
def enA (m:List Bool):SV:=.p false (enP m)
def enO (m:List Bool):Ob:=.arr 196 6 (lM m)
def aiH (act:Int) (l:List Sk):Bool:=l.any fun y=>decide (act≤y.1)
def atE (m:List Bool) (l:List Sk):Bool:=l.any fun y=>kC m y.1==y.2
def rJ (act:Int) (x:Stp) (m:List Bool):Int:=if ¬mG x=0 then mG x else if aiH act x.st then 6 else if atE m x.st then 14 else 0
theorem asL:av Tryz.prog 144 (bq (fun a:kY×Stp×List Bool=>[sqA a.1,stA a.2.1,enA a.2.2]) (fun a=>a.1.act≤6) (fun a=>iP (rJ a.1.act a.2.1 a.2.2))):=by
 refine vF Tryz.func144 ?_
 rintro ⟨s,x,m⟩ hpre
 have ha:s.act≤6:=hpre
 refine cK (avh) (x) (by exact (ai (ai rfl (fun _ _=>rfl)) rfl)) (trivial) ?_
 refine bN (mG x=0) (fun h1=>?_) fun h1=>?_
 ·refine eN (iP (rJ s.act x m)) ?_
  rw[rJ,if_pos h1]
  exact rfl
 obtain ⟨⟨_,h6⟩,hx,_⟩:=zi h1
 refine fR (x.st.length) (fun k=>[(20,.s (iA k))]) (fun k=>[]) (fun k=>∀y∈x.st.take k,decide (s.act≤y.1)=false) (by exact (ai (ai (fun _=>rfl) (iE (by omega))) rfl)) (by exact trivial) ?_ ?_
 ·exact fun y hy=>absurd hy (by simp)
 intro (k:Nat) ⟨hk,hall⟩
 refine ah (p:=k<x.st.length) (aB (by dsimp only;omega)) (fun h2=>?_) (fun h2=>?_)
 ·refine iX (k) (x.st.length) ?_
  refine ah (p:=s.act≤(x.st.getD k bV).1) (fV Iff.rfl) (fun h3=>?_) (fun h3=>?_)
  ·have e:aiH s.act x.st=true:=af3 (d:=bV) h2 (decide_eq_true h3)
   refine eN (iP (rJ s.act x m)) ?_
   rw[rJ,if_neg (fun h=>h h1),if_pos e]
   exact rfl
  refine nX (k) (ai (ai (fun _=>rfl) (aH (by omega))) rfl) trivial ?_
  intro y hy
  rw[aO bV h2] at hy
  rcases acw.1 hy with hy | hy
  ·exact hall y hy
  ·simp only[acC] at hy;subst hy;exact decide_eq_false h3
 ·obtain rfl:k=x.st.length:=by omega
  rw[acr] at hall
  have eo:aiH s.act x.st=false:=ar6.2 (fun y hy=>by rw[hall y hy];decide)
  refine fR (x.st.length) (fun j=>[(33,.s (iA j))]) (fun j=>[]) (fun j=>∀y∈x.st.take j,(kC m y.1==y.2)=false) (by exact (ai (ai (fun _=>rfl) (iE (by omega))) rfl)) (by exact trivial) ?_ ?_
  ·exact fun y hy=>absurd hy (by simp)
  intro (j:Nat) ⟨hj,hal⟩
  refine ah (p:=j<x.st.length) (aB (by dsimp only;omega)) (fun h4=>?_) (fun h4=>?_)
  ·refine iX (j) (x.st.length) ?_
   have hxj:=afT hx h4
   refine dR (.seq [0,1,2,3,4,5,6]) ?_
   refine ai hxj ?_
   refine ai (by show 0+(x.st.getD j bV).1.toNat*1<6;omega) ?_
   refine ah (p:=(kC m (x.st.getD j bV).1==(x.st.getD j bV).2)=true) (by (show (m.getD (0+(x.st.getD j bV).1.toNat*1) false==(x.st.getD j bV).2)=true↔_;rw[auM,ajN];exact Iff.rfl)) (fun h5=>?_) (fun h5=>?_)
   ·have e:atE m x.st=true:=af3 (d:=bV) h4 h5
    refine eN (iP (rJ s.act x m)) ?_
    rw[rJ,if_neg (fun h=>h h1),if_neg (by rw[eo];decide),if_pos e]
    exact rfl
   refine nX (j) (ai (ai (fun _=>rfl) (aH (by omega))) rfl) trivial ?_
   intro y hy
   rw[aO bV h4] at hy
   rcases acw.1 hy with hy | hy
   ·exact hal y hy
   ·simp only[acC] at hy;subst hy;exact awF.2 h5
  ·obtain rfl:j=x.st.length:=by omega
   rw[acr] at hal
   have e:atE m x.st=false:=ar6.2 (fun y hy=>by rw[hal y hy];decide)
   refine eN (iP (rJ s.act x m)) ?_
   rw[rJ,if_neg (fun h=>h h1),if_neg (by rw[eo];decide),if_neg (by rw[e];decide)]
   exact rfl
theorem ao9:av Tryz.prog 145 (bQ (fun a:List Bool×Stp=>[enA a.1,stA a.2]) (fun a=>a.1.length≤6∧okS a.1.length a.2.st∧a.2.st.length≤1000000) (fun a=>enP (wV a.1 a.2.st))):=by
 refine vF Tryz.func145 ?_
 rintro ⟨m,x⟩ hpre
 obtain ⟨hm,hx,hl⟩:=hpre
 have hm:m.length≤6:=hm
 have hx:okS m.length x.st:=hx
 have hl:x.st.length≤1000000:=hl
 refine fR (x.st.length) (fun k=>[(10,.s (iA k))]) (fun k=>[⟨0,196,[.ob (enO (wV m (x.st.take k)))]⟩]) (fun k=>True) ?_ ?_ ?_ ?_
 ·exact (ai (ai (fun _=>rfl) (iE (by omega))) rfl)
 ·exact (ai (ai rfl (ai rfl (fun _ _=>rfl))) trivial)
 ·trivial
 intro (k:Nat) ⟨hk,_⟩
 refine ah (p:=k<x.st.length) (aB (by dsimp only;omega)) (fun h1=>?_) (fun h1=>?_)
 ·refine iX (k) (x.st.length) ?_
  have hxk:=afT hx h1
  refine ai (by show 0≤(x.st.getD k bV).1∧(x.st.getD k bV).1<6;omega) ?_
  refine ai (by show 0+(x.st.getD k bV).1.toNat*1<6;omega) ?_
  refine nX (k) (ai (ai (fun _=>rfl) (aH (by omega))) rfl) (ai (ai rfl (ai rfl ?_)) trivial) trivial
  intro q hq
  show vS (lM (wV m (x.st.take k))) (0+(x.st.getD k bV).1.toNat*1) (bP (x.st.getD k bV).2) q=lM (wV m (x.st.take (k+1))) q
  rw[ajN,auM,ai6 (by rw[aeV];omega),aO bV h1,aot]
 ·obtain rfl:k=x.st.length:=by omega
  rw[acr]
  refine ai (ai (fun _=>(by exact (fun _ _=>rfl))) ?_) trivial
  exact (ai rfl (fun _ _=>rfl))
def zeroE (act:Int):List Bool:=List.replicate act.toNat false
def jX (act:Int) (l:List Stp) (k:Nat):List Bool:=(l.take k).foldl (fun m x=>wV m x.st) (zeroE act)
def ny (act:Int) (l:List Stp) (k:Nat):List Bool:=(l.take k).foldl (fun m x=>dW m (x.st.map (·.1)) true) (zeroE act)
theorem akU {act:Int} {l:List Stp} {k:Nat} (h:k<l.length):jX act l (k+1)=wV (jX act l k) (l.getD k st0).st:=by unfold jX;rw[aO st0 h,au5];rfl
theorem amR {act:Int} {l:List Stp} {k:Nat} (h:k<l.length):ny act l (k+1)=dW (ny act l k) ((l.getD k st0).st.map (·.1)) true:=by unfold ny;rw[aO st0 h,au5];rfl
theorem ac2 {α β:Type} {f:List β→α→List β} (hf:∀m x,(f m x).length=m.length):∀(l:List α) (m:List β),(l.foldl f m).length=m.length
 | [],_=>rfl
 | x :: l,m=>by rw[avb,ac2 hf l,hf]
theorem anH (act:Int) (l:List Stp) (k:Nat):(jX act l k).length=act.toNat:=by
 refine (ac2 (f:=fun m (x:Stp)=>wV m x.st) (fun m x=>aeV x.st m) (l.take k) (zeroE act)).trans ?_
 unfold zeroE;rw[an7]
theorem apQ (act:Int) (l:List Stp) (k:Nat):(ny act l k).length=act.toNat:=by
 refine (ac2 (f:=fun m (x:Stp)=>dW m (x.st.map (·.1)) true) (fun m x=>lX true (x.st.map (·.1)) m) (l.take k) (zeroE act)).trans ?_
 unfold zeroE;rw[an7]
def abh (s:kY):Int:=dw (fun k=>rJ s.act (s.sts.getD k st0) (jX s.act s.sts k)) s.sts.length
def mK (s:kY):Int:=
 if s.act<1∨6<s.act then 2 else if s.sts.length=0 then 13 else if 64<s.sts.length then 5 else if ¬abh s=0 then abh s
 else if (jX s.act s.sts s.sts.length).any id=true then 9 else if ((ny s.act s.sts s.sts.length).any fun y=>false==y)=true then 13 else 0
theorem avU:∀{m:List Bool},m.length≤6→(!((m.getD 0 false==false)&&((m.getD 1 false==false)&&((m.getD 2 false==false)&&((m.getD 3 false==false)&&((m.getD 4 false==false)&&((m.getD 5 false==false)&&true)))))))=m.any id
 | [],_=>rfl
 | [a],_=>by cases a<;>rfl
 | [a,b],_=>by cases a<;>cases b<;>rfl
 | [a,b,c],_=>by cases a<;>cases b<;>cases c<;>rfl
 | [a,b,c,d],_=>by cases a<;>cases b<;>cases c<;>cases d<;>rfl
 | [a,b,c,d,e],_=>by cases a<;>cases b<;>cases c<;>cases d<;>cases e<;>rfl
 | [a,b,c,d,e,f],_=>by cases a<;>cases b<;>cases c<;>cases d<;>cases e<;>cases f<;>rfl
 | _ :: _ :: _ :: _ :: _ :: _ :: _ :: _,h=>by simp at h
theorem ase (l:List Sk) {j:Nat} (h:j<l.length):(l.map (·.1)).getD j 0=(l.getD j bV).1:=by
 rw[aai,aai,akE,aau h];rfl
theorem ajL {act:Int} {x:Stp} {m:List Bool} (h:rJ act x m=0):mG x=0∧∀y∈x.st,0≤y.1∧y.1<act:=by
 unfold rJ at h
 split at h
 ·rename_i h1;exact absurd h h1
 rename_i h1
 have h1:=aku.1 h1
 split at h
 ·cases h
 rename_i h2
 refine ⟨h1,fun y hy=>⟨((zi h1).2.1 y hy).1,?_⟩⟩
 have:aiH act x.st=false:=by simpa using h2
 have:=ar6.1 this y hy
 simpa using this
theorem afU:∀k,k<6→nG (vals (List.replicate 6 (.bool false))) k=lM [] k:=fun k hk=>by
 match k,hk with
 | 0,_=>rfl | 1,_=>rfl | 2,_=>rfl | 3,_=>rfl | 4,_=>rfl | 5,_=>rfl
theorem akP (act:Int) (k:Nat):lM (zeroE act) k=lM [] k:=by
 unfold lM zeroE
 rw[aai,awJ]
 split<;>rfl
theorem aoL:av Tryz.prog 89 (bq (fun s:kY=>[sqA s]) (fun _=>True) (fun s=>iP (mK s))):=by
 refine vF Tryz.func89 ?_
 rintro (s:kY) hpre
 refine bL (s.act<1) (fun h1=>?_) fun h1=>?_
 ·refine eN (iP (mK s)) ?_
  rw[mK,if_pos (.inl h1)]
  exact rfl
 refine bL (6<s.act) (fun h2=>?_) fun h2=>?_
 ·refine eN (iP (mK s)) ?_
  rw[mK,if_pos (.inr h2)]
  exact rfl
 have e0:¬(s.act<1∨6<s.act):=fun h=>h.elim h1 h2
 refine bE (s.sts.length=0) (fun h3=>?_) fun h3=>?_
 ·refine eN (iP (mK s)) ?_
  rw[mK,if_neg e0,if_pos h3]
  exact rfl
 refine bL (64<s.sts.length) (fun h4=>?_) fun h4=>?_
 ·refine eN (iP (mK s)) ?_
  rw[mK,if_neg e0,if_neg h3,if_pos h4]
  exact rfl
 have hA:mK s=if ¬abh s=0 then abh s else if (jX s.act s.sts s.sts.length).any id=true then 9 else if ((ny s.act s.sts s.sts.length).any fun y=>false==y)=true then 13 else 0:=by
  unfold mK;rw[if_neg e0,if_neg h3,if_neg h4]
 refine fR (s.sts.length) (fun k=>[(32,.s (iA k))]) (fun k=>[⟨1,196,[.ob (enO (jX s.act s.sts k))]⟩,⟨2,196,[.ob (enO (ny s.act s.sts k))]⟩]) (fun k=>∀j,j<k→rJ s.act (s.sts.getD j st0) (jX s.act s.sts j)=0) ?_ ?_ ?_ ?_
 ·exact (ai (ai (fun _=>rfl) (iE (by omega))) rfl)
 ·refine (ai (ai rfl (ai rfl ?_)) (ai (ai rfl (ai rfl ?_)) trivial))
  ·exact fun q hq=>(afU q hq).trans (akP s.act q).symm
  ·exact fun q hq=>(afU q hq).trans (akP s.act q).symm
 ·exact fun j hj=>absurd hj (aee _)
 intro (k:Nat) ⟨hk,hall⟩
 have hel:=anH s.act s.sts k
 have hml:=apQ s.act s.sts k
 refine bL (k<s.sts.length) (fun h5=>?_) fun h5=>?_
 ·refine iX (k) (s.sts.length) ?_
  refine cK (asL) ((s,s.sts.getD k st0,jX s.act s.sts k)) (by exact (ai (ai rfl (ai rfl (fun _ _=>rfl))) (ai (ai (ai rfl (fun _ _=>rfl)) (iE (by simp only[zz,reduceCtorEq]))) (ai rfl (fun _ _=>rfl))))) ((by show s.act≤6;omega)) ?_
  refine aW (p:=rJ s.act (s.sts.getD k st0) (jX s.act s.sts k)=0) (bR (by dsimp only;omega)) (fun h6=>?_) (fun h6=>?_)
  ·have e:abh s=rJ s.act (s.sts.getD k st0) (jX s.act s.sts k):=dJ (f:=fun k=>rJ s.act (s.sts.getD k st0) (jX s.act s.sts k)) h5 hall h6
   refine eN (iP (mK s)) ?_
   rw[hA,if_pos (show ¬abh s=0 by rw[e];exact h6),e]
   exact rfl
  obtain ⟨hck,hso⟩:=ajL h6
  have h6l:=(zi hck).1.2
  have hokS:okS s.act.toNat (s.sts.getD k st0).st:=fun y hy=>by have:=hso y hy;omega
  refine cK ((mM ao9 (jX s.act s.sts k,s.sts.getD k st0) ⟨by show (jX s.act s.sts k).length≤6;omega,by show okS (jX s.act s.sts k).length _;rw[hel];exact hokS,by show (s.sts.getD k st0).st.length≤1000000;omega⟩ (r:=enP (jX s.act s.sts (k+1))) (by rw[akU h5]))) (()) (by exact (ai (ai rfl (fun _ _=>rfl)) (ai (ai rfl (fun _ _=>rfl)) (iE (by simp only[zz,reduceCtorEq]))))) (trivial) ?_
  refine fR ((s.sts.getD k st0).st.length) (fun j=>[(49,.s (iA j))]) (fun j=>[⟨2,196,[.ob (enO (dW (ny s.act s.sts k) (((s.sts.getD k st0).st.map (·.1)).take j) true))]⟩]) (fun j=>True) ?_ ?_ ?_ ?_
  ·exact (ai (ai (fun _=>rfl) (iE (by omega))) rfl)
  ·exact (ai (ai rfl (ai rfl (fun _ _=>rfl))) trivial)
  ·trivial
  intro (j:Nat) ⟨hj,_⟩
  refine ah (p:=j<(s.sts.getD k st0).st.length) (by simp only[zz,reduceCtorEq];omega) (fun h7=>?_) (fun h7=>?_)
  ·refine iX (j) ((s.sts.getD k st0).st.length) ?_
   have hxj:=afT hokS h7
   refine ai (by show 0≤((s.sts.getD k st0).st.getD j bV).1∧((s.sts.getD k st0).st.getD j bV).1<6;omega) ?_
   refine ai (by show 0+((s.sts.getD k st0).st.getD j bV).1.toNat*1<6;omega) ?_
   refine nX (j) (ai (ai (fun _=>rfl) (aH (by omega))) rfl) (ai (ai rfl (ai rfl ?_)) trivial) trivial
   intro q hq
   show vS (lM (dW (ny s.act s.sts k) (((s.sts.getD k st0).st.map (·.1)).take j) true)) (0+((s.sts.getD k st0).st.getD j bV).1.toNat*1) (bP true) q=lM (dW (ny s.act s.sts k) (((s.sts.getD k st0).st.map (·.1)).take (j+1)) true) q
   have eg:=ase (s.sts.getD k st0).st h7
   rw[ajN,auM,ai6 (by rw[lX];omega),aO 0 (by rw[aeu];exact h7),abO,eg]
  ·obtain rfl:j=(s.sts.getD k st0).st.length:=by omega
   have e9:dW (ny s.act s.sts k) (((s.sts.getD k st0).st.map (·.1)).take (s.sts.getD k st0).st.length) true=ny s.act s.sts (k+1):=by
    rw[amR h5,auV (by rw[aeu];exact acn _)]
   refine nX (k) (ai (ai (fun _=>rfl) (aH (by omega))) rfl) (ai (ai rfl (ai rfl (fun _ _=>rfl))) (ai (ai rfl (ai rfl ?_)) trivial)) ?_
   ·exact fun q hq=>by rw[←e9]
   ·intro i hi
    by_cases e:i=k
    ·subst e;exact h6
    ·exact hall i (by omega)
 ·obtain rfl:k=s.sts.length:=by omega
  have e1:abh s=0:=gK hall
  refine ah (p:=(jX s.act s.sts s.sts.length).any id=true) (by (rw[←avU (m:=jX s.act s.sts s.sts.length) (by omega)];first | done | exact Iff.rfl)) (fun h8=>?_) (fun h8=>?_)
  ·refine eN (iP (mK s)) ?_
   rw[hA,if_neg (fun h=>h e1),if_pos h8]
   exact rfl
  refine ai (ai (by decide) (ai (by show 0≤s.act;omega) (by show s.act≤6;omega))) ?_
  refine ei _ (ai (asH) (ei ((ny s.act s.sts s.sts.length,false)) (ei [] (ai (ai rfl (ai rfl (ai rfl (ai rfl (ai (fun _=>Or.inl rfl) (ai (fun _=>ai rfl rfl) (Or.inl rfl))))))) (ai ?_ (ai (by exact trivial) (ai ((by show (ny s.act s.sts s.sts.length).length≤1000000;omega)) ?_)))))))
  ·refine (ai (ai rfl (ai ?_ ?_)) rfl)
   ·show s.act.toNat-(0:Int).toNat=(ny s.act s.sts s.sts.length).length
    rw[hml];rfl
   ·intro q hq
    show [lM (ny s.act s.sts s.sts.length) ((0:Int).toNat+q)]=_
    rw[show (0:Int).toNat+q=q by simp];rfl
  refine aC (b:=(ny s.act s.sts s.sts.length).any fun y=>false==y) rfl (fun h9=>?_) (fun h9=>?_)
  ·refine eN (iP (mK s)) ?_
   rw[hA,if_neg (fun h=>h e1),if_neg h8,if_pos h9]
   exact rfl
  ·refine eN (iP (mK s)) ?_
   rw[hA,if_neg (fun h=>h e1),if_neg h8,if_neg (by rw[h9];decide)]
   exact rfl
def fG (n:Int):Ex:=.node 1 n []
def qd (n:Int):List PV:=[iP 1,iP n,.val (.slice none 0 0)]
def l7 (y:Sk):Int:=2*y.1+if y.2 then 1 else 0
def aha (l:List Sk):Ex:=match l with
 | [y]=>fG (l7 y)
 | l=>.node 3 0 (l.map fun y=>fG (l7 y))
def abQ (l:List Sk) (k:Nat):List PV:=qd (l7 (l.getD k bV))
abbrev C3 := PV × PV × PV
def qG (c:C3):List PV:=[c.1,c.2.1,c.2.2]
def o8 (n:Int):C3:=(iP 1,iP n,.val (.slice none 0 0))
def oJ (l:List Sk):C3:=(if l.length=1 then iP 1 else iP 3,if l.length=1 then iP (l7 (l.getD 0 bV)) else iP 0,if l.length=1 then .val (.slice none 0 0) else .seq l.length (abQ l))
def aeG (l:List Sk):List PV:=qG (oJ l)
theorem aj6 {l:List Sk} (h:l.length=1):aeG l=qd (l7 (l.getD 0 bV)):=by unfold aeG qG oJ;simp only[h,if_true];rfl
theorem aht {l:List Sk} (h:¬l.length=1):aeG l=[iP 3,iP 0,.seq l.length (abQ l)]:=by unfold aeG qG oJ;simp only[h,if_false]
theorem sF:av Tryz.prog 91 (bq (fun n:Int=>[iA n]) (fun _=>True) (fun n=>.agg (qd n))):=by
 refine vF Tryz.func91 ?_
 rintro (n:Int) hpre
 refine eN _ ?_
 exact (ai rfl (ai rfl rfl))
theorem pX:av Tryz.prog 102 (bq (fun n:Int=>[iA n]) (fun _=>True) (fun n=>.agg (qd n))):=by
 refine vF Tryz.func102 ?_
 rintro (n:Int) hpre
 refine eN _ ?_
 exact (ai rfl (ai rfl rfl))
def ajm (l:List Sk):Prop:=l.length≤1000∧okS 6 l
theorem avf {l:List Sk} (h:ajm l) {k:Nat} (hk:k<l.length):0≤(l.getD k bV).1∧(l.getD k bV).1<6:=by
 have:=afT h.2 hk;omega
def axj (l:List Sk) (k:Nat):LV:=.rw 90 3 k (abQ l)
theorem aj7 (l:List Sk) (k:Nat):∀j,j<k+1→bI k (abQ l) (aU 3 (qd (l7 (l.getD k bV)))) j=abQ l j:=by
 intro j hj
 unfold bI
 by_cases h:j<k
 ·rw[if_pos h]
 ·obtain rfl:j=k:=by omega
  rw[if_neg h,auO];rfl
theorem aiT:av Tryz.prog 93 (bQ (fun l:List Sk=>[anl l]) (fun l=>ajm l∧0<l.length) (fun l=>.agg (aeG l))):=by
 refine vF Tryz.func93 ?_
 rintro (l:List Sk) hpre
 obtain ⟨hs,hp⟩:=hpre
 have hl:l.length≤1000:=hs.1
 refine fR (l.length) (fun k=>[(9,.s (iA k)),(3,axj l k)]) (fun k=>[]) (fun k=>True) (by exact (ai (ai (ai (fun _=>rfl) (iE (by omega))) rfl) rfl)) (by exact trivial) ?_ ?_
 ·trivial
 intro (k:Nat) ⟨hk,_⟩
 refine bL (k<l.length) (fun h1=>?_) fun h1=>?_
 ·refine iX (k) (l.length) ?_
  have hx:=avf hs h1
  have hw:IntKind.i64.wrap (2*(l.getD k bV).1)=2*(l.getD k bV).1:=dD (by omega) (by omega)
  refine aC (b:=(l.getD k bV).2) rfl (fun h2=>?_) (fun h2=>?_)
  ·refine ei _ (ai (sF) (ei (l7 (l.getD k bV)) (ei [] (ai (a4 (ai (fun _=>Or.inl rfl) (ai nof (Or.inl rfl)))) (ai ?_ (ai (by exact trivial) (ai (trivial) ?_)))))))
   ·show IntKind.i64.wrap (IntKind.i64.wrap (2*(l.getD k bV).1)+1)=l7 (l.getD k bV)
    rw[hw,dD (by omega) (by omega)];unfold l7;rw[h2];rfl
   refine ai (mxL (n:=k+1) (by omega) (by decide)) (ai (lt1 rfl) ?_)
   refine nX (k) (ai (ai (ai (fun _=>rfl) (aH (by omega))) rfl) (ai rfl (ai rfl (ai rfl ?_)))) trivial trivial
   exact aj7 l k
  ·refine ei _ (ai (sF) (ei (l7 (l.getD k bV)) (ei [] (ai (a4 (ai (fun _=>Or.inl rfl) (ai nof (Or.inl rfl)))) (ai ?_ (ai (by exact trivial) (ai (trivial) ?_)))))))
   ·show IntKind.i64.wrap (2*(l.getD k bV).1)=l7 (l.getD k bV)
    rw[hw];unfold l7;rw[h2];simp
   refine ai (mxL (n:=k+1) (by omega) (by decide)) (ai (lt1 rfl) ?_)
   refine nX (k) (ai (ai (ai (fun _=>rfl) (aH (by omega))) rfl) (ai rfl (ai rfl (ai rfl ?_)))) trivial trivial
   exact aj7 l k
 ·obtain rfl:k=l.length:=by omega
  refine bE (l.length=1) (fun h3=>?_) fun h3=>?_
  ·refine ai (ai (by decide) (by show (0:Int)<(l.length:Int);omega)) ?_
   refine ai (by show 0<l.length;omega) ?_
   refine eF (.agg (aeG l)) ?_
   rw[aj6 h3]
   exact (ai rfl (ai (iE rfl) rfl))
  ·refine eF (.agg (aeG l)) ?_
   rw[aht h3]
   exact (ai rfl (ai rfl (ai rfl (fun _ _=>rfl))))
def yj (act:Int) (p:List (Stp×C3)) (x:Stp):List (Stp×C3):=
 if 0<x.wt then (p++[(⟨x.st,0⟩,oJ x.st)])++[(⟨[],x.wt⟩,o8 (2*act+1+((p.length+1:Nat):Int)))] else p++[(⟨x.st,0⟩,oJ x.st)]
def avc (act:Int):List (Stp×C3):=[(⟨[],0⟩,o8 (2*act))]
def eB (s:kY) (k:Nat):List (Stp×C3):=(s.sts.take k).foldl (yj s.act) (avc s.act)
theorem ahN {s:kY} {k:Nat} (h:k<s.sts.length):eB s (k+1)=yj s.act (eB s k) (s.sts.getD k st0):=by unfold eB;rw[aO st0 h,au5];rfl
theorem ars (act:Int) (p:List (Stp×C3)) (x:Stp):(yj act p x).length≤p.length+2∧p.length<(yj act p x).length:=by
 unfold yj
 split
 ·simp only[aao,aog,axS];omega
 ·simp only[aao,aog,axS];omega
theorem akq (s:kY):∀k,k≤s.sts.length→(eB s k).length≤2*k+1∧0<(eB s k).length
 | 0,_=>⟨by show (avc s.act).length≤1;exact acn _,by show 0<1;decide⟩
 | k+1,h=>by
  obtain ⟨h1,h2⟩:=akq s k (by omega)
  obtain ⟨h3,h4⟩:=ars s.act (eB s k) (s.sts.getD k st0)
  rw[ahN (by omega)];omega
abbrev SC := Stp × C3
def uy:SC:=(st0,(iP 0,iP 0,.val (.slice none 0 0)))
def yY (x:Stp):List PV:=[if x.st=[] then .val (.slice none 0 0) else adh x.st,iP x.wt]
def aeZ:PV:=.seq 1 (aU 1 [.val (.string (strOf [115,116,97,114,116]))])
def arn (act:Int) (ins:PV) (st tr:SV):Ob:=.cells 39 [iA act,.p false ins,st,tr]
def ap6 (s:SV):Ob:=.cells 88 [s]
def avo (p:List SC):Ob:=.row 98 2 p.length (fun k=>yY (p.getD k uy).1)
def aui (p:List SC):Ob:=.row 90 3 p.length (fun k=>qG (p.getD k uy).2)
def iT:SV:=.p false (.val (.slice none 0 0))
structure aez where
 act:Int
 p:List SC
 s0:PV
 wt:Int
 e0:PV
 e1:PV
 e2:PV
 x:SC
def aez.ok (a:aez):Prop:=a.p.length≤1000∧yY a.x.1=[a.s0,iP a.wt]∧qG a.x.2=[a.e0,a.e1,a.e2]
def asw (a:aez):List SV:=[.p false (.agg [a.s0,iP a.wt]),.p false (.agg [a.e0,a.e1,a.e2]),.own 0 0,.own 1 0]
def avK (n:Bool) (a:aez):Prop:=a.ok∧(n=true→a.p=[])
def av9:Bool→aez→List Ob
 | true,a=>[arn a.act aeZ iT iT,ap6 iT]
 | false,a=>[arn a.act aeZ (.row 2) iT,ap6 (.row 3),avo a.p,aui a.p]
def auP (a:aez):List Ob:=[arn a.act aeZ (.row 2) iT,ap6 (.row 3),avo (a.p++[a.x]),aui (a.p++[a.x])]
def avA (n:Bool):xH:={ A:=aez,fix:=2,args:=asw,objs:=av9 n,pre:=avK n,res:=fun _=>.tup [],objs':=auP,inl:=[4000009,4000013] }
theorem xS (f:SC→List PV) (p:List SC) (x:SC) {g:Nat→List PV} (hg:g 0=f x):∀k,k<p.length+1→bI p.length (fun k=>f (p.getD k uy)) g k=f ((p++[x]).getD k uy):=by
 intro k hk
 unfold bI
 by_cases h:k<p.length
 ·rw[if_pos h]
  show f (p.getD k uy)=_
  rw[aai,aai,alx h]
 ·obtain rfl:k=p.length:=by omega
  rw[if_neg h,auO,hg,aai,ael (acn _),auO];rfl
theorem agr:rX Tryz.prog 90 (avA false):=by
 refine vG Tryz.func90 ?_
 rintro ⟨act,p,s0,wt,e0,e1,e2,x⟩ hpre
 obtain ⟨⟨hp,hx,he⟩,_⟩:=hpre
 have hp:p.length≤1000:=hp
 have hx:yY x.1=[s0,iP wt]:=hx
 have he:qG x.2=[e0,e1,e2]:=he
 refine dR (.one 0 (.one 1 (.one 2 (.rd 5 [4] (.rd 6 [4] (.alt 3 (.alt 4 (.one 9 (.one 7 (.one 8 (.one 10 (.one 11 .done))))) (.alt 7 (.one 4 (.one 9 (.one 8 (.one 10 (.one 11 .done))))) .stop)) (.alt 7 (.one 3 (.one 4 (.one 9 (.one 8 (.one 10 (.one 11 .done)))))) .stop))))))) ?_
 refine ai ?_ (ai ?_ trivial)
 ·refine ai ?_ (ai ?_ trivial)
  ·refine ai (mxL (n:=p.length+1) (by omega) (by decide)) (ai (lt1 rfl) ?_)
   refine ai (mxL (n:=p.length+1) (by omega) (by decide)) (ai (lt1 rfl) ?_)
   refine ei [0,1,6,7] (ai (ai rfl (ai rfl rfl)) (ai trivial ?_))
   refine (ai (ai rfl (ai rfl (ai (ai rfl (fun _ _=>rfl)) (ai rfl rfl)))) (ai (ai rfl rfl) (ai (ai rfl (ai rfl (ai ?_ ?_))) (ai rfl (ai rfl (ai ?_ ?_))))))
   ·show p.length+1=(p++[x]).length;rw[aao];rfl
   ·exact fun k hk=>xS (fun q=>yY q.1) p x (g:=aU 2 [s0,iP wt]) hx.symm k (by have hk:k<(p++[x]).length:=hk;rwa [aao] at hk)
   ·show p.length+1=(p++[x]).length;rw[aao];rfl
   ·exact fun k hk=>xS (fun q=>qG q.2) p x (g:=aU 3 [e0,e1,e2]) he.symm k (by have hk:k<(p++[x]).length:=hk;rwa [aao] at hk)
  ·refine ai (mxL (n:=p.length+1) (by omega) (by decide)) (ai (lt1 rfl) ?_)
   refine ai (mxL (n:=p.length+1) (by omega) (by decide)) (ai (lt1 rfl) ?_)
   refine ei [0,1,6,7] (ai (ai rfl (ai rfl rfl)) (ai trivial ?_))
   refine (ai (ai rfl (ai rfl (ai (ai rfl (fun _ _=>rfl)) (ai rfl rfl)))) (ai (ai rfl rfl) (ai (ai rfl (ai rfl (ai ?_ ?_))) (ai rfl (ai rfl (ai ?_ ?_))))))
   ·show p.length+1=(p++[x]).length;rw[aao];rfl
   ·exact fun k hk=>xS (fun q=>yY q.1) p x (g:=aU 2 [s0,iP wt]) hx.symm k (by have hk:k<(p++[x]).length:=hk;rwa [aao] at hk)
   ·show p.length+1=(p++[x]).length;rw[aao];rfl
   ·exact fun k hk=>xS (fun q=>qG q.2) p x (g:=aU 3 [e0,e1,e2]) he.symm k (by have hk:k<(p++[x]).length:=hk;rwa [aao] at hk)
 ·refine ai (mxL (n:=p.length+1) (by omega) (by decide)) (ai (lt1 rfl) ?_)
  refine ai (mxL (n:=p.length+1) (by omega) (by decide)) (ai (lt1 rfl) ?_)
  refine ei [0,1,6,7] (ai (ai rfl (ai rfl rfl)) (ai trivial ?_))
  refine (ai (ai rfl (ai rfl (ai (ai rfl (fun _ _=>rfl)) (ai rfl rfl)))) (ai (ai rfl rfl) (ai (ai rfl (ai rfl (ai ?_ ?_))) (ai rfl (ai rfl (ai ?_ ?_))))))
  ·show p.length+1=(p++[x]).length;rw[aao];rfl
  ·exact fun k hk=>xS (fun q=>yY q.1) p x (g:=aU 2 [s0,iP wt]) hx.symm k (by have hk:k<(p++[x]).length:=hk;rwa [aao] at hk)
  ·show p.length+1=(p++[x]).length;rw[aao];rfl
  ·exact fun k hk=>xS (fun q=>qG q.2) p x (g:=aU 3 [e0,e1,e2]) he.symm k (by have hk:k<(p++[x]).length:=hk;rwa [aao] at hk)
theorem asD:rX Tryz.prog 90 (avA true):=by
 refine vG Tryz.func90 ?_
 rintro ⟨act,p,s0,wt,e0,e1,e2,x⟩ hpre
 obtain ⟨⟨hp,hx,he⟩,hn⟩:=hpre
 obtain rfl:p=[]:=hn rfl
 have hx:yY x.1=[s0,iP wt]:=hx
 have he:qG x.2=[e0,e1,e2]:=he
 refine dR (.one 0 (.one 1 (.one 2 (.rd 5 [4] (.rd 6 [4] (.alt 3 (.alt 4 (.one 9 (.one 7 (.one 8 (.one 10 (.one 11 .done))))) (.alt 7 (.one 4 (.one 9 (.one 8 (.one 10 (.one 11 .done))))) .stop)) (.alt 7 (.one 3 (.one 4 (.one 9 (.one 8 (.one 10 (.one 11 .done)))))) .stop))))))) ?_
 refine ai ?_ (ai ?_ trivial)
 ·refine ai ?_ (ai ?_ trivial)
  ·refine ai (ai (by decide) (by decide)) (ai (lt1 rfl) ?_)
   refine ai (ai (by decide) (by decide)) (ai (lt1 rfl) ?_)
   refine ei [0,1,4,5] (ai (ai rfl (ai rfl rfl)) (ai trivial ?_))
   refine (ai (ai rfl (ai rfl (ai (ai rfl (fun _ _=>rfl)) (ai rfl rfl)))) (ai (ai rfl rfl) (ai (ai rfl (ai rfl (ai rfl ?_))) (ai rfl (ai rfl (ai rfl ?_))))))
   ·intro k hk
    have hk:k<1:=hk
    obtain rfl:k=0:=by omega
    exact hx.symm
   ·intro k hk
    have hk:k<1:=hk
    obtain rfl:k=0:=by omega
    exact he.symm
  ·refine ai (ai (by decide) (by decide)) (ai (lt1 rfl) ?_)
   refine ai (ai (by decide) (by decide)) (ai (lt1 rfl) ?_)
   refine ei [0,1,4,5] (ai (ai rfl (ai rfl rfl)) (ai trivial ?_))
   refine (ai (ai rfl (ai rfl (ai (ai rfl (fun _ _=>rfl)) (ai rfl rfl)))) (ai (ai rfl rfl) (ai (ai rfl (ai rfl (ai rfl ?_))) (ai rfl (ai rfl (ai rfl ?_))))))
   ·intro k hk
    have hk:k<1:=hk
    obtain rfl:k=0:=by omega
    exact hx.symm
   ·intro k hk
    have hk:k<1:=hk
    obtain rfl:k=0:=by omega
    exact he.symm
 ·refine ai (ai (by decide) (by decide)) (ai (lt1 rfl) ?_)
  refine ai (ai (by decide) (by decide)) (ai (lt1 rfl) ?_)
  refine ei [0,1,4,5] (ai (ai rfl (ai rfl rfl)) (ai trivial ?_))
  refine (ai (ai rfl (ai rfl (ai (ai rfl (fun _ _=>rfl)) (ai rfl rfl)))) (ai (ai rfl rfl) (ai (ai rfl (ai rfl (ai rfl ?_))) (ai rfl (ai rfl (ai rfl ?_))))))
  ·intro k hk
   have hk:k<1:=hk
   obtain rfl:k=0:=by omega
   exact hx.symm
  ·intro k hk
   have hk:k<1:=hk
   obtain rfl:k=0:=by omega
   exact he.symm
def av0:Spec:=bq (fun l:List (Sk)=>[anl l]) (fun l=>l.length≤1000000) (fun l=>adh l)
theorem atp:av Tryz.prog 92 av0:=by
 refine vF Tryz.func92 ?_
 rintro (l:List (Sk)) hpre
 have hl:l.length≤1000000:=hpre
 intro b hb
 refine gV (fun h1=>?_) (fun h1=>?_)
 ·have h1:l.length=0:=hb h1
  refine eN (adh l) ?_
  rw[awK.1 h1]
  exact rfl
 ·refine ai (mxL (n:=0+l.length) (by omega) (by decide)) (ai (fun _ _=>rfl) ?_)
  refine ai (ai (fun _ k hk=>by rw[ab9 k hk];rfl) ?_) trivial
  refine (ai ?_ (fun _ _=>rfl))
  exact ajN _
def toN (k n:Nat):Int:=(((k+1) % n:Nat):Int)
def adB (p:List SC) (k:Nat):List PV:=[.seq 1 (aU 1 [iP (k:Int)]),.seq 1 (aU 1 [iP (toN k p.length)]),(p.getD k uy).2.1,(p.getD k uy).2.2.1,(p.getD k uy).2.2.2]
def awO (p:List SC) (k:Nat):LV:=.rw 101 5 k (adB p)
def aiG (act:Int) (p:List SC):PV:=.agg [iP act,aeZ,.seq p.length (fun k=>yY (p.getD k uy).1),.seq p.length (adB p)]
def rM (s:kY):Int:=if ¬mK s=0 then mK s else if 24<(eB s s.sts.length).length then 5 else 0
def ofRaw (s:kY):PV:=if rM s=0 then .tup [aiG s.act (eB s s.sts.length),iP 0] else .tup [.agg [iP 0,.val (.slice none 0 0),.val (.slice none 0 0),.val (.slice none 0 0)],iP (rM s)]
theorem alH (p:List SC) (k:Nat) {g:Nat→List PV} (hg:g 0=adB p k):∀j,j<k+1→bI k (adB p) g j=adB p j:=by
 intro j hj
 unfold bI
 by_cases h:j<k
 ·rw[if_pos h]
 ·obtain rfl:j=k:=by omega
  rw[if_neg h,auO,hg]
theorem seq_ok {s:kY} (h:mK s=0):(1≤s.act∧s.act≤6)∧s.sts.length≤64∧∀x∈s.sts,mG x=0:=by
 unfold mK at h
 split at h
 ·cases h
 rename_i h1
 split at h
 ·cases h
 split at h
 ·cases h
 rename_i h3
 split at h
 ·rename_i h4;exact absurd h h4
 rename_i h4
 refine ⟨by omega,by omega,fun x hx=>?_⟩
 obtain ⟨k,hk,rfl⟩:=aoG hx
 have:=pJ (aku.1 h4) k hk
 rw[show s.sts.getD k st0=s.sts[k] by rw[aai,aau hk];rfl] at this
 exact (ajL this).1
set_option maxHeartbeats 16000000 in
theorem ak4:av Tryz.prog 49 (bQ (fun s:kY=>[sqA s]) (fun _=>True) ofRaw):=by
 refine vI [90,3000020,4000077,4000084] Tryz.func49 ?_
 rintro (s:kY) hpre
 refine cK (aoL) (s) (by exact (ai rfl (ai rfl (fun _ _=>rfl)))) (trivial) ?_
 refine bN (mK s=0) (fun h1=>?_) fun h1=>?_
 ·have e:rM s=mK s:=if_pos h1
  refine eF (ofRaw s) ?_
  rw[ofRaw,e,if_neg h1]
  exact (ai (ai rfl (ai rfl (ai rfl rfl))) rfl)
 obtain ⟨⟨ha1,ha6⟩,h64,hck⟩:=seq_ok h1
 have hw2:IntKind.i64.wrap (2*s.act)=2*s.act:=dD (by omega) (by omega)
 refine ei _ (ai (sF) (ei (2*s.act) (ei [] (ai (a4 (ai (fun _=>Or.inl rfl) (ai nof (Or.inl rfl)))) (ai ?_ (ai (by exact trivial) (ai (trivial) ?_)))))))
 ·exact hw2
 refine gI (asD) (⟨s.act,[],.val (.slice none 0 0),0,iP 1,iP (2*s.act),.val (.slice none 0 0),(⟨[],0⟩,o8 (2*s.act))⟩) [3,4] (by exact (ai (ai rfl rfl) (ai (ai rfl (ai (iE (by omega)) rfl)) (ai (ai rfl rfl) (ai rfl rfl))))) (by exact (ai (ai rfl (ai rfl (ai (ai rfl (fun _ _=>rfl)) (ai rfl rfl)))) (ai rfl rfl))) (⟨⟨ah8 _,rfl,rfl⟩,fun _=>rfl⟩) ?_
 have hL:=akq s
 refine fR (s.sts.length) (fun k=>[(34,.s (iA k))]) (fun k=>[⟨3,39,[.s (iA s.act),.s (.p false aeZ),.rw 98 2 (eB s k).length (fun j=>yY ((eB s k).getD j uy).1),.s iT]⟩,⟨4,88,[.rw 90 3 (eB s k).length (fun j=>qG ((eB s k).getD j uy).2)]⟩]) (fun k=>True) ?_ ?_ ?_ ?_
 ·exact (ai (ai (fun _=>rfl) (iE (by omega))) rfl)
 ·exact (ai (ai (ai (ai nof rfl) rfl) (ai (ai (ai nof (ai rfl (fun _ _=>rfl))) rfl) (ai (ai rfl (ai rfl (ai rfl (fun _ _=>rfl)))) (ai (ai nof rfl) rfl)))) (ai (ai rfl (ai rfl (ai rfl (fun _ _=>rfl)))) trivial))
 ·trivial
 intro (k:Nat) ⟨hk,_⟩
 obtain ⟨hk1,hk2⟩:=hL k hk
 refine bL (k<s.sts.length) (fun h2=>?_) fun h2=>?_
 ·refine iX (k) (s.sts.length) ?_
  have hm:=aay (bB st0 h2)
  obtain ⟨⟨hx0,hx6⟩,hxs,hxw⟩:=zi (hck _ hm)
  have hsm:ajm (s.sts.getD k st0).st:=⟨by omega,hxs⟩
  have hst:=ahN h2
  have hne:(s.sts.getD k st0).st≠[]:=fun e=>by rw[e] at hx0;simp at hx0
  refine dR (.one 0 (.one 1 (.one 2 (.one 5 (.one 6 (.one 3 (.one 4 (.one 7 (.wr 8 .done))))))))) ?_
  refine cK (atp) ((s.sts.getD k st0).st) (by exact (ai rfl (fun _ _=>rfl))) ((by show (s.sts.getD k st0).st.length≤1000000;omega)) ?_
  by_cases h1l:(s.sts.getD k st0).st.length=1
  ·have ee:=aj6 h1l
   refine cK ((mM aiT (s.sts.getD k st0).st ⟨hsm,hx0⟩ (r:=.agg [iP 1,iP (l7 ((s.sts.getD k st0).st.getD 0 bV)),.val (.slice none 0 0)]) (congrArg PV.agg ee))) (()) (by exact (ai rfl (fun _ _=>rfl))) (trivial) ?_
   refine gI (agr) (⟨s.act,eB s k,adh (s.sts.getD k st0).st,0,iP 1,iP (l7 ((s.sts.getD k st0).st.getD 0 bV)),.val (.slice none 0 0),(⟨(s.sts.getD k st0).st,0⟩,oJ (s.sts.getD k st0).st)⟩) [3,4,7,8] (by exact (ai (ai (ai rfl (fun _ _=>rfl)) rfl) (ai (ai rfl (ai rfl rfl)) (ai (ai rfl rfl) (ai rfl rfl))))) (by exact (ai (ai rfl (ai rfl (ai (ai rfl (fun _ _=>rfl)) (ai rfl rfl)))) (ai (ai rfl rfl) (ai (ai rfl (ai rfl (ai rfl (fun _ _=>rfl)))) (ai rfl (ai rfl (ai rfl (fun _ _=>rfl)))))))) (⟨⟨by show (eB s k).length≤1000;omega,by show yY ⟨(s.sts.getD k st0).st,0⟩=_;unfold yY;rw[if_neg hne],ee⟩,fun h=>by cases h⟩) ?_
   refine ah (p:=0<(s.sts.getD k st0).wt) (aB Iff.rfl) (fun h3=>?_) (fun h3=>?_)
   ·have e:eB s (k+1)=(eB s k++[(⟨(s.sts.getD k st0).st,0⟩,oJ (s.sts.getD k st0).st)])++[(⟨[],(s.sts.getD k st0).wt⟩,o8 (2*s.act+1+(((eB s k).length+1:Nat):Int)))]:=by rw[hst];unfold yj;rw[if_pos h3]
    have hpl:(eB s k++[((⟨(s.sts.getD k st0).st,0⟩:Stp),oJ (s.sts.getD k st0).st)]).length=(eB s k).length+1:=by rw[aao];rfl
    refine dR (.one 0 (.one 1 (.one 2 (.one 3 (.one 4 (.one 5 (.one 6 (.one 7 (.one 8 (.one 9 (.one 10 (.wr 11 .done)))))))))))) ?_
    refine ei _ (ai (sF) (ei (2*s.act+1+(((eB s k).length+1:Nat):Int)) (ei [] (ai (a4 (ai (fun _=>Or.inl rfl) (ai nof (Or.inl rfl)))) (ai ?_ (ai (by exact trivial) (ai (trivial) ?_)))))))
    ·show IntKind.i64.wrap (IntKind.i64.wrap (IntKind.i64.wrap (2*s.act)+1)+(((eB s k++[((⟨(s.sts.getD k st0).st,0⟩:Stp),oJ (s.sts.getD k st0).st)]).length:Nat):Int))=_
     rw[hpl,hw2,dD (n:=2*s.act+1) (by omega) (by omega),dD (by omega) (by omega)]
    refine gI (agr) (⟨s.act,eB s k++[(⟨(s.sts.getD k st0).st,0⟩,oJ (s.sts.getD k st0).st)],.val (.slice none 0 0),(s.sts.getD k st0).wt,iP 1,iP (2*s.act+1+(((eB s k).length+1:Nat):Int)),.val (.slice none 0 0),(⟨[],(s.sts.getD k st0).wt⟩,o8 (2*s.act+1+(((eB s k).length+1:Nat):Int)))⟩) [3,4,10,11] (by exact (ai (ai rfl (iE (by simp only[zz,reduceCtorEq]))) (ai (ai rfl (ai rfl rfl)) (ai (ai rfl rfl) (ai rfl rfl))))) (by exact (ai (ai rfl (ai rfl (ai (ai rfl (fun _ _=>rfl)) (ai rfl rfl)))) (ai (ai rfl rfl) (ai (ai rfl (ai rfl (ai rfl (fun _ _=>rfl)))) (ai rfl (ai rfl (ai rfl (fun _ _=>rfl)))))))) (⟨⟨by show (eB s k++[((⟨(s.sts.getD k st0).st,0⟩:Stp),oJ (s.sts.getD k st0).st)]).length≤1000;rw[hpl];omega,rfl,rfl⟩,fun h=>by cases h⟩) ?_
    refine nX (k) (ai (ai (fun _=>rfl) (aH (by omega))) rfl) (ai (ai (ai (ai nof rfl) rfl) (ai (ai (ai nof (ai rfl (fun _ _=>rfl))) rfl) (ai (ai rfl (ai rfl (ai ?_ ?_))) (ai (ai nof rfl) rfl)))) (ai (ai rfl (ai rfl (ai ?_ ?_))) trivial)) trivial
    all_goals rw[e]
    ·exact fun _ _=>rfl
    ·exact fun _ _=>rfl
   ·have e:eB s (k+1)=eB s k++[(⟨(s.sts.getD k st0).st,0⟩,oJ (s.sts.getD k st0).st)]:=by rw[hst];unfold yj;rw[if_neg h3]
    refine nX (k) (ai (ai (fun _=>rfl) (aH (by omega))) rfl) (ai (ai (ai (ai nof rfl) rfl) (ai (ai (ai nof (ai rfl (fun _ _=>rfl))) rfl) (ai (ai rfl (ai rfl (ai ?_ ?_))) (ai (ai nof rfl) rfl)))) (ai (ai rfl (ai rfl (ai ?_ ?_))) trivial)) trivial
    all_goals rw[e]
    ·exact fun _ _=>rfl
    ·exact fun _ _=>rfl
  ·have ee:=aht h1l
   refine cK ((mM aiT (s.sts.getD k st0).st ⟨hsm,hx0⟩ (r:=.agg [iP 3,iP 0,.seq (s.sts.getD k st0).st.length (abQ (s.sts.getD k st0).st)]) (congrArg PV.agg ee))) (()) (by exact (ai rfl (fun _ _=>rfl))) (trivial) ?_
   refine gI (agr) (⟨s.act,eB s k,adh (s.sts.getD k st0).st,0,iP 3,iP 0,.seq (s.sts.getD k st0).st.length (abQ (s.sts.getD k st0).st),(⟨(s.sts.getD k st0).st,0⟩,oJ (s.sts.getD k st0).st)⟩) [3,4,7,8] (by exact (ai (ai (ai rfl (fun _ _=>rfl)) rfl) (ai (ai rfl (ai rfl (ai rfl (fun _ _=>rfl)))) (ai (ai rfl rfl) (ai rfl rfl))))) (by exact (ai (ai rfl (ai rfl (ai (ai rfl (fun _ _=>rfl)) (ai rfl rfl)))) (ai (ai rfl rfl) (ai (ai rfl (ai rfl (ai rfl (fun _ _=>rfl)))) (ai rfl (ai rfl (ai rfl (fun _ _=>rfl)))))))) (⟨⟨by show (eB s k).length≤1000;omega,by show yY ⟨(s.sts.getD k st0).st,0⟩=_;unfold yY;rw[if_neg hne],ee⟩,fun h=>by cases h⟩) ?_
   refine ah (p:=0<(s.sts.getD k st0).wt) (aB Iff.rfl) (fun h3=>?_) (fun h3=>?_)
   ·have e:eB s (k+1)=(eB s k++[(⟨(s.sts.getD k st0).st,0⟩,oJ (s.sts.getD k st0).st)])++[(⟨[],(s.sts.getD k st0).wt⟩,o8 (2*s.act+1+(((eB s k).length+1:Nat):Int)))]:=by rw[hst];unfold yj;rw[if_pos h3]
    have hpl:(eB s k++[((⟨(s.sts.getD k st0).st,0⟩:Stp),oJ (s.sts.getD k st0).st)]).length=(eB s k).length+1:=by rw[aao];rfl
    refine dR (.one 0 (.one 1 (.one 2 (.one 3 (.one 4 (.one 5 (.one 6 (.one 7 (.one 8 (.one 9 (.one 10 (.wr 11 .done)))))))))))) ?_
    refine ei _ (ai (sF) (ei (2*s.act+1+(((eB s k).length+1:Nat):Int)) (ei [] (ai (a4 (ai (fun _=>Or.inl rfl) (ai nof (Or.inl rfl)))) (ai ?_ (ai (by exact trivial) (ai (trivial) ?_)))))))
    ·show IntKind.i64.wrap (IntKind.i64.wrap (IntKind.i64.wrap (2*s.act)+1)+(((eB s k++[((⟨(s.sts.getD k st0).st,0⟩:Stp),oJ (s.sts.getD k st0).st)]).length:Nat):Int))=_
     rw[hpl,hw2,dD (n:=2*s.act+1) (by omega) (by omega),dD (by omega) (by omega)]
    refine gI (agr) (⟨s.act,eB s k++[(⟨(s.sts.getD k st0).st,0⟩,oJ (s.sts.getD k st0).st)],.val (.slice none 0 0),(s.sts.getD k st0).wt,iP 1,iP (2*s.act+1+(((eB s k).length+1:Nat):Int)),.val (.slice none 0 0),(⟨[],(s.sts.getD k st0).wt⟩,o8 (2*s.act+1+(((eB s k).length+1:Nat):Int)))⟩) [3,4,10,11] (by exact (ai (ai rfl (iE (by simp only[zz,reduceCtorEq]))) (ai (ai rfl (ai rfl rfl)) (ai (ai rfl rfl) (ai rfl rfl))))) (by exact (ai (ai rfl (ai rfl (ai (ai rfl (fun _ _=>rfl)) (ai rfl rfl)))) (ai (ai rfl rfl) (ai (ai rfl (ai rfl (ai rfl (fun _ _=>rfl)))) (ai rfl (ai rfl (ai rfl (fun _ _=>rfl)))))))) (⟨⟨by show (eB s k++[((⟨(s.sts.getD k st0).st,0⟩:Stp),oJ (s.sts.getD k st0).st)]).length≤1000;rw[hpl];omega,rfl,rfl⟩,fun h=>by cases h⟩) ?_
    refine nX (k) (ai (ai (fun _=>rfl) (aH (by omega))) rfl) (ai (ai (ai (ai nof rfl) rfl) (ai (ai (ai nof (ai rfl (fun _ _=>rfl))) rfl) (ai (ai rfl (ai rfl (ai ?_ ?_))) (ai (ai nof rfl) rfl)))) (ai (ai rfl (ai rfl (ai ?_ ?_))) trivial)) trivial
    all_goals rw[e]
    ·exact fun _ _=>rfl
    ·exact fun _ _=>rfl
   ·have e:eB s (k+1)=eB s k++[(⟨(s.sts.getD k st0).st,0⟩,oJ (s.sts.getD k st0).st)]:=by rw[hst];unfold yj;rw[if_neg h3]
    refine nX (k) (ai (ai (fun _=>rfl) (aH (by omega))) rfl) (ai (ai (ai (ai nof rfl) rfl) (ai (ai (ai nof (ai rfl (fun _ _=>rfl))) rfl) (ai (ai rfl (ai rfl (ai ?_ ?_))) (ai (ai nof rfl) rfl)))) (ai (ai rfl (ai rfl (ai ?_ ?_))) trivial)) trivial
    all_goals rw[e]
    ·exact fun _ _=>rfl
    ·exact fun _ _=>rfl
 ·obtain rfl:k=s.sts.length:=by omega
  refine bL (24<(eB s s.sts.length).length) (fun h4=>?_) fun h4=>?_
  ·have e:rM s=5:=by unfold rM;rw[if_neg (fun h=>h h1),if_pos h4]
   refine eF (ofRaw s) ?_
   rw[ofRaw,e,if_neg (show ¬(5:Int)=0 by decide)]
   exact (ai (ai rfl (ai rfl (ai rfl rfl))) rfl)
  have e0:rM s=0:=by unfold rM;rw[if_neg (fun h=>h h1),if_neg h4]
  have hA:ofRaw s=.tup [aiG s.act (eB s s.sts.length),iP 0]:=by unfold ofRaw;rw[if_pos e0]
  have hp0:=(hL s.sts.length (acn _)).2
  clear hL
  generalize eB s s.sts.length=p at *
  refine fR (p.length) (fun k=>[(71,.s (iA k))]) (fun k=>[⟨3,39,[.s (iA s.act),.s (.p false aeZ),.rw 98 2 p.length (fun j=>yY (p.getD j uy).1),awO p k]⟩]) (fun k=>True) ?_ ?_ ?_ ?_
  ·exact (ai (ai (fun _=>rfl) (iE (by omega))) rfl)
  ·exact (ai (ai (ai (ai nof rfl) rfl) (ai (ai (ai nof (ai rfl (fun _ _=>rfl))) rfl) (ai (ai rfl (ai rfl (ai rfl (fun _ _=>rfl)))) rfl))) trivial)
  ·trivial
  intro (k:Nat) ⟨hk,_⟩
  refine bL (k<p.length) (fun h5=>?_) fun h5=>?_
  ·have hw1:IntKind.i64.wrap ((k:Int)+1)=((k+1:Nat):Int):=aH (by omega)
   refine dR (.one 0 (.one 1 (.one 2 (.one 4 (.one 5 (.one 6 (.one 7 (.one 8 (.one 9 (.one 11 (.one 12 (.one 13 (.one 14 (.alt 3 (.one 10 (.one 15 (.one 16 (.one 17 (.one 18 (.one 19 .done)))))) (.alt 10 (.one 3 (.one 15 (.one 16 (.one 17 (.one 18 (.one 19 .done)))))) .stop))))))))))))))) ?_
   refine ai (by show ¬(p.length:Int)=0;omega) ?_
   refine ai (ai (aaT _) (by show (k:Int)<(p.length:Int);omega)) ?_
   refine ai (by show k<p.length;exact h5) ?_
   refine ai ?_ (ai ?_ trivial)
   ·refine ai (mxL (n:=k+1) (by omega) (by decide)) (ai (fun j hj=>by
     have hj:j<1:=hj
     obtain rfl:j=0:=by omega
     rfl) ?_)
    refine nX (k) (ai (ai (fun _=>rfl) (aH (by omega))) rfl) (ai (ai (ai (ai nof rfl) rfl) (ai (ai (ai nof (ai rfl (fun _ _=>rfl))) rfl) (ai (ai rfl (ai rfl (ai rfl (fun _ _=>rfl)))) (ai rfl (ai rfl (ai rfl ?_)))))) trivial) trivial
    refine alH p k ?_
    show [PV.seq 1 (aU 1 [iP (k:Int)]),.seq 1 (aU 1 [iP ((IntKind.i64.wrap ((k:Int)+1)).tmod (p.length:Int))]),(p.getD k uy).2.1,(p.getD k uy).2.2.1,(p.getD k uy).2.2.2]=_
    rw[hw1];rfl
   ·refine ai (mxL (n:=k+1) (by omega) (by decide)) (ai (fun j hj=>by
     have hj:j<1:=hj
     obtain rfl:j=0:=by omega
     rfl) ?_)
    refine nX (k) (ai (ai (fun _=>rfl) (aH (by omega))) rfl) (ai (ai (ai (ai nof rfl) rfl) (ai (ai (ai nof (ai rfl (fun _ _=>rfl))) rfl) (ai (ai rfl (ai rfl (ai rfl (fun _ _=>rfl)))) (ai rfl (ai rfl (ai rfl ?_)))))) trivial) trivial
    refine alH p k ?_
    show [PV.seq 1 (aU 1 [iP (k:Int)]),.seq 1 (aU 1 [iP ((IntKind.i64.wrap ((k:Int)+1)).tmod (p.length:Int))]),(p.getD k uy).2.1,(p.getD k uy).2.2.1,(p.getD k uy).2.2.2]=_
    rw[hw1];rfl
  ·obtain rfl:k=p.length:=by omega
   refine eF (ofRaw s) ?_
   rw[hA]
   exact (ai (ai rfl (ai (ai rfl (fun _ _=>rfl)) (ai (ai rfl (fun _ _=>rfl)) (ai rfl (fun _ _=>rfl))))) rfl)
theorem atd {m:List Bool}:∀{l:List Int} {k:Int},0≤k→(∀x∈l,0≤x)→kC (dW m l false) k=(kC m k&&!gM l k):=by
 intro l
 induction l generalizing m with
 | nil=>intro k _ _;simp[dW,gM]
 | cons x l ih=>
  intro k hk hl
  have hx:0≤x:=hl x (by simp)
  show kC (dW (m.set x.toNat false) l false) k=_
  rw[ih hk fun y hy=>hl y (by simp[hy])]
  have h1:kC (m.set x.toNat false) k=(kC m k&&!(k==x)):=by
   unfold kC
   rw[aai,aai,axC]
   by_cases e:k=x
   ·subst e
    rw[if_pos rfl]
    by_cases h:k.toNat<m.length
    ·rw[if_pos h];simp
    ·rw[if_neg h];simp
   ·rw[if_neg (by omega),beq_eq_false_iff_ne.2 e];simp
  rw[h1]
  unfold gM
  rw[axF]
  cases kC m k<;>cases (k==x)<;>simp
def nonneg (l:List Int):Prop:=∀x∈l,0≤x
theorem abK {c:aA} {k:Int} (hk:0≤k):∀{out:List Int} {m:List Bool},(∀i∈out,nonneg (frI c i))→kC (jw c m out) k=(kC m k&&out.all fun i=>!gM (frI c i) k)
 | [],m,_=>by simp[jw]
 | i :: out,m,h=>by
  show kC (jw c (dW m (c.trs.getD i.toNat aY).fr false) out) k=_
  rw[abK hk (fun j hj=>h j (by simp[hj])),atd (l:=(c.trs.getD i.toNat aY).fr) hk (h i (by simp)),List.all_cons,Bool.and_assoc];rfl
theorem asJ {c:aA} {m:List Bool} {out l:List Int} (hl:nonneg l) (h:∀i∈out,nonneg (frI c i)) (ha:allM m l=true):allM (jw c m out) l=out.all fun i=>!nP l (frI c i):=by
 unfold allM at ha ⊢
 rw[arX,alQ,alQ]
 rw[alQ] at ha
 constructor
 ·intro h1 i hi
  rw[alO]
  unfold nP
  rw[ar6]
  intro k hk
  have h2:=h1 k hk
  rw[abK (hl k hk) h,aaX,alQ] at h2
  have:=h2.2 i hi
  rw[alO] at this
  rw[this];decide
 ·intro h1 k hk
  rw[abK (hl k hk) h,ha k hk,ac9,alQ]
  intro i hi
  have h2:=h1 i hi
  rw[alO] at h2 ⊢
  unfold nP at h2
  rw[ar6] at h2
  simpa using h2 k hk
theorem ahZ {c:aA} {m:List Bool}:∀(l out:List Int),(∀i∈l,nonneg (frI c i)∧allM m (frI c i)=true)→(∀i∈out,nonneg (frI c i)) →
  l.foldl (nC c) (jw c m out,out)=(jw c m (l.foldl (frr c) out),l.foldl (frr c) out)
 | [],out,_,_=>rfl
 | i :: l,out,h1,h2=>by
  obtain ⟨g1,g2⟩:=h1 i (by simp)
  have e:=asJ (c:=c) (m:=m) (out:=out) g1 h2 g2
  have hs:nC c (jw c m out,out) i=(jw c m (frr c out i),frr c out i):=by
   unfold nC frr
   show (if allM (jw c m out) (frI c i)=true then _ else _)=_
   rw[e]
   by_cases hc:(out.all fun k=>!nP (frI c i) (frI c k))=true
   ·rw[if_pos hc,if_pos hc,ala]
   ·rw[if_neg hc,if_neg hc]
  rw[avb,hs,avb]
  refine ahZ l _ (fun j hj=>h1 j (by simp[hj])) fun j hj=>?_
  unfold frr at hj
  split at hj
  ·rcases acw.1 hj with hj | hj
   ·exact h2 j hj
   ·simp at hj;subst hj;exact g1
  ·exact h2 j hj
theorem ady {z:List Bool} (b:Bool):∀{l:List Int} {a:List Bool},oI a.length l→dW (a++z) l b=dW a l b++z
 | [],a,_=>rfl
 | x :: l,a,h=>by
  have hx:=h x (by simp)
  show dW ((a++z).set x.toNat b) l b=dW (a.set x.toNat b) l b++z
  rw[List.set_append_left _ _ (by omega)]
  exact ady b (by rw[aob];exact fun y hy=>h y (by simp[hy]))
theorem afM {c:aA} {z:List Bool}:∀{F:List Int} {a:List Bool},(∀i∈F,oI a.length (c.trs.getD i.toNat aY).fr)→jw c (a++z) F=jw c a F++z
 | [],a,_=>rfl
 | i :: F,a,h=>by
  show jw c (dW (a++z) (c.trs.getD i.toNat aY).fr false) F=jw c (dW a (c.trs.getD i.toNat aY).fr false) F++z
  rw[ady _ (h i (by simp))]
  exact afM (by rw[lX];exact fun y hy=>h y (by simp[hy]))
theorem ahB {c:aA} {z:List Bool}:∀{F:List Int} {a:List Bool},(∀i∈F,oI a.length (c.trs.getD i.toNat aY).to)→kF c (a++z) F=kF c a F++z
 | [],a,_=>rfl
 | i :: F,a,h=>by
  show kF c (dW (a++z) (c.trs.getD i.toNat aY).to true) F=kF c (dW a (c.trs.getD i.toNat aY).to true) F++z
  rw[ady _ (h i (by simp))]
  exact ahB (by rw[lX];exact fun y hy=>h y (by simp[hy]))
theorem aoH {c:aA} {a v:List Bool} (h0:mH c a v=0):(ug c a v).2=yS c a v∧(kF c (ug c a v).1 (ug c a v).2).take c.sts.length=ac4 c a (yS c a v):=by
 obtain ⟨g1,-⟩:=ama h0
 obtain ⟨hc,hal,-⟩:=yx g1
 have hmem:∀i∈jP (pE c a v) c.trs.length,(oI c.sts.length (c.trs.getD i.toNat aY).fr∧oI c.sts.length (c.trs.getD i.toNat aY).to)∧allM a (frI c i)=true:=fun i hi=>by
  obtain ⟨j,h1,h2,h3⟩:=abt hi
  subst h2
  obtain ⟨q1,q2,-⟩:=rO hc h1
  unfold pE at h3
  rw[aaX] at h3
  exact ⟨⟨by rw[ad9];exact q1.2,by rw[ad9];exact q2.2⟩,by unfold frI;rw[ad9];exact h3.1⟩
 have hF:ug c a v=(jw c (qQ a) (yS c a v),yS c a v):=by
  have:=ahZ (c:=c) (m:=qQ a) (jP (pE c a v) c.trs.length) [] (fun i hi=>⟨fun x hx=>((hmem i hi).1.1 x hx).1,by rw[ai0];exact (hmem i hi).2⟩) (by simp)
  exact this
 have hin:∀i∈yS c a v,i∈jP (pE c a v) c.trs.length:=fun i hi=>by
  rcases (aju c (jP (pE c a v) c.trs.length) []).2 i hi with h | h
  ·simp at h
  ·exact h
 rw[hF]
 refine ⟨rfl,?_⟩
 show (kF c (jw c (qQ a) (yS c a v)) (yS c a v)).take c.sts.length=_
 unfold qQ ac4
 rw[afM (fun i hi=>by rw[hal];exact (hmem i (hin i hi)).1.1),ahB (fun i hi=>by rw[xw,hal];exact (hmem i (hin i hi)).1.2)]
 rw[List.take_left' (by rw[aah,xw,hal])]
theorem anb (c:aA) (a v:List Bool):xQ c a v=akh c a v:=by
 unfold xQ akh
 by_cases h:mH c a v=0
 ·obtain ⟨h1,h2⟩:=aoH h
  rw[if_pos h,if_pos h,h2,h1]
 ·rw[if_neg h,if_neg h]
theorem ark {u u' v v':PV} (h1:fQ u u') (h2:fQ v v'):cu [u,v] [u',v']:=by
 refine ⟨rfl,fun k s s' hs hs'=>?_⟩
 match k with
 | 0=>cases hs;cases hs';exact h1
 | 1=>cases hs;cases hs';exact h2
 | k+2=>simp at hs
theorem awW {n:Nat} {f:Nat→List PV} {l:List Int} (hn:n=l.length) (hf:∀k,k<n→f k=[iP (l.getD k 0)]):fQ (.seq n f) (fE l):=by
 subst hn
 refine .seq _ _ _ (fun j hj=>by rw[hf j hj]) fun j k s s' hj hs hs'=>?_
 rw[hf j hj] at hs
 have hs':[iP (l.getD j 0)][k]?=some s':=hs'
 rw[hs] at hs';cases hs';exact .refl _
def toC (x:Ex):C3:=(iP x.op,iP x.idx,if x.op=1 then .val (.slice none 0 0) else .seq x.args.length (fun k=>qd (x.args.getD k bD).idx))
theorem atM (n:Int):o8 n=toC (fG n):=rfl
theorem al2 (l:List Sk):oJ l=toC (aha l):=by
 match l with
 | [y]=>rfl
 | []=>
  show (iP 3,iP 0,PV.seq 0 (abQ []))=(iP 3,iP 0,PV.seq 0 (fun k=>qd (([]:List Ex).getD k bD).idx))
  exact congrArg (fun f:Nat→List PV=>((iP 3,iP 0,PV.seq 0 f):C3)) (funext fun k=>by cases k<;>rfl)
 | a :: b :: l=>
  show (iP 3,iP 0,PV.seq (a :: b :: l).length (abQ (a :: b :: l)))=(iP 3,iP 0,PV.seq ((a :: b :: l).map fun y=>fG (l7 y)).length (fun k=>qd (((a :: b :: l).map fun y=>fG (l7 y)).getD k bD).idx))
  rw[aeu]
  refine congrArg (fun f:Nat→List PV=>((iP 3,iP 0,PV.seq (a :: b :: l).length f):C3)) (funext fun k=>?_)
  show qd (l7 ((a :: b :: l).getD k bV))=_
  rw[aai,aai,akE]
  cases (a :: b :: l)[k]?<;>rfl
def okX (x:Ex):Prop:=(x.op=1∧x.args=[])∨(x.op=3∧∀y∈x.args,y.op=1∧y.args=[])
theorem alL (n:Int):okX (fG n):=.inl ⟨rfl,rfl⟩
theorem ame (l:List Sk):okX (aha l):=by
 match l with
 | [y]=>exact .inl ⟨rfl,rfl⟩
 | []=>exact .inr ⟨rfl,fun y hy=>by simp[aha] at hy⟩
 | a :: b :: l=>
  refine .inr ⟨rfl,fun y hy=>?_⟩
  obtain ⟨z,_,rfl⟩:=aum.1 hy
  exact ⟨rfl,rfl⟩
abbrev SX := Stp × Ex
def sx0:SX:=(st0,fG 0)
def ae5 (act:Int) (p:List SX) (x:Stp):List SX:=
 if 0<x.wt then (p++[(⟨x.st,0⟩,aha x.st)])++[(⟨[],x.wt⟩,fG (2*act+1+((p.length+1:Nat):Int)))] else p++[(⟨x.st,0⟩,aha x.st)]
def zl (s:kY):List SX:=s.sts.foldl (ae5 s.act) [(⟨[],0⟩,fG (2*s.act))]
def agD (q:SX):SC:=(q.1,toC q.2)
theorem akj (s:kY):eB s s.sts.length=(zl s).map agD:=by
 have key:∀(l:List Stp) (p:List SX),l.foldl (yj s.act) (p.map agD)=(l.foldl (ae5 s.act) p).map agD:=by
  intro l
  induction l with
  | nil=>intro p;rfl
  | cons x l ih=>
   intro p
   rw[avb,avb,←ih]
   congr 1
   unfold yj ae5
   rw[aeu]
   split
   ·rw[anN,anN,al2,atM];rfl
   ·rw[anN,al2];rfl
 have:=key s.sts [(⟨[],0⟩,fG (2*s.act))]
 unfold eB
 rw[acr]
 exact this
theorem aty (s:kY):∀q∈zl s,okX q.2:=by
 have key:∀(l:List Stp) (p:List SX),(∀q∈p,okX q.2)→∀q∈l.foldl (ae5 s.act) p,okX q.2:=by
  intro l
  induction l with
  | nil=>intro p h;exact h
  | cons x l ih=>
   intro p h
   rw[avb]
   refine ih _ fun q hq=>?_
   unfold ae5 at hq
   split at hq
   ·rcases acw.1 hq with hq | hq
    ·rcases acw.1 hq with hq | hq
     ·exact h q hq
     ·simp only[acC] at hq;subst hq;exact ame _
    ·simp only[acC] at hq;subst hq;exact alL _
   ·rcases acw.1 hq with hq | hq
    ·exact h q hq
    ·simp only[acC] at hq;subst hq;exact ame _
 exact key s.sts _ fun q hq=>by simp only[acC] at hq;subst hq;exact alL _
def apN:List UInt8:=[115,116,97,114,116]
def ae1 (p:List SX) (k:Nat):rD:=⟨[(k:Int)],[toN k p.length],(p.getD k sx0).2⟩
def chX (act:Int) (p:List SX):aA:=⟨act,[apN],p.map (·.1),(List.range p.length).map (ae1 p)⟩
def ofC (s:kY):aA:=if rM s=0 then chX s.act (zl s) else ⟨0,[],[],[]⟩
theorem aG {a b:PV} {l m:List PV} (h:fQ a b) (hl:cu l m):cu (a :: l) (b :: m):=by
 refine ⟨by simp[hl.1],fun k s s' hs hs'=>?_⟩
 match k with
 | 0=>cases hs;cases hs';exact h
 | k+1=>exact hl.2 k s s' (by simpa using hs) (by simpa using hs')
theorem rA:cu [] []:=⟨rfl,fun k s s' hs _=>by simp at hs⟩
theorem iG {n:Nat} {f g:Nat→List PV} (h:∀k,k<n→cu (f k) (g k)):fQ (.seq n f) (.seq n g):=
 .seq n f g (fun j hj=>(h j hj).1) fun j k s s' hj hs hs'=>(h j hj).2 k s s' hs hs'
theorem mU {l m:List PV} (h:cu l m):fQ (.agg l) (.agg m):=.agg l m h.1 h.2
theorem vo {l m:List PV} (h:cu l m):fQ (.tup l) (.tup m):=.tup l m h.1 h.2
theorem anO (x:Int):fQ (.seq 1 (aU 1 [iP x])) (fE [x]):=awW rfl fun j hj=>by
 obtain rfl:j=0:=by omega
 rfl
theorem au2 {x:Ex} (h:okX x):cu (qG (toC x)) (ko x):=by
 refine aG (.refl _) (aG (.refl _) (aG ?_ rA))
 show fQ (if x.op=1 then .val (.slice none 0 0) else .seq x.args.length (fun k=>qd (x.args.getD k bD).idx)) (.seq x.args.length (jo x.args))
 rcases h with ⟨h1,h2⟩ | ⟨h1,h2⟩
 ·rw[if_pos h1,h2];exact .nil _
 ·rw[if_neg (by rw[h1];decide)]
  refine iG fun k hk=>?_
  have hy:=h2 _ (aay (bB bD hk))
  show cu (qd (x.args.getD k bD).idx) (jo x.args k)
  unfold jo qd
  rw[hy.1,hy.2]
  exact aG (.refl _) (aG (.refl _) (aG (.nil _) rA))
theorem auh:fQ aeZ (xg [apN]):=iG fun k hk=>by
 obtain rfl:k=0:=by omega
 exact cu.rfl' _
theorem avI (x:Stp):cu (yY x) (stK x):=by
 refine aG ?_ (aG (.refl _) rA)
 split
 ·rename_i h;rw[h];exact .nil _
 ·exact .refl _
theorem aiL (p:List SX) {k:Nat} (hk:k<p.length):(p.map agD).getD k uy=agD (p.getD k sx0):=by
 rw[aai,aai,akE,aau hk];rfl
theorem arI (act:Int) {p:List SX} (h:∀q∈p,okX q.2):fQ (aiG act (p.map agD)) (chP (chX act p)):=by
 unfold aiG chP chK chX
 rw[aeu]
 refine mU (aG (.refl _) (aG auh (aG ?_ (aG ?_ rA))))
 ·show fQ _ (.seq (p.map (·.1)).length (fun k=>stK ((p.map (·.1)).getD k st0)))
  rw[aeu]
  refine iG fun k hk=>?_
  rw[aiL p hk]
  have:(p.map (·.1)).getD k st0=(p.getD k sx0).1:=by
   rw[aai,aai,akE,aau hk];rfl
  rw[this]
  exact avI _
 ·show fQ _ (.seq ((List.range p.length).map (ae1 p)).length (fun k=>trK (((List.range p.length).map (ae1 p)).getD k aY)))
  rw[aeu,at6]
  refine iG fun k hk=>?_
  have e1:((List.range p.length).map (ae1 p)).getD k aY=ae1 p k:=by
   rw[aai,akE,axy hk];rfl
  rw[e1]
  unfold adB
  rw[aiL p hk,aeu]
  have h3:=au2 (h _ (aay (bB sx0 hk)))
  exact aG (anO _) (aG (anO _) h3)
theorem aqH (s:kY):fQ (ofRaw s) (.tup [chP (ofC s),iP (rM s)]):=by
 unfold ofRaw ofC
 by_cases h:rM s=0
 ·rw[if_pos h,if_pos h,h,akj]
  exact vo (aG (arI _ (aty s)) (aG (.refl _) rA))
 ·rw[if_neg h,if_neg h]
  refine vo (aG ?_ (aG (.refl _) rA))
  exact mU (aG (.refl _) (aG (.nil _) (aG (.nil _) (aG (.nil _) rA))))
def ofP (s:kY):PV:=.tup [chP (ofC s),iP (rM s)]
theorem acy:av Tryz.prog 49 (bQ (fun s:kY=>[sqA s]) (fun _=>True) ofP):=gW ak4 fun s _=>aqH s
theorem nY {u v:PV} (h:fQ u v):cu [u] [v]:=aG h rA
theorem r9 (x:Ex):cu (ko x) [iP x.op,iP x.idx,.seq x.args.length (y5 x.args)]:=
 aG (.refl _) (aG (.refl _) (nY (iG fun k hk=>cu.of (auk _ k hk))))
def mE (x:Ex):Ex:=.node 2 0 [x]
def uF (x y:Ex):Ex:=.node 3 0 [x,y]
theorem ahc:av Tryz.prog 101 (bQ (fun x:Ex=>[iV x]) (fun _=>True) (fun x=>ql (mE x))):=by
 have h:av Tryz.prog 101 (bQ (fun x:Ex=>[iV x]) (fun _=>True) (fun x=>.agg [iP 2,iP 0,.seq 1 (aU 3 (ko x))])):=by
  refine vI [4000004] Tryz.func101 ?_
  rintro (x:Ex) hpre
  refine ai (ai (fun h=>absurd (show false=true from h) (by decide)) ?_) trivial
  exact (ai rfl (ai rfl (ai rfl (fun _ _=>rfl))))
 refine gW h fun x _=>mU (aG (.refl _) (aG (.refl _) (nY (iG fun k hk=>?_))))
 obtain rfl:k=0:=by omega
 exact r9 x
theorem agM:av Tryz.prog 100 (bQ (fun a:Ex×Ex=>[iV a.1,iV a.2]) (fun _=>True) (fun a=>ql (uF a.1 a.2))):=by
 have h:av Tryz.prog 100 (bQ (fun a:Ex×Ex=>[iV a.1,iV a.2]) (fun _=>True) (fun a=>.agg [iP 3,iP 0,.seq 2 (aU 3 (ko a.1++ko a.2))])):=by
  refine vI [4000007] Tryz.func100 ?_
  rintro (a:Ex×Ex) hpre
  refine ai (ai (fun h=>absurd (show false=true from h) (by decide)) ?_) trivial
  exact (ai rfl (ai rfl (ai rfl (fun _ _=>rfl))))
 refine gW h fun a _=>mU (aG (.refl _) (aG (.refl _) (nY (iG fun k hk=>?_))))
 rcases (show k=0∨k=1 by omega) with rfl | rfl
 ·exact r9 a.1
 ·exact r9 a.2
def aF (l:List Int):Ex:=if l.length=0 then .node 0 0 [] else if l.length=1 then fG (l.getD 0 0) else .node 4 0 (l.map fG)
def akQ (l:List Int) (k:Nat):List PV:=qd (l.getD k 0)
theorem ajE (l:List Int) (k:Nat):∀j,j<k+1→bI k (akQ l) (aU 3 (qd (l.getD k 0))) j=akQ l j:=by
 intro j hj
 unfold bI
 by_cases h:j<k
 ·rw[if_pos h]
 ·obtain rfl:j=k:=by omega
  rw[if_neg h,auO];rfl
def oh (l:List Int):PV:=if l.length=0 then .agg [iP 0,iP 0,.val (.slice none 0 0)] else if l.length=1 then .agg (qd (l.getD 0 0)) else .agg [iP 4,iP 0,.seq l.length (akQ l)]
theorem apL:av Tryz.prog 160 (bq (fun b:Bool=>[bA b]) (fun b=>b=false) (fun _=>.agg [iP 0,iP 0,.val (.slice none 0 0)])):=by
 refine vF Tryz.func160 ?_
 rintro (b:Bool) hpre
 have hb:b=false:=hpre
 refine aC (b:=b) rfl (fun h=>?_) (fun h=>?_)
 ·rw[hb] at h;cases h
 ·refine eN _ ?_
  exact (ai rfl (ai rfl rfl))
def auE (l:List Int) (k:Nat):LV:=.rw 90 3 k (akQ l)
theorem apI:av Tryz.prog 98 (bQ (fun l:List Int=>[isA l]) (fun l=>l.length≤1000000) oh):=by
 refine vF Tryz.func98 ?_
 rintro (l:List Int) hpre
 have hl:l.length≤1000000:=hpre
 refine bE (l.length=0) (fun h1=>?_) fun h1=>?_
 ·refine cK (apL) (false) (by exact rfl) (rfl) ?_
  refine eF (oh l) ?_
  rw[oh,if_pos h1]
  exact (ai rfl (ai rfl rfl))
 refine bE (l.length=1) (fun h2=>?_) fun h2=>?_
 ·refine ai (ai (by decide) (by show (0:Int)<(l.length:Int);omega)) ?_
  refine ai rfl ?_
  refine cK (pX) (l.getD 0 0) (by exact (iE rfl)) (trivial) ?_
  refine eF (oh l) ?_
  rw[oh,if_neg h1,if_pos h2]
  exact (ai rfl (ai rfl rfl))
 refine fR (l.length) (fun k=>[(4,.s (iA k))]) (fun k=>[⟨1,90,[.s (iA 4),.s (iA 0),auE l k]⟩]) (fun k=>True) ?_ ?_ ?_ ?_
 ·exact (ai (ai (fun _=>rfl) (iE (by omega))) rfl)
 ·exact (ai (ai (ai (ai (fun _=>rfl) rfl) rfl) (ai (ai (ai (fun _=>rfl) rfl) rfl) rfl)) trivial)
 ·trivial
 intro (k:Nat) ⟨hk,_⟩
 refine bL (k<l.length) (fun h3=>?_) fun h3=>?_
 ·refine dR (.seq [0,1,2,3,4,5,6,7,8,9,10]) ?_
  refine iX (k) (l.length) ?_
  skip
  refine cK (pX) (l.getD k 0) (by exact (iE (by simp only[zz,reduceCtorEq]))) (trivial) ?_
  refine ai (mxL (n:=k+1) (by omega) (by decide)) (ai (lt1 rfl) ?_)
  refine nX (k) (ai (ai (fun _=>rfl) (aH (by omega))) rfl) (ai (ai (ai (ai nof rfl) rfl) (ai (ai (ai nof rfl) rfl) (ai rfl (ai rfl (ai rfl ?_))))) trivial) trivial
  exact ajE l k
 ·obtain rfl:k=l.length:=by omega
  refine eF (oh l) ?_
  rw[oh,if_neg h1,if_neg h2]
  exact (ai rfl (ai rfl (ai rfl (fun _ _=>rfl))))
theorem amd (l:List Int):fQ (oh l) (ql (aF l)):=by
 unfold oh aF
 by_cases h1:l.length=0
 ·rw[if_pos h1,if_pos h1]
  exact mU (aG (.refl _) (aG (.refl _) (nY (.nil _))))
 rw[if_neg h1,if_neg h1]
 by_cases h2:l.length=1
 ·rw[if_pos h2,if_pos h2]
  exact mU (aG (.refl _) (aG (.refl _) (nY (.nil _))))
 rw[if_neg h2,if_neg h2]
 refine mU (aG (.refl _) (aG (.refl _) (nY ?_)))
 show fQ (.seq l.length (akQ l)) (.seq (l.map fG).length (jo (l.map fG)))
 rw[aeu]
 refine iG fun k hk=>?_
 have e:(l.map fG).getD k bD=fG (l.getD k 0):=by
  rw[aai,aai,akE,aau hk];rfl
 show cu (qd (l.getD k 0)) (jo (l.map fG) k)
 unfold jo
 rw[e]
 exact aG (.refl _) (aG (.refl _) (nY (.nil _)))
theorem lg:av Tryz.prog 98 (bQ (fun l:List Int=>[isA l]) (fun l=>l.length≤1000000) (fun l=>ql (aF l))):=gW apI fun l _=>amd l
theorem jD:av Tryz.prog 208 (bq (fun n:Int=>[iA n]) (fun _=>True) (fun n=>.agg (qd n))):=by
 refine vF Tryz.func208 ?_
 rintro (n:Int) hpre
 refine eN _ ?_
 exact (ai rfl (ai rfl rfl))
theorem aox:av Tryz.prog 157 (bQ (fun l:List Int=>[isA l]) (fun l=>l.length≤1000000) oh):=by
 refine vF Tryz.func157 ?_
 rintro (l:List Int) hpre
 have hl:l.length≤1000000:=hpre
 refine bE (l.length=0) (fun h1=>?_) fun h1=>?_
 ·skip
  refine eF (oh l) ?_
  rw[oh,if_pos h1]
  exact (ai rfl (ai rfl rfl))
 refine bE (l.length=1) (fun h2=>?_) fun h2=>?_
 ·refine ai (ai (by decide) (by show (0:Int)<(l.length:Int);omega)) ?_
  refine ai rfl ?_
  refine cK (jD) (l.getD 0 0) (by exact (iE rfl)) (trivial) ?_
  refine eF (oh l) ?_
  rw[oh,if_neg h1,if_pos h2]
  exact (ai rfl (ai rfl rfl))
 refine fR (l.length) (fun k=>[(20,.s (iA k))]) (fun k=>[⟨1,90,[.s (iA 4),.s (iA 0),auE l k]⟩]) (fun k=>True) ?_ ?_ ?_ ?_
 ·exact (ai (ai (fun _=>rfl) (iE (by omega))) rfl)
 ·exact (ai (ai (ai (ai (fun _=>rfl) rfl) rfl) (ai (ai (ai (fun _=>rfl) rfl) rfl) rfl)) trivial)
 ·trivial
 intro (k:Nat) ⟨hk,_⟩
 refine bL (k<l.length) (fun h3=>?_) fun h3=>?_
 ·skip
  refine iX (k) (l.length) ?_
  refine dR (.seq [0,1,2,3,4,5,6,7]) ?_
  refine cK (jD) (l.getD k 0) (by exact (iE (by simp only[zz,reduceCtorEq]))) (trivial) ?_
  refine ai (mxL (n:=k+1) (by omega) (by decide)) (ai (lt1 rfl) ?_)
  refine nX (k) (ai (ai (fun _=>rfl) (aH (by omega))) rfl) (ai (ai (ai (ai nof rfl) rfl) (ai (ai (ai nof rfl) rfl) (ai rfl (ai rfl (ai rfl ?_))))) trivial) trivial
  exact ajE l k
 ·obtain rfl:k=l.length:=by omega
  refine eF (oh l) ?_
  rw[oh,if_neg h1,if_neg h2]
  exact (ai rfl (ai rfl (ai rfl (fun _ _=>rfl))))
theorem qw:av Tryz.prog 157 (bQ (fun l:List Int=>[isA l]) (fun l=>l.length≤1000000) (fun l=>ql (aF l))):=gW aox fun l _=>amd l
theorem alu:av Tryz.prog 207 (bQ (fun x:Ex=>[iV x]) (fun _=>True) (fun x=>ql (mE x))):=by
 have h:av Tryz.prog 207 (bQ (fun x:Ex=>[iV x]) (fun _=>True) (fun x=>.agg [iP 2,iP 0,.seq 1 (aU 3 (ko x))])):=by
  refine vI [4000004] Tryz.func207 ?_
  rintro (x:Ex) hpre
  refine ai (ai (fun h=>absurd (show false=true from h) (by decide)) ?_) trivial
  exact (ai rfl (ai rfl (ai rfl (fun _ _=>rfl))))
 refine gW h fun x _=>mU (aG (.refl _) (aG (.refl _) (nY (iG fun k hk=>?_))))
 obtain rfl:k=0:=by omega
 exact r9 x
theorem abb:av Tryz.prog 206 (bQ (fun a:Nat×(Nat→List PV)=>[.p false (.seq a.1 a.2)]) (fun _=>True) (fun a=>.agg [iP 3,iP 0,.seq a.1 a.2])):=by
 refine vF Tryz.func206 ?_
 rintro (a:Nat×(Nat→List PV)) hpre
 refine ai (ai (fun h=>absurd (show false=true from h) (by decide)) ?_) trivial
 exact (ai rfl (ai rfl (ai rfl (fun _ _=>rfl))))
mutual
def dz (l:List Ex):Ex→Ex
 | .node o i ys=>if o=1 then l.getD i.toNat bD else .node o i (abn l ys)
def abn (l:List Ex):List Ex→List Ex
 | []=>[]
 | x :: ys=>dz l x :: abn l ys
end
theorem ahp (l:List Ex):∀ys,abn l ys=ys.map (dz l)
 | []=>rfl
 | x :: ys=>by rw[abn,ahp l ys];rfl
theorem asO (l:List Ex) (x:Ex):dz l x=if x.op=1 then l.getD x.idx.toNat bD else .node x.op x.idx (x.args.map (dz l)):=by
 cases x with
 | node o i ys=>rw[dz,ahp]
theorem apD {a b c:PV} (h:fQ a b) (h2:fQ b c):fQ a c:=by
 have lst:∀{l m n:List PV},l.length=m.length→m.length=n.length→(∀(k:Nat) (s s':PV),l[k]?=some s→m[k]?=some s'→∀{c},fQ s' c→fQ s c)→(∀(k:Nat) (s s':PV),m[k]?=some s→n[k]?=some s'→fQ s s')→∀(k:Nat) (s s':PV),l[k]?=some s→n[k]?=some s'→fQ s s':=by
  intro l m n h1 h2 ih he k s s' hs hs'
  obtain ⟨t,ht⟩:=wO h2 hs'
  exact ih k s t hs ht (he k t s' ht hs')
 induction h generalizing c with
 | refl d=>exact h2
 | nil f=>cases h2 with
  | refl=>exact .nil f
  | seq _ _ g=>exact .nil g
 | seq n f g hl he ih=>cases h2 with
  | refl=>exact .seq n f g hl he
  | seq _ _ g' hl' he'=>exact .seq n f g' (fun j hj=>(hl j hj).trans (hl' j hj)) fun j k s s' hj hs hs'=>lst (hl j hj) (hl' j hj) (fun k s s' h1 h2 _ h3=>ih j k s s' hj h1 h2 h3) (fun k s s' h1 h2=>he' j k s s' hj h1 h2) k s s' hs hs'
 | pt l l' o hl he ih=>cases h2 with
  | refl=>exact .pt l l' o hl he
  | pt _ l2 _ hl' he'=>exact .pt l l2 o (hl.trans hl') (lst hl hl' (fun k s s' h1 h2 _ h3=>ih k s s' h1 h2 h3) he')
 | agg l l' hl he ih=>cases h2 with
  | refl=>exact .agg l l' hl he
  | agg _ l2 hl' he'=>exact .agg l l2 (hl.trans hl') (lst hl hl' (fun k s s' h1 h2 _ h3=>ih k s s' h1 h2 h3) he')
 | tup l l' hl he ih=>cases h2 with
  | refl=>exact .tup l l' hl he
  | tup _ l2 hl' he'=>exact .tup l l2 (hl.trans hl') (lst hl hl' (fun k s s' h1 h2 _ h3=>ih k s s' h1 h2 h3) he')
theorem acT {a b c:List PV} (h:cu a b) (h2:cu b c):cu a c:=by
 refine ⟨h.1.trans h2.1,fun k s s' hs hs'=>?_⟩
 obtain ⟨t,ht⟩:=wO h2.1 hs'
 exact apD (h.2 k s t hs ht) (h2.2 k t s' ht hs')
def uW (l:List Ex) (k:Nat):List PV:=ko (l.getD k bD)
def exU (l:List Ex):LV:=.rws 90 3 l.length (uW l)
theorem afY (l:List Ex):fQ (.seq l.length (uW l)) (.seq l.length (jo l)):=iG fun k hk=>r9 _
theorem gP {l:List Ex} {x:Ex} {n:Nat} {f g:Nat→List PV} (hn:n=l.length) (hf:∀k,k<l.length→f k=uW l k) (hg:cu (g 0) (ko x)):∀k,k<n+1→cu (bI n f g k) (uW (l++[x]) k):=by
 intro k hk
 subst hn
 unfold bI uW
 by_cases h:k<l.length
 ·rw[if_pos h,hf k h,aai,alx h]
  exact .of (by unfold uW;rw[aai])
 ·have:k=l.length:=by omega
  subst this
  rw[if_neg h,auO,aai,ael (acn _),auO]
  exact hg
theorem mO (n:Int):cu (qd n) (ko (fG n)):=aG (.refl _) (aG (.refl _) (nY (.nil _)))
theorem abE {x:Ex} {l:List Ex} (h:x.args=l):fQ (.agg [iP x.op,iP x.idx,.seq l.length (uW l)]) (ql x):=by
 subst h
 exact mU (aG (.refl _) (aG (.refl _) (nY (afY _))))
abbrev aaD := Ex × List Ex
def adf (a:aaD):Prop:=jV a.2.length a.1∧a.1.size≤1000000
def avC (n:Nat):Spec:=bQ (fun a:aaD=>[iV a.1,.p false (aeU a.2)]) (fun a=>adf a∧a.1.size≤n) (fun a=>ql (dz a.2 a.1))
def rF (a:aaD):PV:=if a.1.op=1 then ql (a.2.getD a.1.idx.toNat bD) else .agg [iP a.1.op,iP a.1.idx,.seq a.1.args.length (uW (a.1.args.map (dz a.2)))]
def avY (n:Nat):Spec:=bQ (fun a:aaD=>[iV a.1,.p false (aeU a.2)]) (fun a=>adf a∧a.1.size≤n) rF
theorem al0 (a:aaD):fQ (rF a) (ql (dz a.2 a.1)):=by
 unfold rF
 rw[asO]
 split
 ·exact .refl _
 ·have:=abE (x:=.node a.1.op a.1.idx (a.1.args.map (dz a.2))) rfl
  rw[aeu] at this
  exact this
theorem aqx (n:Nat) (ih:av Tryz.prog 163 (avC n)):av Tryz.prog 163 (avY (n+1)):=by
 refine vF Tryz.func163 ?_
 rintro ⟨x,l⟩ hpre
 obtain ⟨⟨hg,hs⟩,hn⟩:=hpre
 have hg:jV l.length x:=hg
 have hs:x.size≤1000000:=hs
 have hn:x.size≤n+1:=hn
 have hsz:=x.size_eq
 have hal:=oO x.args
 obtain ⟨hn0,hga⟩:=(qH _ _).1 hg
 obtain ⟨_,_,hx1,hx2⟩:=uP hn0
 refine ah (p:=x.op=1) (um (by dsimp only;omega)) (fun h1=>?_) (fun h1=>?_)
 ·have hx3:x.idx<l.length:=by
   rw[h1] at hx2
   unfold uK at hx2
   rw[if_neg (by decide),if_pos rfl] at hx2;omega
  refine ai (ai hx1 hx3) ?_
  refine ai rfl ?_
  refine eF (rF (x,l)) ?_
  rw[rF,if_pos h1]
  exact (ai rfl (ai rfl (ai rfl (uX _))))
 ·refine fR (x.args.length) (fun k=>[(6,.s (iA k))]) (fun k=>[⟨2,90,[.s (iA x.op),.s (iA x.idx),exU ((x.args.take k).map (dz l))]⟩]) (fun k=>True) ?_ ?_ ?_ ?_
  ·exact (ai (ai (fun _=>rfl) (iE (by omega))) rfl)
  ·exact (ai (ai (ai (ai nof rfl) rfl) (ai (ai (ai nof rfl) rfl) rfl)) trivial)
  ·trivial
  intro (k:Nat) ⟨hk,_⟩
  have hl:((x.args.take k).map (dz l)).length=k:=by rw[aeu,arM];omega
  refine ah (p:=k<x.args.length) (aB (by dsimp only;omega)) (fun h2=>?_) (fun h2=>?_)
  ·refine dR (.seq [0,1,2,3,4,5,6,7,8,9,10,11,12]) ?_
   refine iX (k) (x.args.length) ?_
   have hm:=aay (bB bD h2)
   have hms:=iQ hm
   refine cK (ih) ((x.args.getD k bD,l)) (by exact (ai (ai (iE (by simp only[zz,reduceCtorEq])) (ai (iE (by simp only[zz,reduceCtorEq])) (ai rfl (uX _)))) (ai rfl (fun _ _=>rfl)))) (⟨⟨hga _ hm,by show (x.args.getD k bD).size≤1000000;omega⟩,by show (x.args.getD k bD).size≤n;omega⟩) ?_
   have e:(x.args.take (k+1)).map (dz l)=(x.args.take k).map (dz l)++[dz l (x.args.getD k bD)]:=by rw[aO bD h2,anN];rfl
   refine ai (mxL (n:=((x.args.take k).map (dz l)).length+1) (by omega) (by decide)) (ai (lt1 rfl) ?_)
   refine nX (k) (ai (ai (fun _=>rfl) (aH (by omega))) rfl) (ai (ai (ai (ai nof rfl) rfl) (ai (ai (ai nof rfl) rfl) (ai rfl (ai rfl (ai ?_ ?_))))) trivial) trivial
   ·rw[e,aao];rfl
   ·rw[e];exact gP rfl (fun _ _=>rfl) (.of rfl)
  ·obtain rfl:k=x.args.length:=by omega
   have et:x.args.take x.args.length=x.args:=acr
   refine eF (rF (x,l)) ?_
   rw[rF,if_neg h1]
   refine (ai rfl (ai rfl (ai ?_ ?_)))
   ·show ((x.args.take x.args.length).map (dz l)).length=x.args.length
    omega
   ·intro j _
    show uW ((x.args.take x.args.length).map (dz l)) j=uW (x.args.map (dz l)) j
    rw[et]
theorem arW:∀n,av Tryz.prog 163 (avC n)
 | 0=>⟨⟨_,Tryz.func163,rfl,rfl⟩,fun a hp=>absurd hp.2 (by have:=size_pos a.1;show ¬a.1.size≤0;omega)⟩
 | n+1=>gW (aqx n (arW n)) fun a _=>al0 a
theorem avx:av Tryz.prog 163 (bQ (fun a:aaD=>[iV a.1,.p false (aeU a.2)]) adf (fun a=>ql (dz a.2 a.1))):=lV (fun a=>a.1.size) arW
def ave (a b:C3):List PV:=[iP 3,iP 0,.seq 2 (aU 3 (qG a++qG b))]
def aqb (a:C3):List PV:=[iP 2,iP 0,.seq 1 (aU 3 (qG a))]
theorem apW:av Tryz.prog 101 (bQ (fun a:C3=>[.p false (.agg (qG a))]) (fun _=>True) (fun a=>.agg (aqb a))):=by
 refine vI [4000004] Tryz.func101 ?_
 rintro ⟨a,b,c⟩ hpre
 refine ai (ai (fun h=>absurd (show false=true from h) (by decide)) ?_) trivial
 exact (ai rfl (ai rfl (ai rfl (fun _ _=>rfl))))
theorem aqF:av Tryz.prog 207 (bQ (fun a:C3=>[.p false (.agg (qG a))]) (fun _=>True) (fun a=>.agg (aqb a))):=by
 refine vI [4000004] Tryz.func207 ?_
 rintro ⟨a,b,c⟩ hpre
 refine ai (ai (fun h=>absurd (show false=true from h) (by decide)) ?_) trivial
 exact (ai rfl (ai rfl (ai rfl (fun _ _=>rfl))))
theorem aqz:av Tryz.prog 100 (bQ (fun a:C3×C3=>[.p false (.agg (qG a.1)),.p false (.agg (qG a.2))]) (fun _=>True) (fun a=>.agg (ave a.1 a.2))):=by
 refine vI [4000007] Tryz.func100 ?_
 rintro ⟨⟨a,b,c⟩,⟨d,e,f⟩⟩ hpre
 refine ai (ai (fun h=>absurd (show false=true from h) (by decide)) ?_) trivial
 exact (ai rfl (ai rfl (ai rfl (fun _ _=>rfl))))
theorem agY (a b:Int):cu (ave (o8 a) (o8 b)) (ko (uF (fG a) (fG b))):=by
 refine aG (.refl _) (aG (.refl _) (nY (iG fun k hk=>?_)))
 rcases (show k=0∨k=1 by omega) with rfl | rfl
 ·exact acT (mO a) (r9 _)
 ·exact acT (mO b) (r9 _)
theorem aml (a:Int):cu (aqb (o8 a)) (ko (mE (fG a))):=by
 refine aG (.refl _) (aG (.refl _) (nY (iG fun k hk=>?_)))
 obtain rfl:k=0:=by omega
 exact acT (mO a) (r9 _)
def abN (c:aA) (k:Nat):Ex:=if (c.sts.getD k st0).wt=0 then fG (mg c k) else uF (fG (mg c k)) (fG (tZ c k))
def rG (n:Nat):List Ex:=(List.range n).map fun j:Nat=>fG (j:Int)
def l9 (c:aA) (k:Nat):List Ex:=rG (aS c).toNat++(List.range k).map (abN c)
def relE (c:aA):List Ex:=l9 c c.sts.length
theorem tq (n:Nat):rG (n+1)=rG n++[fG (n:Int)]:=by unfold rG;rw[auQ,anN];rfl
theorem abU (n:Nat):(rG n).length=n:=by unfold rG;rw[aeu,at6]
theorem ku (c:aA) (k:Nat):l9 c (k+1)=l9 c k++[abN c k]:=by unfold l9;rw[auQ,anN,auY];rfl
theorem yO (c:aA) (k:Nat):(l9 c k).length=(aS c).toNat+k:=by unfold l9;rw[aao,abU,aeu,at6]
theorem zw (c:aA):∀n k,k<n→(cZ c n).getD k 0=tZ c k
 | 0,k,h=>by omega
 | n+1,k,h=>by
  rw[cZ,aai]
  have hl:=o7 c n
  by_cases e:k<n
  ·rw[alx (by omega),←aai];exact zw c n k e
  ·obtain rfl:k=n:=by omega
   rw[ael (by omega),hl,auO];rfl
theorem aav {c:aA} (hs:oo c) {k:Nat}:tZ c k=-1099511627776↔(c.sts.getD k st0).wt=0:=by
 unfold tZ
 have h1:=hs.1
 have hb:aS c=2*c.act+c.ins.length:=rfl
 split
 ·rename_i h;exact ⟨fun _=>h,fun _=>rfl⟩
 ·rename_i h;constructor
  ·intro e;omega
  ·intro e;exact absurd e h
theorem ajK:av Tryz.prog 164 (bQ (fun c:aA=>[jh c]) ac8 (fun c=>aeU (relE c))):=by
 have h:av Tryz.prog 164 (bQ (fun c:aA=>[jh c]) ac8 (fun c=>.seq (relE c).length (uW (relE c)))):=by
  refine vF Tryz.func164 ?_
  rintro (c:aA) hpre
  have hcp:ac8 c:=hpre
  obtain ⟨hs,hw0⟩:=hpre
  have h1:0≤c.act:=hs.1
  have h2:c.act≤1000:=hs.2.1
  have h3:c.ins.length≤1000000:=hs.2.2.1
  have h4:c.sts.length≤1000000:=hs.2.2.2
  have hb:aS c=2*c.act+c.ins.length:=rfl
  refine fR ((aS c).toNat) (fun k=>[(4,.s (iA k)),(3,exU (rG k))]) (fun k=>[]) (fun k=>True) ?_ ?_ ?_ ?_
  ·exact (ai (ai (ai (fun _=>rfl) (iE (by omega))) rfl) rfl)
  ·exact trivial
  ·trivial
  intro (k:Nat) ⟨hk,_⟩
  have hl:=abU k
  refine cK (ab4) (c) (by exact (ai rfl (ai (ai rfl (fun _ _=>rfl)) (ai (ai rfl (fun _ _=>rfl)) (ai rfl (fun _ _=>rfl)))))) (hs) ?_
  refine bL (k<(aS c).toNat) (fun g1=>?_) fun g1=>?_
  ·refine cK (pX) ((k:Int)) (by exact rfl) (trivial) ?_
   refine ai (mxL (n:=(rG k).length+1) (by omega) (by decide)) (ai (lt1 rfl) ?_)
   refine nX (k) (ai (ai (ai (fun _=>rfl) (aH (by omega))) rfl) (ai rfl (ai rfl (ai ?_ ?_)))) trivial trivial
   ·rw[tq,aao];rfl
   ·rw[tq];exact gP rfl (fun _ _=>rfl) (mO _)
  obtain rfl:k=(aS c).toNat:=by omega
  refine cK (aff) (c) (by exact (ai rfl (ai (ai rfl (fun _ _=>rfl)) (ai (ai rfl (fun _ _=>rfl)) (ai rfl (fun _ _=>rfl)))))) (hcp) ?_
  have e0:l9 c 0=rG (aS c).toNat:=ape _
  refine fR (c.sts.length) (fun k=>[(6,.s (iA k)),(3,exU (l9 c k))]) (fun k=>[]) (fun k=>True) ?_ ?_ ?_ ?_
  ·refine (ai (ai (ai (fun _=>rfl) (iE (by omega))) rfl) (ai rfl (ai rfl (ai ?_ ?_))))
   ·rw[e0]
   ·rw[e0];exact fun _ _=>.of rfl
  ·exact trivial
  ·trivial
  intro (k:Nat) ⟨hk,_⟩
  have hl:=yO c k
  have hcl:=o7 c c.sts.length
  refine bL (k<c.sts.length) (fun g2=>?_) fun g2=>?_
  ·refine cK (oW) ((c,k)) (by exact (ai (ai rfl (ai (ai rfl (fun _ _=>rfl)) (ai (ai rfl (fun _ _=>rfl)) (ai rfl (fun _ _=>rfl))))) rfl)) (⟨hs,by show k≤1000000;omega⟩) ?_
   refine cK (pX) (mg c k) (by exact rfl) (trivial) ?_
   refine iX (k) ((cZ c c.sts.length).length) ?_
   have hck:=zw c c.sts.length k g2
   refine aW (p:=(c.sts.getD k st0).wt=0) (by exact bR (by show ¬(cZ c c.sts.length).getD k 0=-1099511627776↔_;rw[hck];exact not_congr (aav hs))) (fun g3=>?_) (fun g3=>?_)
   ·refine dR (.seq [0,1,2,3,4,5,6,7]) ?_
    refine iX (k) ((cZ c c.sts.length).length) ?_
    refine cK (pX) ((cZ c c.sts.length).getD k 0) (by exact (iE (by simp only[zz,reduceCtorEq]))) (trivial) ?_
    refine cK (aqz) ((o8 (mg c k),o8 ((cZ c c.sts.length).getD k 0))) (by exact (ai (ai rfl (ai rfl rfl)) (ai rfl (ai rfl rfl)))) (trivial) ?_
    refine ai (mxL (n:=(l9 c k).length+1) (by omega) (by decide)) (ai (lt1 rfl) ?_)
    refine nX (k) (ai (ai (ai (fun _=>rfl) (aH (by omega))) rfl) (ai rfl (ai rfl (ai ?_ ?_)))) trivial trivial
    ·rw[ku,aao];rfl
    ·rw[ku];exact gP rfl (fun _ _=>rfl) (by rw[abN,if_neg g3];exact (by rw[←hck];exact agY _ _))
   ·refine ai (mxL (n:=(l9 c k).length+1) (by omega) (by decide)) (ai (lt1 rfl) ?_)
    refine nX (k) (ai (ai (ai (fun _=>rfl) (aH (by omega))) rfl) (ai rfl (ai rfl (ai ?_ ?_)))) trivial trivial
    ·rw[ku,aao];rfl
    ·rw[ku];exact gP rfl (fun _ _=>rfl) (by rw[abN,if_pos g3];exact mO _)
  ·obtain rfl:k=c.sts.length:=by omega
   refine ai (ai (fun h=>absurd (show false=true from h) (by decide)) ?_) trivial
   exact (ai rfl (fun _ _=>rfl))
 exact gW h fun c _=>afY _
abbrev eH (c : aA) (i : Nat) : List Int := (c.trs.getD i aY).fr
abbrev rE (c : aA) (i : Nat) : Ex := (c.trs.getD i aY).wh
def pz (c:aA) (i k:Nat):List Ex:=((eH c i).take k).map fun f=>fG (mg c f.toNat)
def ab5 (c:aA) (i:Nat):Nat→List Ex
 | 0=>[]
 | k+1=>if nP (eH c i) (eH c k) then ab5 c i k++[mE (fG (lJ c k))] else ab5 c i k
def ajt (c:aA) (i:Nat):List Ex:=pz c i (eH c i).length++[dz (relE c) (rE c i)]
def jW (c:aA) (i k:Nat):List Ex:=ajt c i++ab5 c i k
def mI (c:aA) (i:Nat):Ex:=.node 3 0 (jW c i i)
theorem tu {c:aA} {i k:Nat} (h:k<(eH c i).length):pz c i (k+1)=pz c i k++[fG (mg c ((eH c i).getD k 0).toNat)]:=by
 unfold pz;rw[aO 0 h,anN];rfl
theorem vD {c:aA} {i k:Nat} (h:k≤(eH c i).length):(pz c i k).length=k:=by
 unfold pz;rw[aeu,arM];omega
theorem ab1 (c:aA) (i:Nat):∀k,(ab5 c i k).length≤k
 | 0=>acn _
 | k+1=>by
  have:=ab1 c i k
  rw[ab5];split
  ·rw[aao];simp;omega
  ·omega
theorem abm {c:aA} {i k:Nat} (h:nP (eH c i) (eH c k)=true):jW c i (k+1)=jW c i k++[mE (fG (lJ c k))]:=by
 unfold jW;rw[ab5,if_pos h,auY]
theorem alv {c:aA} {i k:Nat} (h:nP (eH c i) (eH c k)=false):jW c i (k+1)=jW c i k:=by
 unfold jW;rw[ab5,if_neg (by rw[h];decide)]
def kL (c:aA):Prop:=cB c=0∧gN c
theorem ao2 {c:aA} (h:kL c):∀x∈c.sts,0≤x.wt:=fun x hx=>by
 obtain ⟨h1,_,_,_,h5,_⟩:=lY h.1
 obtain ⟨k,hk,rfl⟩:=aoG hx
 have h5:=h5 k hk
 rw[show c.sts.getD k st0=c.sts[k] by rw[aai,aau hk];rfl] at h5
 unfold gG at h5
 split at h5
 ·rename_i h6;exact absurd h5 h6
 ·split at h5
  ·cases h5
  ·omega
theorem alz {c:aA} (h:kL c):ac8 c:=⟨iZ h.1,ao2 h⟩
theorem asU {c:aA} (h:kL c) {i:Nat} (hi:i<c.trs.length):adf (rE c i,relE c):=by
 obtain ⟨_,_,h3⟩:=rO h.1 hi
 obtain ⟨_,_,hg⟩:=eG.1 h3
 have hs:=iZ h.1
 have h1:0≤c.act:=hs.1
 have hl:=yO c c.sts.length
 have hb:aS c=2*c.act+c.ins.length:=rfl
 have hv:kV c=2*c.act+c.ins.length+c.sts.length:=rfl
 refine ⟨?_,(mP h.2 hi).2.2⟩
 show jV (((relE c).length:Nat):Int) (rE c i)
 have e:(((relE c).length:Nat):Int)=kV c:=by unfold relE;rw[hl];omega
 rw[e];exact hg
def ai3 (a:aA×Nat):Prop:=kL a.1∧a.2<a.1.trs.length
set_option maxHeartbeats 4000000 in
theorem aaC:av Tryz.prog 103 (bQ (fun a:aA×Nat=>[jh a.1,iA a.2]) ai3 (fun a=>ql (mI a.1 a.2))):=by
 have h:av Tryz.prog 103 (bQ (fun a:aA×Nat=>[jh a.1,iA a.2]) ai3 (fun a=>.agg [iP 3,iP 0,.seq (jW a.1 a.2 a.2).length (uW (jW a.1 a.2 a.2))])):=by
  refine vF Tryz.func103 ?_
  rintro ⟨c,i⟩ hpre
  obtain ⟨hc,hi⟩:=hpre
  have hc:kL c:=hc
  have hi:i<c.trs.length:=hi
  have hs:=iZ hc.1
  obtain ⟨_,_,_,h32,_⟩:=lY hc.1
  obtain ⟨⟨hfr,_⟩,_⟩:=rO hc.1 hi
  have hto:=mP hc.2 hi
  have hfl:(eH c i).length≤1000000:=hto.1
  refine iX (i) (c.trs.length) ?_
  refine fR ((eH c i).length) (fun k=>[(19,.s (iA k))]) (fun k=>[⟨3,90,[.s (iA 3),.s (iA 0),exU (pz c i k)]⟩]) (fun k=>True) ?_ ?_ ?_ ?_
  ·exact (ai (ai (fun _=>rfl) (iE (by omega))) rfl)
  ·exact (ai (ai (ai (ai (fun _=>rfl) rfl) rfl) (ai (ai (ai (fun _=>rfl) rfl) rfl) rfl)) trivial)
  ·trivial
  intro (k:Nat) ⟨hk,_⟩
  have hl:=vD hk
  refine ah (p:=k<(eH c i).length) (by exact aB (show ((k:Nat):Int)<(((eH c i).length:Nat):Int)↔_ by omega)) (fun h1=>?_) (fun h1=>?_)
  ·refine iX (k) ((eH c i).length) ?_
   have hx:0≤(eH c i).getD k 0∧(eH c i).getD k 0<24:=xW hfr h1
   refine dR (.seq [0,1,2,3,4,5,6,7,8,9]) ?_
   refine ei _ (ai (oW) (ei ((c,((eH c i).getD k 0).toNat)) (ei [] (ai (a4 (ai (fun _=>Or.inl rfl) (ai nof (Or.inl rfl)))) (ai ?_ (ai (by exact trivial) (ai (⟨hs,by show ((eH c i).getD k 0).toNat≤1000000;omega⟩) ?_)))))))
   ·refine (ai (ai rfl (ai (ai rfl (fun _ _=>rfl)) (ai (ai rfl (fun _ _=>rfl)) (ai rfl (fun _ _=>rfl))))) ?_)
    show (eH c i).getD k 0=((((eH c i).getD k 0).toNat:Nat):Int)
    omega
   refine cK (pX) (mg c ((eH c i).getD k 0).toNat) (by exact rfl) (trivial) ?_
   refine ai (mxL (n:=(pz c i k).length+1) (by omega) (by decide)) (ai (lt1 rfl) ?_)
   refine nX (k) (ai (ai (fun _=>rfl) (aH (by omega))) rfl) (ai (ai (ai (ai nof rfl) rfl) (ai (ai (ai nof rfl) rfl) (ai rfl (ai rfl (ai ?_ ?_))))) trivial) trivial
   ·rw[tu h1,aao];rfl
   ·rw[tu h1];exact gP rfl (fun _ _=>rfl) (mO _)
  obtain rfl:k=(eH c i).length:=by omega
  refine dR (.seq [0,1,2,3,4,5,6,7,8,9,10]) ?_
  refine cK (ajK) (c) (by exact (ai rfl (ai (ai rfl (fun _ _=>rfl)) (ai (ai rfl (fun _ _=>rfl)) (ai rfl (fun _ _=>rfl)))))) (alz hc) ?_
  refine cK (avx) ((rE c i,relE c)) (by exact (ai (ai (iE (by simp only[zz,reduceCtorEq])) (ai (iE (by simp only[zz,reduceCtorEq])) (ai rfl (fun _ _=>rfl)))) (ai rfl (fun _ _=>rfl)))) (asU hc hi) ?_
  refine ai (mxL (n:=(pz c i (eH c i).length).length+1) (by omega) (by decide)) (ai (lt1 rfl) ?_)
  have e0:jW c i 0=pz c i (eH c i).length++[dz (relE c) (rE c i)]:=ape _
  refine fR (i) (fun k=>[(9,.s (iA k))]) (fun k=>[⟨3,90,[.s (iA 3),.s (iA 0),exU (jW c i k)]⟩]) (fun k=>True) ?_ ?_ ?_ ?_
  ·exact (ai (ai (fun _=>rfl) (iE (by omega))) rfl)
  ·refine (ai (ai (ai (ai nof rfl) rfl) (ai (ai (ai nof rfl) rfl) (ai rfl (ai rfl (ai ?_ ?_))))) trivial)
   ·rw[e0,aao];rfl
   ·rw[e0];exact gP rfl (fun _ _=>rfl) (.of rfl)
  ·trivial
  intro (k:Nat) ⟨hk,_⟩
  have hpl:(jW c i k).length≤1000000+1+k:=by
   have:=ab1 c i k
   unfold jW ajt
   rw[aao,aao,vD (acn _)]
   show _+1+_≤_
   omega
  refine bL (k<i) (fun h1=>?_) fun h1=>?_
  ·have hkt:k<c.trs.length:=by omega
   refine dR (.seq [0,1,2,3,4,5,6,7,8]) ?_
   refine iX (k) (c.trs.length) ?_
   refine cK (amG) ((eH c i,eH c k)) (by exact (ai (ai rfl (fun _ _=>rfl)) (ai rfl (fun _ _=>rfl)))) (⟨hto.1,(mP hc.2 hkt).1⟩) ?_
   refine aC (b:=nP (eH c i) (eH c k)) rfl (fun h2=>?_) (fun h2=>?_)
   ·refine dR (.seq [0,1,2,3,4,5,6,7,8,9,10]) ?_
    refine cK (aeR) ((c,k)) (by exact (ai (ai rfl (ai (ai rfl (fun _ _=>rfl)) (ai (ai rfl (fun _ _=>rfl)) (ai rfl (fun _ _=>rfl))))) rfl)) (⟨hs,by show k≤1000000;omega⟩) ?_
    refine cK (pX) (lJ c k) (by exact rfl) (trivial) ?_
    refine cK (apW) (o8 (lJ c k)) (by exact (ai rfl (ai rfl rfl))) (trivial) ?_
    refine ai (mxL (n:=(jW c i k).length+1) (by omega) (by decide)) (ai (lt1 rfl) ?_)
    refine nX (k) (ai (ai (fun _=>rfl) (aH (by omega))) rfl) (ai (ai (ai (ai nof rfl) rfl) (ai (ai (ai nof rfl) rfl) (ai rfl (ai rfl (ai ?_ ?_))))) trivial) trivial
    ·rw[abm h2,aao];rfl
    ·rw[abm h2];exact gP rfl (fun _ _=>rfl) (aml _)
   ·refine nX (k) (ai (ai (fun _=>rfl) (aH (by omega))) rfl) (ai (ai (ai (ai nof rfl) rfl) (ai (ai (ai nof rfl) rfl) (ai rfl (ai rfl (ai ?_ ?_))))) trivial) trivial
    all_goals rw[alv h2]
    exact fun _ _=>.of rfl
  ·obtain rfl:k=i:=by omega
   refine ai (ai (fun h=>absurd (show false=true from h) (by decide)) ?_) trivial
   exact (ai rfl (ai rfl (ai rfl (fun _ _=>rfl))))
 exact gW h fun a _=>abE (x:=mI a.1 a.2) rfl
def zX:Ex:=.node 0 0 []
def bO (c:aA) (k:Nat):List Int:=gD c (k:Int) false c.trs.length
def cO (c:aA) (k:Nat):List Int:=gD c (k:Int) true c.trs.length
def p9 (c:aA) (k:Nat):Ex:=if 0<(bO c k).length∧0<(cO c k).length then uF (aF (cO c k)) (mE (aF (bO c k))) else aF (cO c k)
def mF (c:aA) (k:Nat):oP:=⟨120 :: dec k,1,aF (bO c k),p9 c k,0,(k:Int)==0⟩
def acH (c:aA) (k:Nat):oP:=⟨116 :: dec k,2,fG (mg c k),zX,(c.sts.getD k st0).wt,false⟩
def ap4 (c:aA) (i:Nat):oP:=⟨122 :: dec i,0,mI c i,zX,0,false⟩
def oH (c:aA) (a:Nat) (o:Bool):oP:=⟨[UInt8.ofNat (97+a),if o then 112 else 109],0,aF (dO c ((a:Int),o) c.sts.length),zX,0,false⟩
def eY (c:aA) (k:Nat):List oP:=(List.range k).map (mF c)
def dn (c:aA):Nat→List oP
 | 0=>eY c c.sts.length
 | k+1=>if 0<(c.sts.getD k st0).wt then dn c k++[acH c k] else dn c k
def fP (c:aA) (k:Nat):List oP:=dn c c.sts.length++(List.range k).map (ap4 c)
def aX (c:aA):Nat→List oP
 | 0=>fP c c.trs.length
 | a+1=>(aX c a++[oH c a true])++[oH c a false]
def oV (c:aA) (a:Nat):Int:=aS c+(fP c c.trs.length).length+2*a
def eP (c:aA) (a:Nat):List Int:=(List.range a).map fun j=>oV c j
def jR (c:aA) (a:Nat):List Int:=(List.range a).map fun j=>oV c j+1
def gF (c:aA):bC:=⟨c.act,c.ins,aX c c.act.toNat,eP c c.act.toNat,jR c c.act.toNat⟩
theorem bW (c:aA) (k:Nat):eY c (k+1)=eY c k++[mF c k]:=by unfold eY;rw[auQ,anN];rfl
theorem vN (c:aA) (k:Nat):(eY c k).length=k:=by unfold eY;rw[aeu,at6]
theorem qP (c:aA):∀k,(dn c k).length=c.sts.length+gT c k
 | 0=>vN c _
 | k+1=>by
  have:=qP c k
  rw[dn,gT];split
  ·rw[aao];show _+1=_;omega
  ·omega
theorem lQ (c:aA) (k:Nat):fP c (k+1)=fP c k++[ap4 c k]:=by unfold fP;rw[auQ,anN,auY];rfl
theorem jC (c:aA) (k:Nat):(fP c k).length=c.sts.length+gT c c.sts.length+k:=by unfold fP;rw[aao,aeu,at6,qP]
theorem jB (c:aA):∀a,(aX c a).length=(fP c c.trs.length).length+2*a
 | 0=>rfl
 | a+1=>by rw[aX,aao,aao,jB c a];show _+1+1=_;omega
theorem qI (c:aA) (a:Nat):eP c (a+1)=eP c a++[oV c a]:=by unfold eP;rw[auQ,anN];rfl
theorem yZ (c:aA) (a:Nat):jR c (a+1)=jR c a++[oV c a+1]:=by unfold jR;rw[auQ,anN];rfl
theorem kX (c:aA) (a:Nat):(eP c a).length=a:=by unfold eP;rw[aeu,at6]
theorem oF (c:aA) (a:Nat):(jR c a).length=a:=by unfold jR;rw[aeu,at6]
def sD (l:List oP) (k:Nat):List PV:=sgK (l.getD k ak)
def sgU (l:List oP):LV:=.rws 92 10 l.length (sD l)
theorem bS {l:List oP} {x:oP} {n:Nat} {f g:Nat→List PV} (hn:n=l.length) (hf:∀k,k<l.length→cu (f k) (sD l k)) (hg:cu (g 0) (sgK x)):∀k,k<n+1→cu (bI n f g k) (sD (l++[x]) k):=by
 intro k hk
 subst hn
 unfold bI sD
 by_cases h:k<l.length
 ·rw[if_pos h,aai,alx h]
  have:=hf k h
  unfold sD at this
  rw[aai] at this;exact this
 ·have:k=l.length:=by omega
  subst this
  rw[if_neg h,auO,aai,ael (acn _),auO]
  exact hg
theorem adP {nm:List UInt8} {kd dl:Int} {ini:Bool} {x:Ex}:cu [sP nm,iP kd,iP x.op,iP x.idx,.seq x.args.length (jo x.args),iP 0,iP 0,.val (.slice none 0 0),iP dl,bP ini] (sgK ⟨nm,kd,x,zX,dl,ini⟩):=
 aG (.refl _) (aG (.refl _) (aG (.refl _) (aG (.refl _) (aG (.refl _) (aG (.refl _) (aG (.refl _) (aG (.nil _) (aG (.refl _) (nY (.refl _))))))))))
theorem ac1 {nm:List UInt8} {kd dl m:Int} {ini:Bool}:cu [sP nm,iP kd,iP 1,iP m,.val (.slice none 0 0),iP 0,iP 0,.val (.slice none 0 0),iP dl,bP ini] (sgK ⟨nm,kd,fG m,zX,dl,ini⟩):=
 aG (.refl _) (aG (.refl _) (aG (.refl _) (aG (.refl _) (aG (.nil _) (aG (.refl _) (aG (.refl _) (aG (.nil _) (aG (.refl _) (nY (.refl _))))))))))
structure am2 where
 act:Int
 ni:Nat
 fi:Nat→List PV
 ns:Nat
 fs:Nat→List PV
 np:Nat
 fp:Nat→List PV
 nm:Nat
 fm:Nat→List PV
def avG (a:am2):Prop:=(0≤a.act∧a.act≤1000)∧a.ni≤1000000∧a.ns≤1000000
theorem vE:av Tryz.prog 104 (bq (fun a:am2=>[.p false (.agg [iP a.act,.seq a.ni a.fi,.seq a.ns a.fs,.seq a.np a.fp,.seq a.nm a.fm])]) avG (fun a=>iP (2*a.act+a.ni+a.ns))):=by
 refine vF Tryz.func104 ?_
 rintro (a:am2) hpre
 obtain ⟨⟨h1,h2⟩,h3,h4⟩:=hpre
 have h1:0≤a.act:=h1
 have h2:a.act≤1000:=h2
 have h3:a.ni≤1000000:=h3
 have h4:a.ns≤1000000:=h4
 refine ai (ai (fun _=>trivial) ?_) trivial
 show IntKind.i64.wrap (IntKind.i64.wrap (IntKind.i64.wrap (2*a.act)+(a.ni:Int))+(a.ns:Int))=2*a.act+a.ni+a.ns
 rw[dD (n:=2*a.act) (by omega) (by omega),dD (n:=2*a.act+(a.ni:Int)) (by omega) (by omega),dD (by omega) (by omega)]
def anr (nm:ByteArray) (x:Ex):List PV:=[.val (.string nm),iP 0,iP x.op,iP x.idx,.seq x.args.length (jo x.args),iP 0,iP 0,.val (.slice none 0 0),iP 0,bP false]
def agA (c:aA) (a ns:Nat) (fs:Nat→List PV) (p:List Int):am2:=⟨c.act,c.ins.length,fun k=>[sP (c.ins.getD k [])],ns,fs,p.length,fun k=>[iP (p.getD k 0)],(jR c a).length,fun k=>[iP ((jR c a).getD k 0)]⟩
theorem sw {b:ByteArray} {nm:List UInt8} {x:Ex} (h:b=strOf nm):cu (anr b x) (sgK ⟨nm,0,x,zX,0,false⟩):=by subst h;exact adP
theorem ahF:∀(l:List Sk),(∀k,k+1<l.length→(l.getD k bV).1<(l.getD (k+1) bV).1)→(∀y∈l.drop 1,(l.getD 0 bV).1<y.1)∧l.Nodup
 | [],_=>⟨fun y hy=>by simp at hy,avF⟩
 | x :: l,h=>by
  obtain ⟨h1,h2⟩:=ahF l fun k hk=>h (k+1) (by simpa using hk)
  have h3:∀y∈l,x.1<y.1:=by
   intro y hy
   cases l with
   | nil=>simp at hy
   | cons z t=>
    have h0:=h 0 (by simp)
    have h0:x.1<z.1:=h0
    rcases ah3.1 hy with rfl | hy
    ·exact h0
    ·have:=h1 y hy
     have this:z.1<y.1:=this
     omega
  exact ⟨h3,axH.2 ⟨fun hx=>by have:=h3 x hx;omega,h2⟩⟩
theorem apm {c:aA} (h:kL c):∀y∈c.sts,y.st.Nodup:=fun x hx=>by
 obtain ⟨h1,_,_,_,h5,_⟩:=lY h.1
 obtain ⟨k,hk,rfl⟩:=aoG hx
 have h5:=h5 k hk
 rw[show c.sts.getD k st0=c.sts[k] by rw[aai,aau hk];rfl] at h5
 unfold gG at h5
 split at h5
 ·rename_i h6;exact absurd h5 h6
 ·rename_i h6
  refine (ahF _ fun j hj=>?_).2
  have:=pJ (aku.1 h6) (j+1) hj
  unfold kR at this
  split at this
  ·cases this
  ·split at this
   ·cases this
   ·rename_i h7
    rw[Nat.add_sub_cancel] at h7
    omega
theorem dY {c:aA} (h:kL c):(1≤c.act∧c.act≤6)∧c.ins.length≤16∧c.sts.length≤24∧c.trs.length≤32:=by
 obtain ⟨h1,h2,h3,h4,_⟩:=lY h.1
 exact ⟨h1,xJ h2,h3.2,h4⟩
def awP (c:aA):LV:=.rw 9 1 c.ins.length (fun k=>[sP (c.ins.getD k [])])
def isU (l:List Int):LV:=.rw 3 1 l.length (fun k=>[iP (l.getD k 0)])
def ctU (c:aA) (s:List oP) (p m:LV):List LV:=[.s (iA c.act),awP c,sgU s,p,m]
set_option maxHeartbeats 16000000 in
theorem ahT:av Tryz.prog 52 (bQ (fun c:aA=>[jh c]) kL (fun c=>ctP (gF c))):=by
 refine vF Tryz.func52 ?_
 rintro (c:aA) hpre
 have hc:kL c:=hpre
 have hs:=iZ hc.1
 obtain ⟨⟨ha1,ha6⟩,hi16,hs24,ht32⟩:=dY hc
 have hgp:∀k fr,aps (c,k,fr):=fun k fr=>⟨hs,hc.2,by show c.trs.length≤1000000;omega⟩
 have hon:∀k,(bO c k).length≤c.trs.length:=fun k=>lq c _ _ _
 have hof:∀k,(cO c k).length≤c.trs.length:=fun k=>lq c _ _ _
 have hal:∀x,(dO c x c.sts.length).length≤c.sts.length:=fun x=>sQ c x _
 have hap:∀x,aof (c,x):=fun x=>⟨hs,hc.2,apm hc⟩
 have htm:=lD c c.sts.length
 have hN1:(bO c 0).length≤32:=by have:=hon 0;omega
 refine dR (.one 0 (.one 3 (.one 4 (.rd 1 [5] (.alt 2 (.alt 5 (.one 6 (.one 7 (.one 8 .done))) (.alt 7 (.one 5 (.one 6 (.one 8 .done))) .stop)) (.alt 7 (.one 2 (.one 5 (.one 6 (.one 8 .done)))) .stop)))))) ?_
 refine ai (ai ?_ (ai ?_ trivial)) (ai ?_ trivial)
 ·refine ai (mxL (n:=0+c.ins.length) (by omega) (by decide)) (ai (fun _ _=>rfl) ?_)
  refine fR (c.sts.length) (fun k=>[(4,.s (iA k))]) (fun k=>[⟨4,32,ctU c (eY c k) (.s iT) (.s iT)⟩]) (fun k=>True) ?_ ?_ ?_ ?_
  ·exact (ai (ai (fun _=>rfl) (iE (by omega))) rfl)
  ·refine (ai (ai (ai (ai nof rfl) rfl) (ai (ai rfl (ai rfl (ai ?_ (fun _ _=>rfl)))) (ai rfl (ai (ai (ai (fun _=>rfl) rfl) rfl) (ai (ai (fun _=>rfl) rfl) rfl))))) trivial)
   exact ajN _
  ·trivial
  intro (k:Nat) ⟨hk,_⟩
  have hl:=vN c k
  refine bL (k<c.sts.length) (fun g=>?_) fun g=>?_
  ·refine cK (nH) (([120],k)) (by exact (ai rfl rfl)) (⟨by show 1≤1000;omega,by show k<1000;omega⟩) ?_
   refine dR (.seq [0,1,4,5,2,3,8,6,7,9,10,11]) ?_
   refine cK (kr) ((c,(k:Int),false)) (by exact (ai (ai rfl (ai (ai rfl (fun _ _=>rfl)) (ai (ai rfl (fun _ _=>rfl)) (ai rfl (fun _ _=>rfl))))) (ai rfl rfl))) (hgp _ _) ?_
   refine cK (lg) (bO c k) (by exact (ai rfl (fun _ _=>rfl))) ((by have:=hon k;show (bO c k).length≤1000000;omega)) ?_
   refine cK (kr) ((c,(k:Int),true)) (by exact (ai (ai rfl (ai (ai rfl (fun _ _=>rfl)) (ai (ai rfl (fun _ _=>rfl)) (ai rfl (fun _ _=>rfl))))) (ai rfl rfl))) (hgp _ _) ?_
   refine cK (lg) (cO c k) (by exact (ai rfl (fun _ _=>rfl))) ((by have:=hof k;show (cO c k).length≤1000000;omega)) ?_
   refine cK (kr) ((c,(k:Int),false)) (by exact (ai (ai rfl (ai (ai rfl (fun _ _=>rfl)) (ai (ai rfl (fun _ _=>rfl)) (ai rfl (fun _ _=>rfl))))) (ai rfl rfl))) (hgp _ _) ?_
   refine ah (p:=0<(bO c k).length) (by exact aB (show (0:Int)<(((bO c k).length:Nat):Int)↔_ by omega)) (fun g1=>?_) (fun g1=>?_)
   ·refine cK (kr) ((c,(k:Int),true)) (by exact (ai (ai rfl (ai (ai rfl (fun _ _=>rfl)) (ai (ai rfl (fun _ _=>rfl)) (ai rfl (fun _ _=>rfl))))) (ai rfl rfl))) (hgp _ _) ?_
    refine ah (p:=0<(cO c k).length) (by exact aB (show (0:Int)<(((cO c k).length:Nat):Int)↔_ by omega)) (fun g2=>?_) (fun g2=>?_)
    ·refine dR (.seq [0,1,2,3,4,5,6,7]) ?_
     refine cK (ahc) (aF (bO c k)) (by exact (ai rfl (ai rfl (ai rfl (fun _ _=>rfl))))) (trivial) ?_
     refine cK (agM) ((aF (cO c k),mE (aF (bO c k)))) (by exact (ai (ai rfl (ai rfl (ai rfl (fun _ _=>rfl)))) (ai rfl (ai rfl (ai rfl (fun _ _=>rfl)))))) (trivial) ?_
     have e:p9 c k=uF (aF (cO c k)) (mE (aF (bO c k))):=if_pos ⟨g1,g2⟩
     refine ai (mxL (n:=(eY c k).length+1) (by omega) (by decide)) (ai (lt1 rfl) ?_)
     refine nX (k) (ai (ai (fun _=>rfl) (aH (by omega))) rfl) (ai (ai (ai (ai nof rfl) rfl) (ai (ai rfl (ai rfl (ai rfl (fun _ _=>rfl)))) (ai (ai rfl (ai rfl (ai ?_ ?_))) (ai (ai (ai nof rfl) rfl) (ai (ai nof rfl) rfl))))) trivial) trivial
     ·rw[bW,aao];rfl
     ·rw[bW]
      exact bS rfl (fun _ _=>.of rfl) (.of (by unfold mF;rw[e];rfl))
    ·have e:p9 c k=aF (cO c k):=if_neg (fun h=>g2 h.2)
     refine ai (mxL (n:=(eY c k).length+1) (by omega) (by decide)) (ai (lt1 rfl) ?_)
     refine nX (k) (ai (ai (fun _=>rfl) (aH (by omega))) rfl) (ai (ai (ai (ai nof rfl) rfl) (ai (ai rfl (ai rfl (ai rfl (fun _ _=>rfl)))) (ai (ai rfl (ai rfl (ai ?_ ?_))) (ai (ai (ai nof rfl) rfl) (ai (ai nof rfl) rfl))))) trivial) trivial
     ·rw[bW,aao];rfl
     ·rw[bW]
      exact bS rfl (fun _ _=>.of rfl) (.of (by unfold mF;rw[e];rfl))
   ·have e:p9 c k=aF (cO c k):=if_neg (fun h=>g1 h.1)
    refine ai (mxL (n:=(eY c k).length+1) (by omega) (by decide)) (ai (lt1 rfl) ?_)
    refine nX (k) (ai (ai (fun _=>rfl) (aH (by omega))) rfl) (ai (ai (ai (ai nof rfl) rfl) (ai (ai rfl (ai rfl (ai rfl (fun _ _=>rfl)))) (ai (ai rfl (ai rfl (ai ?_ ?_))) (ai (ai (ai nof rfl) rfl) (ai (ai nof rfl) rfl))))) trivial) trivial
    ·rw[bW,aao];rfl
    ·rw[bW]
     exact bS rfl (fun _ _=>.of rfl) (.of (by unfold mF;rw[e];rfl))
  have e0:dn c 0=eY c k:=by rw[show k=c.sts.length by omega];rfl
  clear hl g
  refine fR (c.sts.length) (fun k=>[(6,.s (iA k))]) (fun k=>[⟨4,32,ctU c (dn c k) (.s iT) (.s iT)⟩]) (fun k=>True) ?_ ?_ ?_ ?_
  ·exact (ai (ai (fun _=>rfl) (iE (by omega))) rfl)
  ·refine (ai (ai (ai (ai nof rfl) rfl) (ai (ai rfl (ai rfl (ai rfl (fun _ _=>rfl)))) (ai (ai rfl (ai rfl (ai ?_ ?_))) (ai (ai (ai nof rfl) rfl) (ai (ai nof rfl) rfl))))) trivial)
   ·rw[e0]
   ·rw[e0];exact fun _ _=>.of rfl
  ·trivial
  intro (k:Nat) ⟨hk,_⟩
  have hl:=qP c k
  have htk:=lD c k
  refine bL (k<c.sts.length) (fun g=>?_) fun g=>?_
  ·refine iX (k) (c.sts.length) ?_
   refine ah (p:=0<(c.sts.getD k st0).wt) (aB Iff.rfl) (fun g1=>?_) (fun g1=>?_)
   ·have e1:dn c (k+1)=dn c k++[acH c k]:=by rw[dn,if_pos g1]
    refine dR (.seq [0,1,2,4,5,8,9,10,11,12,13,3,6,7,14,15,16,17,18]) ?_
    refine iX (k) (c.sts.length) ?_
    refine cK (nH) (([116],k)) (by exact (ai rfl rfl)) (⟨by show 1≤1000;omega,by show k<1000;omega⟩) ?_
    refine cK (oW) ((c,k)) (by exact (ai (ai rfl (ai (ai rfl (fun _ _=>rfl)) (ai (ai rfl (fun _ _=>rfl)) (ai rfl (fun _ _=>rfl))))) rfl)) (⟨hs,by show k≤1000000;omega⟩) ?_
    refine cK (pX) (mg c k) (by exact rfl) (trivial) ?_
    refine ai (mxL (n:=(dn c k).length+1) (by omega) (by decide)) (ai (lt1 rfl) ?_)
    refine nX (k) (ai (ai (fun _=>rfl) (aH (by omega))) rfl) (ai (ai (ai (ai nof rfl) rfl) (ai (ai rfl (ai rfl (ai rfl (fun _ _=>rfl)))) (ai (ai rfl (ai rfl (ai ?_ ?_))) (ai (ai (ai nof rfl) rfl) (ai (ai nof rfl) rfl))))) trivial) trivial
    ·rw[e1,aao];rfl
    ·rw[e1]
     exact bS rfl (fun _ _=>.of rfl) (ac1 (m:=mg c k))
   ·have e1:dn c (k+1)=dn c k:=by rw[dn,if_neg g1]
    refine nX (k) (ai (ai (fun _=>rfl) (aH (by omega))) rfl) (ai (ai (ai (ai nof rfl) rfl) (ai (ai rfl (ai rfl (ai rfl (fun _ _=>rfl)))) (ai (ai rfl (ai rfl (ai ?_ ?_))) (ai (ai (ai nof rfl) rfl) (ai (ai nof rfl) rfl))))) trivial) trivial
    all_goals rw[e1]
    exact fun _ _=>.of rfl
  have e0:fP c 0=dn c k:=by rw[show k=c.sts.length by omega];exact ape _
  clear hl g htk
  refine fR (c.trs.length) (fun k=>[(7,.s (iA k))]) (fun k=>[⟨4,32,ctU c (fP c k) (.s iT) (.s iT)⟩]) (fun k=>True) ?_ ?_ ?_ ?_
  ·exact (ai (ai (fun _=>rfl) (iE (by omega))) rfl)
  ·refine (ai (ai (ai (ai nof rfl) rfl) (ai (ai rfl (ai rfl (ai rfl (fun _ _=>rfl)))) (ai (ai rfl (ai rfl (ai ?_ ?_))) (ai (ai (ai nof rfl) rfl) (ai (ai nof rfl) rfl))))) trivial)
   ·rw[e0]
   ·rw[e0];exact fun _ _=>.of rfl
  ·trivial
  intro (k:Nat) ⟨hk,_⟩
  have hl:=jC c k
  refine bL (k<c.trs.length) (fun g=>?_) fun g=>?_
  ·refine dR (.seq [0,1,2,4,5,3,6,7,8,9,10,11]) ?_
   refine cK (nH) (([122],k)) (by exact (ai rfl rfl)) (⟨by show 1≤1000;omega,by show k<1000;omega⟩) ?_
   refine cK (aaC) ((c,k)) (by exact (ai (ai rfl (ai (ai rfl (fun _ _=>rfl)) (ai (ai rfl (fun _ _=>rfl)) (ai rfl (fun _ _=>rfl))))) rfl)) (⟨hc,g⟩) ?_
   refine ai (mxL (n:=(fP c k).length+1) (by omega) (by decide)) (ai (lt1 rfl) ?_)
   refine nX (k) (ai (ai (fun _=>rfl) (aH (by omega))) rfl) (ai (ai (ai (ai nof rfl) rfl) (ai (ai rfl (ai rfl (ai rfl (fun _ _=>rfl)))) (ai (ai rfl (ai rfl (ai ?_ ?_))) (ai (ai (ai nof rfl) rfl) (ai (ai nof rfl) rfl))))) trivial) trivial
   ·rw[lQ,aao];rfl
   ·rw[lQ]
    exact bS rfl (fun _ _=>.of rfl) (adP (x:=mI c k))
  have e0:aX c 0=fP c k:=by rw[show k=c.trs.length by omega];rfl
  clear hl g
  have hG:=jC c c.trs.length
  refine fR (c.act.toNat) (fun a=>[(8,.s (iA a))]) (fun a=>[⟨4,32,ctU c (aX c a) (isU (eP c a)) (isU (jR c a))⟩]) (fun a=>True) ?_ ?_ ?_ ?_
  ·exact (ai (ai (fun _=>rfl) (iE (by omega))) rfl)
  ·refine (ai (ai (ai (ai nof rfl) rfl) (ai (ai rfl (ai rfl (ai rfl (fun _ _=>rfl)))) (ai (ai rfl (ai rfl (ai ?_ ?_))) (ai rfl rfl)))) trivial)
   ·rw[e0]
   ·rw[e0];exact fun _ _=>.of rfl
  ·trivial
  intro (a:Nat) ⟨hk,_⟩
  have hP:=jB c a
  have hpl:=kX c a
  have hml:=oF c a
  refine bL (a<c.act.toNat) (fun g=>?_) fun g=>?_
  ·have hb:aS c=2*c.act+c.ins.length:=rfl
   have hw2:IntKind.i64.wrap (2*c.act)=2*c.act:=dD (by omega) (by omega)
   have hpn:oV c a=aS c+((fP c c.trs.length).length:Int)+2*(a:Int):=rfl
   have hww:∀n:Nat,n≤1000→IntKind.i64.wrap (IntKind.i64.wrap (IntKind.i64.wrap (2*c.act)+(c.ins.length:Int))+(n:Int))=aS c+(n:Int):=fun n hn=>by
    rw[hw2,dD (n:=2*c.act+(c.ins.length:Int)) (by omega) (by omega),dD (by omega) (by omega),hb]
   have hpe:2*c.act+(c.ins.length:Int)+((aX c a).length:Int)=oV c a:=by omega
   have hpm:2*c.act+(c.ins.length:Int)+(((aX c a).length+1:Nat):Int)=oV c a+1:=by omega
   have hw1:IntKind.i64.wrap ((a:Int)+1)=((a+1:Nat):Int):=aH (by omega)
   have hx:(strOf six).extract ((a:Nat):Int).toNat (IntKind.i64.wrap ((a:Int)+1)).toNat=strOf [UInt8.ofNat (97+a)]:=by
    rw[hw1,ad9,ad9,tY,aaV (by omega)]
   refine dR (.seq [0,1,2,3,4,5,6,7]) ?_
   refine cK (vE) (agA c a (aX c a).length (sD (aX c a)) (eP c a)) (by exact (ai (iE rfl) (ai (ai rfl (fun _ _=>rfl)) (ai (ai rfl (fun _ _=>rfl)) (ai (ai rfl (fun _ _=>rfl)) (ai rfl (fun _ _=>rfl))))))) (⟨⟨by show 0≤c.act;omega,by show c.act≤1000;omega⟩,by show c.ins.length≤1000000;omega,by show (aX c a).length≤1000000;omega⟩) ?_
   refine ai (mxL (n:=(eP c a).length+1) (by omega) (by decide)) (ai (fJ 1 rfl) ?_)
   refine dR (.seq [0,1,2,3,4,5,6,7,8,9,10,11,12,13,14,15,16]) ?_
   refine ai (ai (aaT _) (ai (by rw[hw1];show (a:Int)≤_;omega) (by rw[hw1];show ((a+1:Nat):Int)≤6;omega))) ?_
   refine ai (by show ((((strOf six).extract ((a:Nat):Int).toNat (IntKind.i64.wrap ((a:Int)+1)).toNat).size+1:Nat):Int)≤9223372036854775807;rw[hx];show ((2:Nat):Int)≤9223372036854775807;decide) ?_
   refine cK (qY) ((c,((a:Int),true))) (by exact (ai (ai rfl (ai (ai rfl (fun _ _=>rfl)) (ai (ai rfl (fun _ _=>rfl)) (ai rfl (fun _ _=>rfl))))) (ai rfl rfl))) (hap _) ?_
   refine cK (lg) (dO c ((a:Int),true) c.sts.length) (by exact (ai rfl (fun _ _=>rfl))) ((by have:=hal ((a:Int),true);show (dO c ((a:Int),true) c.sts.length).length≤1000000;omega)) ?_
   refine ai (mxL (n:=(aX c a).length+1) (by omega) (by decide)) (ai (lt1 rfl) ?_)
   refine dR (.seq [0,1,2,3,4,5,6,7]) ?_
   refine ei _ (ai (vE) (ei (agA c a ((aX c a).length+1) (bI (aX c a).length (sD (aX c a)) (aU 10 (anr ((strOf six).extract ((a:Nat):Int).toNat (IntKind.i64.wrap ((a:Int)+1)).toNat++strOf [112]) (aF (dO c ((a:Int),true) c.sts.length))))) (eP c (a+1))) (ei [] (ai (ai rfl (ai rfl (ai rfl (ai rfl (ai (fun _=>Or.inl rfl) (ai (fun _=>ai rfl rfl) (Or.inl rfl))))))) (ai ?_ (ai (by exact trivial) (ai (⟨⟨by show 0≤c.act;omega,by show c.act≤1000;omega⟩,by show c.ins.length≤1000000;omega,by show (aX c a).length+1≤1000000;omega⟩) ?_)))))))
   ·refine (ai (iE (by simp only[zz,reduceCtorEq];rfl)) (ai (ai rfl (fun _ _=>rfl)) (ai (ai rfl (fun _ _=>rfl)) (ai (ai ?_ ?_) (ai rfl (fun _ _=>rfl))))))
    ·show (eP c a).length+1=(eP c (a+1)).length
     rw[hpl,kX]
    ·show ∀k,k<(eP c a).length+1→bI (eP c a).length (fun k=>[iP ((eP c a).getD k 0)]) (aU 1 [iP (2*c.act+(c.ins.length:Int)+((aX c a).length:Int))]) k=[iP ((eP c (a+1)).getD k 0)]
     rw[qI,hpe];exact dK _ _
   refine ai (mxL (n:=(jR c a).length+1) (by omega) (by decide)) (ai (fJ 1 rfl) ?_)
   refine dR (.seq [0,1,2,3,4,5,6,7,8,9,10,11,12,13,14,15,16]) ?_
   refine ai (ai (aaT _) (ai (by rw[hw1];show (a:Int)≤_;omega) (by rw[hw1];show ((a+1:Nat):Int)≤6;omega))) ?_
   refine ai (by show ((((strOf six).extract ((a:Nat):Int).toNat (IntKind.i64.wrap ((a:Int)+1)).toNat).size+1:Nat):Int)≤9223372036854775807;rw[hx];show ((2:Nat):Int)≤9223372036854775807;decide) ?_
   refine cK (qY) ((c,((a:Int),false))) (by exact (ai (ai rfl (ai (ai rfl (fun _ _=>rfl)) (ai (ai rfl (fun _ _=>rfl)) (ai rfl (fun _ _=>rfl))))) (ai rfl rfl))) (hap _) ?_
   refine cK (lg) (dO c ((a:Int),false) c.sts.length) (by exact (ai rfl (fun _ _=>rfl))) ((by have:=hal ((a:Int),false);show (dO c ((a:Int),false) c.sts.length).length≤1000000;omega)) ?_
   refine ai (mxL (n:=((aX c a).length+1)+1) (by omega) (by decide)) (ai (lt1 rfl) ?_)
   refine nX (a) (ai (ai (fun _=>rfl) (aH (by omega))) rfl) (ai (ai (ai (ai nof rfl) rfl) (ai (ai rfl (ai rfl (ai rfl (fun _ _=>rfl)))) (ai (ai rfl (ai rfl (ai ?_ ?_))) (ai (ai rfl (ai rfl (ai ?_ ?_))) (ai rfl (ai rfl (ai ?_ ?_))))))) trivial) trivial
   ·have:=jB c (a+1)
    show (aX c a).length+1+1=(aX c (a+1)).length
    omega
   ·rw[aX]
    refine bS (l:=aX c a++[oH c a true]) (x:=oH c a false) (by rw[aao];rfl) (fun q hq=>?_) ?_
    ·exact bS (l:=aX c a) (x:=oH c a true) rfl (fun _ _=>.of rfl) (sw (by show (strOf six).extract _ _++strOf [112]=_;rw[hx];rfl)) q (by rw[aao] at hq;exact hq)
    ·exact sw (by show (strOf six).extract _ _++strOf [109]=_;rw[hx];rfl)
   ·rw[hpl,kX]
   ·show ∀k,k<(eP c a).length+1→bI (eP c a).length (fun k=>[iP ((eP c a).getD k 0)]) (aU 1 [iP (2*c.act+(c.ins.length:Int)+((aX c a).length:Int))]) k=[iP ((eP c (a+1)).getD k 0)]
    rw[qI,hpe];exact dK _ _
   ·rw[hml,oF]
   ·show ∀k,k<(jR c a).length+1→bI (jR c a).length (fun k=>[iP ((jR c a).getD k 0)]) (aU 1 [iP (2*c.act+(c.ins.length:Int)+(((aX c a).length+1:Nat):Int))]) k=[iP ((jR c (a+1)).getD k 0)]
    rw[yZ,hpm];exact dK _ _
  ·refine ai (ai (fun h=>absurd (show false=true from h) (by decide)) ?_) trivial
   have ea:a=c.act.toNat:=by omega
   refine (ai (iE rfl) (ai (ai rfl (fun _ _=>rfl)) (ai (ai ?_ ?_) (ai (ai ?_ ?_) (ai ?_ ?_)))))
   all_goals rw[ea]
   all_goals (first | rfl | exact fun _ _=>rfl)
 ·refine ai (mxL (n:=0+c.ins.length) (by omega) (by decide)) (ai (fun _ _=>rfl) ?_)
  refine fR (c.sts.length) (fun k=>[(4,.s (iA k))]) (fun k=>[⟨3,32,ctU c (eY c k) (.s iT) (.s iT)⟩]) (fun k=>True) ?_ ?_ ?_ ?_
  ·exact (ai (ai (fun _=>rfl) (iE (by omega))) rfl)
  ·refine (ai (ai (ai (ai nof rfl) rfl) (ai (ai rfl (ai rfl (ai ?_ (fun _ _=>rfl)))) (ai rfl (ai (ai (ai (fun _=>rfl) rfl) rfl) (ai (ai (fun _=>rfl) rfl) rfl))))) trivial)
   exact ajN _
  ·trivial
  intro (k:Nat) ⟨hk,_⟩
  have hl:=vN c k
  refine bL (k<c.sts.length) (fun g=>?_) fun g=>?_
  ·refine cK (nH) (([120],k)) (by exact (ai rfl rfl)) (⟨by show 1≤1000;omega,by show k<1000;omega⟩) ?_
   refine dR (.seq [0,1,4,5,2,3,8,6,7,9,10,11]) ?_
   refine cK (kr) ((c,(k:Int),false)) (by exact (ai (ai rfl (ai (ai rfl (fun _ _=>rfl)) (ai (ai rfl (fun _ _=>rfl)) (ai rfl (fun _ _=>rfl))))) (ai rfl rfl))) (hgp _ _) ?_
   refine cK (lg) (bO c k) (by exact (ai rfl (fun _ _=>rfl))) ((by have:=hon k;show (bO c k).length≤1000000;omega)) ?_
   refine cK (kr) ((c,(k:Int),true)) (by exact (ai (ai rfl (ai (ai rfl (fun _ _=>rfl)) (ai (ai rfl (fun _ _=>rfl)) (ai rfl (fun _ _=>rfl))))) (ai rfl rfl))) (hgp _ _) ?_
   refine cK (lg) (cO c k) (by exact (ai rfl (fun _ _=>rfl))) ((by have:=hof k;show (cO c k).length≤1000000;omega)) ?_
   refine cK (kr) ((c,(k:Int),false)) (by exact (ai (ai rfl (ai (ai rfl (fun _ _=>rfl)) (ai (ai rfl (fun _ _=>rfl)) (ai rfl (fun _ _=>rfl))))) (ai rfl rfl))) (hgp _ _) ?_
   refine ah (p:=0<(bO c k).length) (by exact aB (show (0:Int)<(((bO c k).length:Nat):Int)↔_ by omega)) (fun g1=>?_) (fun g1=>?_)
   ·refine cK (kr) ((c,(k:Int),true)) (by exact (ai (ai rfl (ai (ai rfl (fun _ _=>rfl)) (ai (ai rfl (fun _ _=>rfl)) (ai rfl (fun _ _=>rfl))))) (ai rfl rfl))) (hgp _ _) ?_
    refine ah (p:=0<(cO c k).length) (by exact aB (show (0:Int)<(((cO c k).length:Nat):Int)↔_ by omega)) (fun g2=>?_) (fun g2=>?_)
    ·refine dR (.seq [0,1,2,3,4,5,6,7]) ?_
     refine cK (ahc) (aF (bO c k)) (by exact (ai rfl (ai rfl (ai rfl (fun _ _=>rfl))))) (trivial) ?_
     refine cK (agM) ((aF (cO c k),mE (aF (bO c k)))) (by exact (ai (ai rfl (ai rfl (ai rfl (fun _ _=>rfl)))) (ai rfl (ai rfl (ai rfl (fun _ _=>rfl)))))) (trivial) ?_
     have e:p9 c k=uF (aF (cO c k)) (mE (aF (bO c k))):=if_pos ⟨g1,g2⟩
     refine ai (mxL (n:=(eY c k).length+1) (by omega) (by decide)) (ai (lt1 rfl) ?_)
     refine nX (k) (ai (ai (fun _=>rfl) (aH (by omega))) rfl) (ai (ai (ai (ai nof rfl) rfl) (ai (ai rfl (ai rfl (ai rfl (fun _ _=>rfl)))) (ai (ai rfl (ai rfl (ai ?_ ?_))) (ai (ai (ai nof rfl) rfl) (ai (ai nof rfl) rfl))))) trivial) trivial
     ·rw[bW,aao];rfl
     ·rw[bW]
      exact bS rfl (fun _ _=>.of rfl) (.of (by unfold mF;rw[e];rfl))
    ·have e:p9 c k=aF (cO c k):=if_neg (fun h=>g2 h.2)
     refine ai (mxL (n:=(eY c k).length+1) (by omega) (by decide)) (ai (lt1 rfl) ?_)
     refine nX (k) (ai (ai (fun _=>rfl) (aH (by omega))) rfl) (ai (ai (ai (ai nof rfl) rfl) (ai (ai rfl (ai rfl (ai rfl (fun _ _=>rfl)))) (ai (ai rfl (ai rfl (ai ?_ ?_))) (ai (ai (ai nof rfl) rfl) (ai (ai nof rfl) rfl))))) trivial) trivial
     ·rw[bW,aao];rfl
     ·rw[bW]
      exact bS rfl (fun _ _=>.of rfl) (.of (by unfold mF;rw[e];rfl))
   ·have e:p9 c k=aF (cO c k):=if_neg (fun h=>g1 h.1)
    refine ai (mxL (n:=(eY c k).length+1) (by omega) (by decide)) (ai (lt1 rfl) ?_)
    refine nX (k) (ai (ai (fun _=>rfl) (aH (by omega))) rfl) (ai (ai (ai (ai nof rfl) rfl) (ai (ai rfl (ai rfl (ai rfl (fun _ _=>rfl)))) (ai (ai rfl (ai rfl (ai ?_ ?_))) (ai (ai (ai nof rfl) rfl) (ai (ai nof rfl) rfl))))) trivial) trivial
    ·rw[bW,aao];rfl
    ·rw[bW]
     exact bS rfl (fun _ _=>.of rfl) (.of (by unfold mF;rw[e];rfl))
  have e0:dn c 0=eY c k:=by rw[show k=c.sts.length by omega];rfl
  clear hl g
  refine fR (c.sts.length) (fun k=>[(6,.s (iA k))]) (fun k=>[⟨3,32,ctU c (dn c k) (.s iT) (.s iT)⟩]) (fun k=>True) ?_ ?_ ?_ ?_
  ·exact (ai (ai (fun _=>rfl) (iE (by omega))) rfl)
  ·refine (ai (ai (ai (ai nof rfl) rfl) (ai (ai rfl (ai rfl (ai rfl (fun _ _=>rfl)))) (ai (ai rfl (ai rfl (ai ?_ ?_))) (ai (ai (ai nof rfl) rfl) (ai (ai nof rfl) rfl))))) trivial)
   ·rw[e0]
   ·rw[e0];exact fun _ _=>.of rfl
  ·trivial
  intro (k:Nat) ⟨hk,_⟩
  have hl:=qP c k
  have htk:=lD c k
  refine bL (k<c.sts.length) (fun g=>?_) fun g=>?_
  ·refine iX (k) (c.sts.length) ?_
   refine ah (p:=0<(c.sts.getD k st0).wt) (aB Iff.rfl) (fun g1=>?_) (fun g1=>?_)
   ·have e1:dn c (k+1)=dn c k++[acH c k]:=by rw[dn,if_pos g1]
    refine dR (.seq [0,1,2,4,5,8,9,10,11,12,13,3,6,7,14,15,16,17,18]) ?_
    refine iX (k) (c.sts.length) ?_
    refine cK (nH) (([116],k)) (by exact (ai rfl rfl)) (⟨by show 1≤1000;omega,by show k<1000;omega⟩) ?_
    refine cK (oW) ((c,k)) (by exact (ai (ai rfl (ai (ai rfl (fun _ _=>rfl)) (ai (ai rfl (fun _ _=>rfl)) (ai rfl (fun _ _=>rfl))))) rfl)) (⟨hs,by show k≤1000000;omega⟩) ?_
    refine cK (pX) (mg c k) (by exact rfl) (trivial) ?_
    refine ai (mxL (n:=(dn c k).length+1) (by omega) (by decide)) (ai (lt1 rfl) ?_)
    refine nX (k) (ai (ai (fun _=>rfl) (aH (by omega))) rfl) (ai (ai (ai (ai nof rfl) rfl) (ai (ai rfl (ai rfl (ai rfl (fun _ _=>rfl)))) (ai (ai rfl (ai rfl (ai ?_ ?_))) (ai (ai (ai nof rfl) rfl) (ai (ai nof rfl) rfl))))) trivial) trivial
    ·rw[e1,aao];rfl
    ·rw[e1]
     exact bS rfl (fun _ _=>.of rfl) (ac1 (m:=mg c k))
   ·have e1:dn c (k+1)=dn c k:=by rw[dn,if_neg g1]
    refine nX (k) (ai (ai (fun _=>rfl) (aH (by omega))) rfl) (ai (ai (ai (ai nof rfl) rfl) (ai (ai rfl (ai rfl (ai rfl (fun _ _=>rfl)))) (ai (ai rfl (ai rfl (ai ?_ ?_))) (ai (ai (ai nof rfl) rfl) (ai (ai nof rfl) rfl))))) trivial) trivial
    all_goals rw[e1]
    exact fun _ _=>.of rfl
  have e0:fP c 0=dn c k:=by rw[show k=c.sts.length by omega];exact ape _
  clear hl g htk
  refine fR (c.trs.length) (fun k=>[(7,.s (iA k))]) (fun k=>[⟨3,32,ctU c (fP c k) (.s iT) (.s iT)⟩]) (fun k=>True) ?_ ?_ ?_ ?_
  ·exact (ai (ai (fun _=>rfl) (iE (by omega))) rfl)
  ·refine (ai (ai (ai (ai nof rfl) rfl) (ai (ai rfl (ai rfl (ai rfl (fun _ _=>rfl)))) (ai (ai rfl (ai rfl (ai ?_ ?_))) (ai (ai (ai nof rfl) rfl) (ai (ai nof rfl) rfl))))) trivial)
   ·rw[e0]
   ·rw[e0];exact fun _ _=>.of rfl
  ·trivial
  intro (k:Nat) ⟨hk,_⟩
  have hl:=jC c k
  refine bL (k<c.trs.length) (fun g=>?_) fun g=>?_
  ·refine dR (.seq [0,1,2,4,5,3,6,7,8,9,10,11]) ?_
   refine cK (nH) (([122],k)) (by exact (ai rfl rfl)) (⟨by show 1≤1000;omega,by show k<1000;omega⟩) ?_
   refine cK (aaC) ((c,k)) (by exact (ai (ai rfl (ai (ai rfl (fun _ _=>rfl)) (ai (ai rfl (fun _ _=>rfl)) (ai rfl (fun _ _=>rfl))))) rfl)) (⟨hc,g⟩) ?_
   refine ai (mxL (n:=(fP c k).length+1) (by omega) (by decide)) (ai (lt1 rfl) ?_)
   refine nX (k) (ai (ai (fun _=>rfl) (aH (by omega))) rfl) (ai (ai (ai (ai nof rfl) rfl) (ai (ai rfl (ai rfl (ai rfl (fun _ _=>rfl)))) (ai (ai rfl (ai rfl (ai ?_ ?_))) (ai (ai (ai nof rfl) rfl) (ai (ai nof rfl) rfl))))) trivial) trivial
   ·rw[lQ,aao];rfl
   ·rw[lQ]
    exact bS rfl (fun _ _=>.of rfl) (adP (x:=mI c k))
  have e0:aX c 0=fP c k:=by rw[show k=c.trs.length by omega];rfl
  clear hl g
  have hG:=jC c c.trs.length
  refine fR (c.act.toNat) (fun a=>[(8,.s (iA a))]) (fun a=>[⟨3,32,ctU c (aX c a) (isU (eP c a)) (isU (jR c a))⟩]) (fun a=>True) ?_ ?_ ?_ ?_
  ·exact (ai (ai (fun _=>rfl) (iE (by omega))) rfl)
  ·refine (ai (ai (ai (ai nof rfl) rfl) (ai (ai rfl (ai rfl (ai rfl (fun _ _=>rfl)))) (ai (ai rfl (ai rfl (ai ?_ ?_))) (ai rfl rfl)))) trivial)
   ·rw[e0]
   ·rw[e0];exact fun _ _=>.of rfl
  ·trivial
  intro (a:Nat) ⟨hk,_⟩
  have hP:=jB c a
  have hpl:=kX c a
  have hml:=oF c a
  refine bL (a<c.act.toNat) (fun g=>?_) fun g=>?_
  ·have hb:aS c=2*c.act+c.ins.length:=rfl
   have hw2:IntKind.i64.wrap (2*c.act)=2*c.act:=dD (by omega) (by omega)
   have hpn:oV c a=aS c+((fP c c.trs.length).length:Int)+2*(a:Int):=rfl
   have hww:∀n:Nat,n≤1000→IntKind.i64.wrap (IntKind.i64.wrap (IntKind.i64.wrap (2*c.act)+(c.ins.length:Int))+(n:Int))=aS c+(n:Int):=fun n hn=>by
    rw[hw2,dD (n:=2*c.act+(c.ins.length:Int)) (by omega) (by omega),dD (by omega) (by omega),hb]
   have hpe:2*c.act+(c.ins.length:Int)+((aX c a).length:Int)=oV c a:=by omega
   have hpm:2*c.act+(c.ins.length:Int)+(((aX c a).length+1:Nat):Int)=oV c a+1:=by omega
   have hw1:IntKind.i64.wrap ((a:Int)+1)=((a+1:Nat):Int):=aH (by omega)
   have hx:(strOf six).extract ((a:Nat):Int).toNat (IntKind.i64.wrap ((a:Int)+1)).toNat=strOf [UInt8.ofNat (97+a)]:=by
    rw[hw1,ad9,ad9,tY,aaV (by omega)]
   refine dR (.seq [0,1,2,3,4,5,6,7]) ?_
   refine cK (vE) (agA c a (aX c a).length (sD (aX c a)) (eP c a)) (by exact (ai (iE rfl) (ai (ai rfl (fun _ _=>rfl)) (ai (ai rfl (fun _ _=>rfl)) (ai (ai rfl (fun _ _=>rfl)) (ai rfl (fun _ _=>rfl))))))) (⟨⟨by show 0≤c.act;omega,by show c.act≤1000;omega⟩,by show c.ins.length≤1000000;omega,by show (aX c a).length≤1000000;omega⟩) ?_
   refine ai (mxL (n:=(eP c a).length+1) (by omega) (by decide)) (ai (fJ 1 rfl) ?_)
   refine dR (.seq [0,1,2,3,4,5,6,7,8,9,10,11,12,13,14,15,16]) ?_
   refine ai (ai (aaT _) (ai (by rw[hw1];show (a:Int)≤_;omega) (by rw[hw1];show ((a+1:Nat):Int)≤6;omega))) ?_
   refine ai (by show ((((strOf six).extract ((a:Nat):Int).toNat (IntKind.i64.wrap ((a:Int)+1)).toNat).size+1:Nat):Int)≤9223372036854775807;rw[hx];show ((2:Nat):Int)≤9223372036854775807;decide) ?_
   refine cK (qY) ((c,((a:Int),true))) (by exact (ai (ai rfl (ai (ai rfl (fun _ _=>rfl)) (ai (ai rfl (fun _ _=>rfl)) (ai rfl (fun _ _=>rfl))))) (ai rfl rfl))) (hap _) ?_
   refine cK (lg) (dO c ((a:Int),true) c.sts.length) (by exact (ai rfl (fun _ _=>rfl))) ((by have:=hal ((a:Int),true);show (dO c ((a:Int),true) c.sts.length).length≤1000000;omega)) ?_
   refine ai (mxL (n:=(aX c a).length+1) (by omega) (by decide)) (ai (lt1 rfl) ?_)
   refine dR (.seq [0,1,2,3,4,5,6,7]) ?_
   refine ei _ (ai (vE) (ei (agA c a ((aX c a).length+1) (bI (aX c a).length (sD (aX c a)) (aU 10 (anr ((strOf six).extract ((a:Nat):Int).toNat (IntKind.i64.wrap ((a:Int)+1)).toNat++strOf [112]) (aF (dO c ((a:Int),true) c.sts.length))))) (eP c (a+1))) (ei [] (ai (ai rfl (ai rfl (ai rfl (ai rfl (ai (fun _=>Or.inl rfl) (ai (fun _=>ai rfl rfl) (Or.inl rfl))))))) (ai ?_ (ai (by exact trivial) (ai (⟨⟨by show 0≤c.act;omega,by show c.act≤1000;omega⟩,by show c.ins.length≤1000000;omega,by show (aX c a).length+1≤1000000;omega⟩) ?_)))))))
   ·refine (ai (iE (by simp only[zz,reduceCtorEq];rfl)) (ai (ai rfl (fun _ _=>rfl)) (ai (ai rfl (fun _ _=>rfl)) (ai (ai ?_ ?_) (ai rfl (fun _ _=>rfl))))))
    ·show (eP c a).length+1=(eP c (a+1)).length
     rw[hpl,kX]
    ·show ∀k,k<(eP c a).length+1→bI (eP c a).length (fun k=>[iP ((eP c a).getD k 0)]) (aU 1 [iP (2*c.act+(c.ins.length:Int)+((aX c a).length:Int))]) k=[iP ((eP c (a+1)).getD k 0)]
     rw[qI,hpe];exact dK _ _
   refine ai (mxL (n:=(jR c a).length+1) (by omega) (by decide)) (ai (fJ 1 rfl) ?_)
   refine dR (.seq [0,1,2,3,4,5,6,7,8,9,10,11,12,13,14,15,16]) ?_
   refine ai (ai (aaT _) (ai (by rw[hw1];show (a:Int)≤_;omega) (by rw[hw1];show ((a+1:Nat):Int)≤6;omega))) ?_
   refine ai (by show ((((strOf six).extract ((a:Nat):Int).toNat (IntKind.i64.wrap ((a:Int)+1)).toNat).size+1:Nat):Int)≤9223372036854775807;rw[hx];show ((2:Nat):Int)≤9223372036854775807;decide) ?_
   refine cK (qY) ((c,((a:Int),false))) (by exact (ai (ai rfl (ai (ai rfl (fun _ _=>rfl)) (ai (ai rfl (fun _ _=>rfl)) (ai rfl (fun _ _=>rfl))))) (ai rfl rfl))) (hap _) ?_
   refine cK (lg) (dO c ((a:Int),false) c.sts.length) (by exact (ai rfl (fun _ _=>rfl))) ((by have:=hal ((a:Int),false);show (dO c ((a:Int),false) c.sts.length).length≤1000000;omega)) ?_
   refine ai (mxL (n:=((aX c a).length+1)+1) (by omega) (by decide)) (ai (lt1 rfl) ?_)
   refine nX (a) (ai (ai (fun _=>rfl) (aH (by omega))) rfl) (ai (ai (ai (ai nof rfl) rfl) (ai (ai rfl (ai rfl (ai rfl (fun _ _=>rfl)))) (ai (ai rfl (ai rfl (ai ?_ ?_))) (ai (ai rfl (ai rfl (ai ?_ ?_))) (ai rfl (ai rfl (ai ?_ ?_))))))) trivial) trivial
   ·have:=jB c (a+1)
    show (aX c a).length+1+1=(aX c (a+1)).length
    omega
   ·rw[aX]
    refine bS (l:=aX c a++[oH c a true]) (x:=oH c a false) (by rw[aao];rfl) (fun q hq=>?_) ?_
    ·exact bS (l:=aX c a) (x:=oH c a true) rfl (fun _ _=>.of rfl) (sw (by show (strOf six).extract _ _++strOf [112]=_;rw[hx];rfl)) q (by rw[aao] at hq;exact hq)
    ·exact sw (by show (strOf six).extract _ _++strOf [109]=_;rw[hx];rfl)
   ·rw[hpl,kX]
   ·show ∀k,k<(eP c a).length+1→bI (eP c a).length (fun k=>[iP ((eP c a).getD k 0)]) (aU 1 [iP (2*c.act+(c.ins.length:Int)+((aX c a).length:Int))]) k=[iP ((eP c (a+1)).getD k 0)]
    rw[qI,hpe];exact dK _ _
   ·rw[hml,oF]
   ·show ∀k,k<(jR c a).length+1→bI (jR c a).length (fun k=>[iP ((jR c a).getD k 0)]) (aU 1 [iP (2*c.act+(c.ins.length:Int)+(((aX c a).length+1:Nat):Int))]) k=[iP ((jR c (a+1)).getD k 0)]
    rw[yZ,hpm];exact dK _ _
  ·refine ai (ai (fun h=>absurd (show false=true from h) (by decide)) ?_) trivial
   have ea:a=c.act.toNat:=by omega
   refine (ai (iE rfl) (ai (ai rfl (fun _ _=>rfl)) (ai (ai ?_ ?_) (ai (ai ?_ ?_) (ai ?_ ?_)))))
   all_goals rw[ea]
   all_goals (first | rfl | exact fun _ _=>rfl)
 ·refine ai (mxL (n:=0+c.ins.length) (by omega) (by decide)) (ai (fun _ _=>rfl) ?_)
  refine fR (c.sts.length) (fun k=>[(4,.s (iA k))]) (fun k=>[⟨2,32,ctU c (eY c k) (.s iT) (.s iT)⟩]) (fun k=>True) ?_ ?_ ?_ ?_
  ·exact (ai (ai (fun _=>rfl) (iE (by omega))) rfl)
  ·refine (ai (ai (ai (ai nof rfl) rfl) (ai (ai rfl (ai rfl (ai ?_ (fun _ _=>rfl)))) (ai rfl (ai (ai (ai (fun _=>rfl) rfl) rfl) (ai (ai (fun _=>rfl) rfl) rfl))))) trivial)
   exact ajN _
  ·trivial
  intro (k:Nat) ⟨hk,_⟩
  have hl:=vN c k
  refine bL (k<c.sts.length) (fun g=>?_) fun g=>?_
  ·refine cK (nH) (([120],k)) (by exact (ai rfl rfl)) (⟨by show 1≤1000;omega,by show k<1000;omega⟩) ?_
   refine dR (.seq [0,1,4,5,2,3,8,6,7,9,10,11]) ?_
   refine cK (kr) ((c,(k:Int),false)) (by exact (ai (ai rfl (ai (ai rfl (fun _ _=>rfl)) (ai (ai rfl (fun _ _=>rfl)) (ai rfl (fun _ _=>rfl))))) (ai rfl rfl))) (hgp _ _) ?_
   refine cK (lg) (bO c k) (by exact (ai rfl (fun _ _=>rfl))) ((by have:=hon k;show (bO c k).length≤1000000;omega)) ?_
   refine cK (kr) ((c,(k:Int),true)) (by exact (ai (ai rfl (ai (ai rfl (fun _ _=>rfl)) (ai (ai rfl (fun _ _=>rfl)) (ai rfl (fun _ _=>rfl))))) (ai rfl rfl))) (hgp _ _) ?_
   refine cK (lg) (cO c k) (by exact (ai rfl (fun _ _=>rfl))) ((by have:=hof k;show (cO c k).length≤1000000;omega)) ?_
   refine cK (kr) ((c,(k:Int),false)) (by exact (ai (ai rfl (ai (ai rfl (fun _ _=>rfl)) (ai (ai rfl (fun _ _=>rfl)) (ai rfl (fun _ _=>rfl))))) (ai rfl rfl))) (hgp _ _) ?_
   refine ah (p:=0<(bO c k).length) (by exact aB (show (0:Int)<(((bO c k).length:Nat):Int)↔_ by omega)) (fun g1=>?_) (fun g1=>?_)
   ·refine cK (kr) ((c,(k:Int),true)) (by exact (ai (ai rfl (ai (ai rfl (fun _ _=>rfl)) (ai (ai rfl (fun _ _=>rfl)) (ai rfl (fun _ _=>rfl))))) (ai rfl rfl))) (hgp _ _) ?_
    refine ah (p:=0<(cO c k).length) (by exact aB (show (0:Int)<(((cO c k).length:Nat):Int)↔_ by omega)) (fun g2=>?_) (fun g2=>?_)
    ·refine dR (.seq [0,1,2,3,4,5,6,7]) ?_
     refine cK (ahc) (aF (bO c k)) (by exact (ai rfl (ai rfl (ai rfl (fun _ _=>rfl))))) (trivial) ?_
     refine cK (agM) ((aF (cO c k),mE (aF (bO c k)))) (by exact (ai (ai rfl (ai rfl (ai rfl (fun _ _=>rfl)))) (ai rfl (ai rfl (ai rfl (fun _ _=>rfl)))))) (trivial) ?_
     have e:p9 c k=uF (aF (cO c k)) (mE (aF (bO c k))):=if_pos ⟨g1,g2⟩
     refine ai (mxL (n:=(eY c k).length+1) (by omega) (by decide)) (ai (lt1 rfl) ?_)
     refine nX (k) (ai (ai (fun _=>rfl) (aH (by omega))) rfl) (ai (ai (ai (ai nof rfl) rfl) (ai (ai rfl (ai rfl (ai rfl (fun _ _=>rfl)))) (ai (ai rfl (ai rfl (ai ?_ ?_))) (ai (ai (ai nof rfl) rfl) (ai (ai nof rfl) rfl))))) trivial) trivial
     ·rw[bW,aao];rfl
     ·rw[bW]
      exact bS rfl (fun _ _=>.of rfl) (.of (by unfold mF;rw[e];rfl))
    ·have e:p9 c k=aF (cO c k):=if_neg (fun h=>g2 h.2)
     refine ai (mxL (n:=(eY c k).length+1) (by omega) (by decide)) (ai (lt1 rfl) ?_)
     refine nX (k) (ai (ai (fun _=>rfl) (aH (by omega))) rfl) (ai (ai (ai (ai nof rfl) rfl) (ai (ai rfl (ai rfl (ai rfl (fun _ _=>rfl)))) (ai (ai rfl (ai rfl (ai ?_ ?_))) (ai (ai (ai nof rfl) rfl) (ai (ai nof rfl) rfl))))) trivial) trivial
     ·rw[bW,aao];rfl
     ·rw[bW]
      exact bS rfl (fun _ _=>.of rfl) (.of (by unfold mF;rw[e];rfl))
   ·have e:p9 c k=aF (cO c k):=if_neg (fun h=>g1 h.1)
    refine ai (mxL (n:=(eY c k).length+1) (by omega) (by decide)) (ai (lt1 rfl) ?_)
    refine nX (k) (ai (ai (fun _=>rfl) (aH (by omega))) rfl) (ai (ai (ai (ai nof rfl) rfl) (ai (ai rfl (ai rfl (ai rfl (fun _ _=>rfl)))) (ai (ai rfl (ai rfl (ai ?_ ?_))) (ai (ai (ai nof rfl) rfl) (ai (ai nof rfl) rfl))))) trivial) trivial
    ·rw[bW,aao];rfl
    ·rw[bW]
     exact bS rfl (fun _ _=>.of rfl) (.of (by unfold mF;rw[e];rfl))
  have e0:dn c 0=eY c k:=by rw[show k=c.sts.length by omega];rfl
  clear hl g
  refine fR (c.sts.length) (fun k=>[(6,.s (iA k))]) (fun k=>[⟨2,32,ctU c (dn c k) (.s iT) (.s iT)⟩]) (fun k=>True) ?_ ?_ ?_ ?_
  ·exact (ai (ai (fun _=>rfl) (iE (by omega))) rfl)
  ·refine (ai (ai (ai (ai nof rfl) rfl) (ai (ai rfl (ai rfl (ai rfl (fun _ _=>rfl)))) (ai (ai rfl (ai rfl (ai ?_ ?_))) (ai (ai (ai nof rfl) rfl) (ai (ai nof rfl) rfl))))) trivial)
   ·rw[e0]
   ·rw[e0];exact fun _ _=>.of rfl
  ·trivial
  intro (k:Nat) ⟨hk,_⟩
  have hl:=qP c k
  have htk:=lD c k
  refine bL (k<c.sts.length) (fun g=>?_) fun g=>?_
  ·refine iX (k) (c.sts.length) ?_
   refine ah (p:=0<(c.sts.getD k st0).wt) (aB Iff.rfl) (fun g1=>?_) (fun g1=>?_)
   ·have e1:dn c (k+1)=dn c k++[acH c k]:=by rw[dn,if_pos g1]
    refine dR (.seq [0,1,2,4,5,8,9,10,11,12,13,3,6,7,14,15,16,17,18]) ?_
    refine iX (k) (c.sts.length) ?_
    refine cK (nH) (([116],k)) (by exact (ai rfl rfl)) (⟨by show 1≤1000;omega,by show k<1000;omega⟩) ?_
    refine cK (oW) ((c,k)) (by exact (ai (ai rfl (ai (ai rfl (fun _ _=>rfl)) (ai (ai rfl (fun _ _=>rfl)) (ai rfl (fun _ _=>rfl))))) rfl)) (⟨hs,by show k≤1000000;omega⟩) ?_
    refine cK (pX) (mg c k) (by exact rfl) (trivial) ?_
    refine ai (mxL (n:=(dn c k).length+1) (by omega) (by decide)) (ai (lt1 rfl) ?_)
    refine nX (k) (ai (ai (fun _=>rfl) (aH (by omega))) rfl) (ai (ai (ai (ai nof rfl) rfl) (ai (ai rfl (ai rfl (ai rfl (fun _ _=>rfl)))) (ai (ai rfl (ai rfl (ai ?_ ?_))) (ai (ai (ai nof rfl) rfl) (ai (ai nof rfl) rfl))))) trivial) trivial
    ·rw[e1,aao];rfl
    ·rw[e1]
     exact bS rfl (fun _ _=>.of rfl) (ac1 (m:=mg c k))
   ·have e1:dn c (k+1)=dn c k:=by rw[dn,if_neg g1]
    refine nX (k) (ai (ai (fun _=>rfl) (aH (by omega))) rfl) (ai (ai (ai (ai nof rfl) rfl) (ai (ai rfl (ai rfl (ai rfl (fun _ _=>rfl)))) (ai (ai rfl (ai rfl (ai ?_ ?_))) (ai (ai (ai nof rfl) rfl) (ai (ai nof rfl) rfl))))) trivial) trivial
    all_goals rw[e1]
    exact fun _ _=>.of rfl
  have e0:fP c 0=dn c k:=by rw[show k=c.sts.length by omega];exact ape _
  clear hl g htk
  refine fR (c.trs.length) (fun k=>[(7,.s (iA k))]) (fun k=>[⟨2,32,ctU c (fP c k) (.s iT) (.s iT)⟩]) (fun k=>True) ?_ ?_ ?_ ?_
  ·exact (ai (ai (fun _=>rfl) (iE (by omega))) rfl)
  ·refine (ai (ai (ai (ai nof rfl) rfl) (ai (ai rfl (ai rfl (ai rfl (fun _ _=>rfl)))) (ai (ai rfl (ai rfl (ai ?_ ?_))) (ai (ai (ai nof rfl) rfl) (ai (ai nof rfl) rfl))))) trivial)
   ·rw[e0]
   ·rw[e0];exact fun _ _=>.of rfl
  ·trivial
  intro (k:Nat) ⟨hk,_⟩
  have hl:=jC c k
  refine bL (k<c.trs.length) (fun g=>?_) fun g=>?_
  ·refine dR (.seq [0,1,2,4,5,3,6,7,8,9,10,11]) ?_
   refine cK (nH) (([122],k)) (by exact (ai rfl rfl)) (⟨by show 1≤1000;omega,by show k<1000;omega⟩) ?_
   refine cK (aaC) ((c,k)) (by exact (ai (ai rfl (ai (ai rfl (fun _ _=>rfl)) (ai (ai rfl (fun _ _=>rfl)) (ai rfl (fun _ _=>rfl))))) rfl)) (⟨hc,g⟩) ?_
   refine ai (mxL (n:=(fP c k).length+1) (by omega) (by decide)) (ai (lt1 rfl) ?_)
   refine nX (k) (ai (ai (fun _=>rfl) (aH (by omega))) rfl) (ai (ai (ai (ai nof rfl) rfl) (ai (ai rfl (ai rfl (ai rfl (fun _ _=>rfl)))) (ai (ai rfl (ai rfl (ai ?_ ?_))) (ai (ai (ai nof rfl) rfl) (ai (ai nof rfl) rfl))))) trivial) trivial
   ·rw[lQ,aao];rfl
   ·rw[lQ]
    exact bS rfl (fun _ _=>.of rfl) (adP (x:=mI c k))
  have e0:aX c 0=fP c k:=by rw[show k=c.trs.length by omega];rfl
  clear hl g
  have hG:=jC c c.trs.length
  refine fR (c.act.toNat) (fun a=>[(8,.s (iA a))]) (fun a=>[⟨2,32,ctU c (aX c a) (isU (eP c a)) (isU (jR c a))⟩]) (fun a=>True) ?_ ?_ ?_ ?_
  ·exact (ai (ai (fun _=>rfl) (iE (by omega))) rfl)
  ·refine (ai (ai (ai (ai nof rfl) rfl) (ai (ai rfl (ai rfl (ai rfl (fun _ _=>rfl)))) (ai (ai rfl (ai rfl (ai ?_ ?_))) (ai rfl rfl)))) trivial)
   ·rw[e0]
   ·rw[e0];exact fun _ _=>.of rfl
  ·trivial
  intro (a:Nat) ⟨hk,_⟩
  have hP:=jB c a
  have hpl:=kX c a
  have hml:=oF c a
  refine bL (a<c.act.toNat) (fun g=>?_) fun g=>?_
  ·have hb:aS c=2*c.act+c.ins.length:=rfl
   have hw2:IntKind.i64.wrap (2*c.act)=2*c.act:=dD (by omega) (by omega)
   have hpn:oV c a=aS c+((fP c c.trs.length).length:Int)+2*(a:Int):=rfl
   have hww:∀n:Nat,n≤1000→IntKind.i64.wrap (IntKind.i64.wrap (IntKind.i64.wrap (2*c.act)+(c.ins.length:Int))+(n:Int))=aS c+(n:Int):=fun n hn=>by
    rw[hw2,dD (n:=2*c.act+(c.ins.length:Int)) (by omega) (by omega),dD (by omega) (by omega),hb]
   have hpe:2*c.act+(c.ins.length:Int)+((aX c a).length:Int)=oV c a:=by omega
   have hpm:2*c.act+(c.ins.length:Int)+(((aX c a).length+1:Nat):Int)=oV c a+1:=by omega
   have hw1:IntKind.i64.wrap ((a:Int)+1)=((a+1:Nat):Int):=aH (by omega)
   have hx:(strOf six).extract ((a:Nat):Int).toNat (IntKind.i64.wrap ((a:Int)+1)).toNat=strOf [UInt8.ofNat (97+a)]:=by
    rw[hw1,ad9,ad9,tY,aaV (by omega)]
   refine dR (.seq [0,1,2,3,4,5,6,7]) ?_
   refine cK (vE) (agA c a (aX c a).length (sD (aX c a)) (eP c a)) (by exact (ai (iE rfl) (ai (ai rfl (fun _ _=>rfl)) (ai (ai rfl (fun _ _=>rfl)) (ai (ai rfl (fun _ _=>rfl)) (ai rfl (fun _ _=>rfl))))))) (⟨⟨by show 0≤c.act;omega,by show c.act≤1000;omega⟩,by show c.ins.length≤1000000;omega,by show (aX c a).length≤1000000;omega⟩) ?_
   refine ai (mxL (n:=(eP c a).length+1) (by omega) (by decide)) (ai (fJ 1 rfl) ?_)
   refine dR (.seq [0,1,2,3,4,5,6,7,8,9,10,11,12,13,14,15,16]) ?_
   refine ai (ai (aaT _) (ai (by rw[hw1];show (a:Int)≤_;omega) (by rw[hw1];show ((a+1:Nat):Int)≤6;omega))) ?_
   refine ai (by show ((((strOf six).extract ((a:Nat):Int).toNat (IntKind.i64.wrap ((a:Int)+1)).toNat).size+1:Nat):Int)≤9223372036854775807;rw[hx];show ((2:Nat):Int)≤9223372036854775807;decide) ?_
   refine cK (qY) ((c,((a:Int),true))) (by exact (ai (ai rfl (ai (ai rfl (fun _ _=>rfl)) (ai (ai rfl (fun _ _=>rfl)) (ai rfl (fun _ _=>rfl))))) (ai rfl rfl))) (hap _) ?_
   refine cK (lg) (dO c ((a:Int),true) c.sts.length) (by exact (ai rfl (fun _ _=>rfl))) ((by have:=hal ((a:Int),true);show (dO c ((a:Int),true) c.sts.length).length≤1000000;omega)) ?_
   refine ai (mxL (n:=(aX c a).length+1) (by omega) (by decide)) (ai (lt1 rfl) ?_)
   refine dR (.seq [0,1,2,3,4,5,6,7]) ?_
   refine ei _ (ai (vE) (ei (agA c a ((aX c a).length+1) (bI (aX c a).length (sD (aX c a)) (aU 10 (anr ((strOf six).extract ((a:Nat):Int).toNat (IntKind.i64.wrap ((a:Int)+1)).toNat++strOf [112]) (aF (dO c ((a:Int),true) c.sts.length))))) (eP c (a+1))) (ei [] (ai (ai rfl (ai rfl (ai rfl (ai rfl (ai (fun _=>Or.inl rfl) (ai (fun _=>ai rfl rfl) (Or.inl rfl))))))) (ai ?_ (ai (by exact trivial) (ai (⟨⟨by show 0≤c.act;omega,by show c.act≤1000;omega⟩,by show c.ins.length≤1000000;omega,by show (aX c a).length+1≤1000000;omega⟩) ?_)))))))
   ·refine (ai (iE (by simp only[zz,reduceCtorEq];rfl)) (ai (ai rfl (fun _ _=>rfl)) (ai (ai rfl (fun _ _=>rfl)) (ai (ai ?_ ?_) (ai rfl (fun _ _=>rfl))))))
    ·show (eP c a).length+1=(eP c (a+1)).length
     rw[hpl,kX]
    ·show ∀k,k<(eP c a).length+1→bI (eP c a).length (fun k=>[iP ((eP c a).getD k 0)]) (aU 1 [iP (2*c.act+(c.ins.length:Int)+((aX c a).length:Int))]) k=[iP ((eP c (a+1)).getD k 0)]
     rw[qI,hpe];exact dK _ _
   refine ai (mxL (n:=(jR c a).length+1) (by omega) (by decide)) (ai (fJ 1 rfl) ?_)
   refine dR (.seq [0,1,2,3,4,5,6,7,8,9,10,11,12,13,14,15,16]) ?_
   refine ai (ai (aaT _) (ai (by rw[hw1];show (a:Int)≤_;omega) (by rw[hw1];show ((a+1:Nat):Int)≤6;omega))) ?_
   refine ai (by show ((((strOf six).extract ((a:Nat):Int).toNat (IntKind.i64.wrap ((a:Int)+1)).toNat).size+1:Nat):Int)≤9223372036854775807;rw[hx];show ((2:Nat):Int)≤9223372036854775807;decide) ?_
   refine cK (qY) ((c,((a:Int),false))) (by exact (ai (ai rfl (ai (ai rfl (fun _ _=>rfl)) (ai (ai rfl (fun _ _=>rfl)) (ai rfl (fun _ _=>rfl))))) (ai rfl rfl))) (hap _) ?_
   refine cK (lg) (dO c ((a:Int),false) c.sts.length) (by exact (ai rfl (fun _ _=>rfl))) ((by have:=hal ((a:Int),false);show (dO c ((a:Int),false) c.sts.length).length≤1000000;omega)) ?_
   refine ai (mxL (n:=((aX c a).length+1)+1) (by omega) (by decide)) (ai (lt1 rfl) ?_)
   refine nX (a) (ai (ai (fun _=>rfl) (aH (by omega))) rfl) (ai (ai (ai (ai nof rfl) rfl) (ai (ai rfl (ai rfl (ai rfl (fun _ _=>rfl)))) (ai (ai rfl (ai rfl (ai ?_ ?_))) (ai (ai rfl (ai rfl (ai ?_ ?_))) (ai rfl (ai rfl (ai ?_ ?_))))))) trivial) trivial
   ·have:=jB c (a+1)
    show (aX c a).length+1+1=(aX c (a+1)).length
    omega
   ·rw[aX]
    refine bS (l:=aX c a++[oH c a true]) (x:=oH c a false) (by rw[aao];rfl) (fun q hq=>?_) ?_
    ·exact bS (l:=aX c a) (x:=oH c a true) rfl (fun _ _=>.of rfl) (sw (by show (strOf six).extract _ _++strOf [112]=_;rw[hx];rfl)) q (by rw[aao] at hq;exact hq)
    ·exact sw (by show (strOf six).extract _ _++strOf [109]=_;rw[hx];rfl)
   ·rw[hpl,kX]
   ·show ∀k,k<(eP c a).length+1→bI (eP c a).length (fun k=>[iP ((eP c a).getD k 0)]) (aU 1 [iP (2*c.act+(c.ins.length:Int)+((aX c a).length:Int))]) k=[iP ((eP c (a+1)).getD k 0)]
    rw[qI,hpe];exact dK _ _
   ·rw[hml,oF]
   ·show ∀k,k<(jR c a).length+1→bI (jR c a).length (fun k=>[iP ((jR c a).getD k 0)]) (aU 1 [iP (2*c.act+(c.ins.length:Int)+(((aX c a).length+1:Nat):Int))]) k=[iP ((jR c (a+1)).getD k 0)]
    rw[yZ,hpm];exact dK _ _
  ·refine ai (ai (fun h=>absurd (show false=true from h) (by decide)) ?_) trivial
   have ea:a=c.act.toNat:=by omega
   refine (ai (iE rfl) (ai (ai rfl (fun _ _=>rfl)) (ai (ai ?_ ?_) (ai (ai ?_ ?_) (ai ?_ ?_)))))
   all_goals rw[ea]
   all_goals (first | rfl | exact fun _ _=>rfl)
def dL (c:aA) (k:Nat):List Int:=(List.range k).map (mg c)
def nW (c:aA) (k:Nat):List Int:=(List.range k).map (lJ c)
theorem tK (c:aA) (k:Nat):dL c (k+1)=dL c k++[mg c k]:=by unfold dL;rw[auQ,anN];rfl
theorem aap (c:aA) (k:Nat):nW c (k+1)=nW c k++[lJ c k]:=by unfold nW;rw[auQ,anN];rfl
theorem nN (c:aA) (k:Nat):(dL c k).length=k:=by unfold dL;rw[aeu,at6]
theorem sM (c:aA) (k:Nat):(nW c k).length=k:=by unfold nW;rw[aeu,at6]
theorem sS (c:aA) {n k:Nat} (h:k<n):(dL c n).getD k 0=mg c k:=by
 unfold dL;rw[aai,akE,axy h];rfl
theorem aeQ (c:aA) {n k:Nat} (h:k<n):(nW c n).getD k 0=lJ c k:=by
 unfold nW;rw[aai,akE,axy h];rfl
def axk (c:aA) (all mem tim pas:SV):List SV:=[iA (aS c),all,iA c.act,.p false (xg c.ins),.p false (aaK c.sts),.p false (ada c.trs),mem,tim,pas]
def aqW (c:aA) (all mem tim pas:SV):Ob:=.cells 106 (axk c all mem tim pas)
def aiX (c:aA):SV:=isA (dL c c.sts.length)
def ajl (c:aA):SV:=isA (cZ c c.sts.length)
def aki (c:aA):SV:=isA (nW c c.trs.length)
def anE (c:aA) (all:SV):Ob:=aqW c all (aiX c) (ajl c) (aki c)
theorem xX:av Tryz.prog 152 { A:=Int,args:=fun _=>[.own 0 0],objs:=fun n=>[.cells 3 [iA n]],pre:=fun n=>0≤n∧n≤1000000000,res:=fun n=>iP n,objs':=fun n=>[.cells 3 [iA (n+1)]],fresh:=true,ro:=0 }:=by
 refine vF Tryz.func152 ?_
 rintro (n:Int) hpre
 obtain ⟨h0,h1⟩:=hpre
 have h0:0≤n:=h0
 have h1:n≤1000000000:=h1
 have w1:IntKind.i64.wrap (n+1)=n+1:=dD (by omega) (by omega)
 refine ai (ai (fun _=>?_) ?_) ?_
 ·exact trivial
 ·skip
  show IntKind.i64.wrap (IntKind.i64.wrap (n+1)-1)=n
  rw[w1,dD (by omega) (by omega)];omega
 ·exact (ai rfl (ai nof (iE (by omega))))
def isW (l:List Int):LV:=.rw 3 1 l.length (fun k=>[iP (l.getD k 0)])
def isRow (l:List Int):Ob:=.row 3 1 l.length (fun k=>[iP (l.getD k 0)])
def aqB (c:aA) (mem tim pas:LV):List LV:=[.s (iA (aS c)),.s iT,.s (iA c.act),.s (.p false (xg c.ins)),.s (.p false (aaK c.sts)),.s (.p false (ada c.trs)),mem,tim,pas]
end Go.Sx.Pe
