/- ChartChecks, part 6 of its proof: declarations that the last part uses. -/
import Derived.Test.YteenedbiifampaaGreatDoorK5
set_option maxHeartbeats 1000000
set_option maxRecDepth 4000
set_option linter.unusedSimpArgs false
set_option linter.unusedVariables false
set_option linter.unusedSectionVars false
namespace Go.Sx.Pe
open Go Go.Proofs Go.Sx.Pn
theorem afy {c:bD}:∀{f:Nat} {l r:List Mk} {a:Nat},a≤l.length→l.length≤16384→oN c l→aaJ a l→qJ c f l a=some r→oN c r∧r.length≤16384∧aaJ 16384 r
 | 0,l,r,a,ha,hl,hg,hw,h=>by
  obtain rfl:=Option.some.inj h
  exact ⟨hg,hl,fun y hy=>by have:=hw y hy;omega⟩
 | f+1,l,r,a,ha,hl,hg,hw,h=>by
  unfold qJ at h
  split at h
  ·obtain rfl:=Option.some.inj h
   exact ⟨hg,hl,fun y hy=>by have:=hw y hy;omega⟩
  ·rename_i h1
   split at h
   ·cases h
   ·rename_i h2
    obtain ⟨t,ht⟩:=uL c l a c.trs.length
    exact afy (by rw[ht,aaH];omega) (by omega) (good_row hg (by omega) (aic _)) (ad9 (by omega) hw _) h
theorem agK {c:bD} (h:uT c=0):oN c (mI c)∧(mI c).length≤16384∧aaJ 16384 (mI c):=
 afy (ac7 _) (by show 1≤16384;decide) (afD c) (fun y hy=>by simp only[mk1,akz] at hy;subst hy;exact ac7 _) (agJ h).2
def pU (c:bD) (i:Nat) (m:List Bool):Bool:=allM m (yX c i).fr
theorem ap1 (c:bD) (m:List Bool) (i:Nat):(bI c m i).2=pU c i m:=by
 unfold bI
 split
 ·rename_i h;exact h.symm
 ·rename_i h;exact (ar2.2 h).symm
abbrev Bst := List Int × Bool
def xU (c:bD) (y:Mk) (k:Nat):Bool:=allM y.1 (yX c k).fr&&aac c y.1 k
def jT (c:bD) (y:Mk) (s:Bst) (k:Nat):Bst:=if xU c y k then (if !s.2||decide (cmpL (y.2++[(k:Int)]) s.1<0) then (y.2++[(k:Int)],true) else s) else s
def dP (c:bD) (y:Mk) (s:Bst):Nat→Bst
 | 0=>s
 | k+1=>jT c y (dP c y s k) k
def vJ (c:bD):List Mk→Bst→Bst
 | [],s=>s
 | y :: l,s=>if s.2&&decide (s.1.length<y.2.length+1) then s else vJ c l (dP c y s c.trs.length)
def rV (c:bD):Bst:=vJ c (mI c) ([],false)
def xH (c:bD):PV:=if uT c=0 then .tup [bP (!(rV c).2),mW (rV c).1,iP 0] else .tup [bP false,mW [],iP (uT c)]
theorem aaU (l:List Int) (k:Nat):∀j,j<0+l.length+1→dn (0+l.length) (dn 0 (bK 1 []) (fun j=>[iP (l.getD j 0)])) (bK 1 [iP (k:Int)]) j=[iP ((l++[(k:Int)]).getD j 0)]:=fun j hj=>
 ahQ (a:=l) (b:=[(k:Int)]) (aku _) (fun j hj=>aff (n:=l.length) j (by omega)) (fun j hj=>by
  have hj:j<1:=hj
  obtain rfl:j=0:=by omega
  rfl) j (by rw[aaH];show j<l.length+1;omega)
theorem aob:aL Tryz.prog 13 (jF (fun c:bD=>[kF c]) jP xH):=by
 refine jQ [63] ?_
 refine bg (Tb:=tab) mixed ay Tryz.func13 rfl rfl ?_
 rintro (c:bD) hpre
 refine ai (ai rfl (ai rfl rfl)) ?_
 have ho:jP c:=hpre
 refine ei _ (ai (abn) (ei (c) (ei [] (ai (a4 (ai (fun _=>Or.inl rfl) (ai nof (Or.inl rfl)))) (ai (by exact (ai rfl (ai (ai rfl (fun _ _=>rfl)) (ai (ai rfl (fun _ _=>rfl)) (ai rfl (fun _ _=>rfl)))))) (ai trivial (ai (ho) ?_)))))))
 refine bH (p:=uT c=0) (bU (by omega)) (fun h1=>?_) (fun h1=>?_)
 ·refine ai (ai (fun h=>absurd (show false=true from h) (by decide)) ?_) trivial
  show au _ (xH c)
  rw[xH,if_neg h1]
  exact (ai rfl (ai rfl rfl))
 have hA:xH c=.tup [bP (!(rV c).2),mW (rV c).1,iP 0]:=by unfold xH;rw[if_pos h1]
 obtain ⟨hc,hx⟩:=agJ h1
 obtain ⟨hg,hl,hw⟩:=agK h1
 have h32:=(jN hc).2.2.2.1
 have hS:rV c=vJ c (mI c) ([],false):=rfl
 generalize mI c=L at *
 refine ei (bG.inv { X:=Nat×Bst,up:=fun x=>[(27,.s (iA x.1)),(8,isR x.2.1),(9,.s (.p false (bP x.2.2)))],uo:=fun _=>[],inv:=fun x=>x.1≤L.length∧rV c=vJ c (L.drop x.1) x.2,meas:=fun x=>L.length-x.1,x0:=(0,([],false)) }) ?_
 refine ai (ai (ai (by exact (a4 (ai rfl rfl))) (ai ?_ ?_)) ?_) (ai ?_ ?_)
 ·exact (ai (ai (ai (fun _=>rfl) (iE (by simp only[zz,reduceCtorEq];rfl))) rfl) (ai rfl (ai (ai (fun _=>rfl) rfl) rfl)))
 ·exact trivial
 ·rfl
 ·exact ⟨ac7 _,hS⟩
 rintro ⟨a,s⟩ ⟨hal,hs⟩
 have hal:a≤L.length:=hal
 have hs:rV c=vJ c (L.drop a) s:=hs
 refine ah (p:=a<L.length) (ak (by omega)) (fun h2=>?_) (fun h2=>?_)
 ·refine ai (ai (abr _) (iN (n:=L.length) (by omega))) (ai rfl ?_)
  refine ei (gT (L.getD a aA).1) (ai (af8 _) ?_)
  have hy:=abv (bY aA h2)
  have hd:L.drop a=L.getD a aA :: L.drop (a+1):=by
   rw[apx h2,abo,abm h2];rfl
  have hga:=hg _ hy
  have hwa:=hw _ hy
  rw[hd] at hs
  refine aZ (b:=s.2) rfl (fun h3=>?_) (fun h3=>?_)
  ·refine ai (ai (abr _) (iN (n:=L.length) (by omega))) (ai rfl ?_)
   refine ah (p:=s.1.length<(L.getD a aA).2.length+1) (by exact ak (show (s.1.length:Int)<IntKind.i64.wrap (((L.getD a aA).2.length:Int)+1)↔_ by rw[show IntKind.i64.wrap (((L.getD a aA).2.length:Int)+1)=((L.getD a aA).2.length:Int)+1 from aM (by omega)];omega)) (fun h4=>?_) (fun h4=>?_)
   ·have e:rV c=s:=by rw[hs,vJ,if_pos (by rw[h3,decide_eq_true h4];rfl)]
    refine ai (ai (fun h=>absurd (show false=true from h) (by decide)) ?_) trivial
    show au _ (xH c)
    rw[hA,e]
    exact (ai rfl (ai (ai rfl (fun _ _=>rfl)) rfl))
   ·have hs2:rV c=vJ c (L.drop (a+1)) (dP c (L.getD a aA) s c.trs.length):=by rw[hs,vJ,if_neg (by rw[decide_eq_false h4];simp)]
    refine ei (bG.inv { X:=Nat,up:=fun k=>[(47,.s (iA k)),(8,isR (dP c (L.getD a aA) s k).1),(9,.s (.p false (bP (dP c (L.getD a aA) s k).2)))],uo:=fun k=>[],inv:=fun k=>k≤c.trs.length∧(True),meas:=fun k=>c.trs.length-k,x0:=0 }) ?_
    refine ai (ai (ai (by exact (a4 (ai rfl rfl))) (ai ?_ ?_)) rfl) (ai (ai (ac7 _) ?_) ?_)
    ·exact (ai (ai (ai (fun _=>rfl) (iE (by simp only[zz,reduceCtorEq];rfl))) rfl) (ai (ai rfl (ai rfl (ai rfl (fun _ _=>rfl)))) (ai (ai nof rfl) rfl)))
    ·exact trivial
    ·trivial
    intro (k:Nat) ⟨hk,_⟩
    have hst:dP c (L.getD a aA) s (k+1)=jT c (L.getD a aA) (dP c (L.getD a aA) s k) k:=rfl
    refine ah (p:=k<c.trs.length) (ak (by omega)) (fun h5=>?_) (fun h5=>?_)
    ·refine ei _ (ai ((kM aaM (c,(L.getD a aA).1,k) ⟨hc,ho,hga.1,h5⟩ (r:=.tup [vI (bI c (L.getD a aA).1 k).1,bP (pU c k (L.getD a aA).1)]) (by show aap c (L.getD a aA).1 k=_;unfold aap;rw[ap1]))) (ei (()) (ei [] (ai (a4 (ai (fun _=>Or.inl rfl) (ai nof (Or.inl rfl)))) (ai (by exact (ai (ai rfl (ai (ai rfl (fun _ _=>rfl)) (ai (ai rfl (fun _ _=>rfl)) (ai rfl (fun _ _=>rfl))))) (ai (ai rfl (fun _ _=>rfl)) rfl))) (ai trivial (ai (trivial) ?_)))))))
     refine aZ (b:=!pU c k (L.getD a aA).1) rfl (fun h6=>?_) (fun h6=>?_)
     ·have h6:allM (L.getD a aA).1 (yX c k).fr=false:=by simpa [pU] using h6
      have e:dP c (L.getD a aA) s (k+1)=dP c (L.getD a aA) s k:=by rw[hst];unfold jT;rw[if_neg (by unfold xU;rw[h6];simp)]
      refine ei (k+1) (ai (ai rfl rfl) (ai (ai (ai rfl (ai (ai rfl rfl) (ai (ai rfl rfl) (ai (ai (ai (ai (fun _=>rfl) (aM (by omega))) rfl) (ai (ai rfl (ai rfl (ai ?_ ?_))) (ai (ai nof ?_) rfl))) trivial)))) rfl) (ai (ai (iL (by omega)) trivial) (iM (by omega)))))
      all_goals rw[e]
      ·exact fun _ _=>rfl
      ·exact rfl
     have h6:allM (L.getD a aA).1 (yX c k).fr=true:=by simpa [pU] using h6
     refine ei _ (ai (aem) (ei ((c,(L.getD a aA).1,k)) (ei [] (ai (a4 (ai (fun _=>Or.inl rfl) (ai nof (Or.inl rfl)))) (ai (by exact (ai (ai rfl (ai (ai rfl (fun _ _=>rfl)) (ai (ai rfl (fun _ _=>rfl)) (ai rfl (fun _ _=>rfl))))) (ai (ai rfl (fun _ _=>rfl)) rfl))) (ai trivial (ai (⟨hc,ho,h5⟩) ?_)))))))
     refine aZ (b:=!aac c (L.getD a aA).1 k) rfl (fun h7=>?_) (fun h7=>?_)
     ·have h7:aac c (L.getD a aA).1 k=false:=by simpa using h7
      have e:dP c (L.getD a aA) s (k+1)=dP c (L.getD a aA) s k:=by rw[hst];unfold jT;rw[if_neg (by unfold xU;rw[h7];simp)]
      refine ei (k+1) (ai (ai rfl rfl) (ai (ai (ai rfl (ai (ai rfl rfl) (ai (ai rfl rfl) (ai (ai (ai (ai (fun _=>rfl) (aM (by omega))) rfl) (ai (ai rfl (ai rfl (ai ?_ ?_))) (ai (ai nof ?_) rfl))) trivial)))) rfl) (ai (ai (iL (by omega)) trivial) (iM (by omega)))))
      all_goals rw[e]
      ·exact fun _ _=>rfl
      ·exact rfl
     have h7:aac c (L.getD a aA).1 k=true:=by simpa using h7
     have hbad:xU c (L.getD a aA) k=true:=by unfold xU;rw[h6,h7];rfl
     refine ai (ai (abr _) (iN (n:=L.length) (by omega))) (ai rfl ?_)
     have hcl:((L.getD a aA).2++[(k:Int)]).length≤1000000:=by rw[aaH];show (L.getD a aA).2.length+1≤_;omega
     refine fO mixed ay Tryz.func63 rfl rfl ?_
     refine ai rfl ?_
     intro b hb
     refine bF (fun hb0=>?_) (fun hb0=>?_)
     ·have hb1:(L.getD a aA).2.length=0:=hb hb0
      have hb2:=aqm.1 hb1
      refine ai (ai (by decide) (by decide)) (ai (aN 1 rfl) ?_)
      refine aZ (b:=!(dP c (L.getD a aA) s k).2) rfl (fun h8=>?_) (fun h8=>?_)
      ·have e:dP c (L.getD a aA) s (k+1)=((L.getD a aA).2++[(k:Int)],true):=by rw[hst];unfold jT;rw[if_pos hbad,if_pos (by rw[h8];rfl)]
       refine ei (k+1) (ai (ai rfl rfl) (ai (ai (ai rfl (ai (ai rfl rfl) (ai (ai rfl rfl) (ai (ai (ai (ai (fun _=>rfl) (aM (by omega))) rfl) (ai (ai rfl (ai rfl (ai ?_ ?_))) (ai (ai (fun _=>rfl) ?_) rfl))) trivial)))) rfl) (ai (ai (iL (by omega)) trivial) (iM (by omega)))))
       all_goals rw[e]
       ·(rw[hb2];first | done | rfl)
       ·(rw[hb2];intro j hj;have hj:j<1:=hj;obtain rfl:j=0:=(by omega);rfl)
       ·exact rfl
      refine ei _ (ai (aa8) (ei (((L.getD a aA).2++[(k:Int)],(dP c (L.getD a aA) s k).1)) (ei [] (ai (ai rfl (ai rfl (ai rfl (ai rfl (ai (fun _=>Or.inl rfl) (ai (fun _=>ai rfl rfl) (Or.inl rfl))))))) (ai ?_ (ai (by exact trivial) (ai (hcl) ?_)))))))
      ·refine (ai (ai ?_ ?_) (ai rfl (fun _ _=>rfl)))
       ·(rw[hb2];first | done | rfl)
       ·(rw[hb2];intro j hj;have hj:j<1:=hj;obtain rfl:j=0:=(by omega);rfl)
      refine ah (p:=cmpL ((L.getD a aA).2++[(k:Int)]) (dP c (L.getD a aA) s k).1<0) (ak Iff.rfl) (fun h9=>?_) (fun h9=>?_)
      ·have e:dP c (L.getD a aA) s (k+1)=((L.getD a aA).2++[(k:Int)],true):=by rw[hst];unfold jT;rw[if_pos hbad,if_pos (by rw[decide_eq_true h9];simp)]
       refine ei (k+1) (ai (ai rfl rfl) (ai (ai (ai rfl (ai (ai rfl rfl) (ai (ai rfl rfl) (ai (ai (ai (ai (fun _=>rfl) (aM (by omega))) rfl) (ai (ai rfl (ai rfl (ai ?_ ?_))) (ai (ai (fun _=>rfl) ?_) rfl))) trivial)))) rfl) (ai (ai (iL (by omega)) trivial) (iM (by omega)))))
       all_goals rw[e]
       ·(rw[hb2];first | done | rfl)
       ·(rw[hb2];intro j hj;have hj:j<1:=hj;obtain rfl:j=0:=(by omega);rfl)
       ·exact rfl
      ·have e:dP c (L.getD a aA) s (k+1)=dP c (L.getD a aA) s k:=by rw[hst];unfold jT;rw[if_pos hbad,if_neg (by rw[h8,decide_eq_false h9];simp)]
       refine ei (k+1) (ai (ai rfl rfl) (ai (ai (ai rfl (ai (ai rfl rfl) (ai (ai rfl rfl) (ai (ai (ai (ai (fun _=>rfl) (aM (by omega))) rfl) (ai (ai rfl (ai rfl (ai ?_ ?_))) (ai (ai nof ?_) rfl))) trivial)))) rfl) (ai (ai (iL (by omega)) trivial) (iM (by omega)))))
       all_goals rw[e]
       ·exact fun _ _=>rfl
       ·exact rfl
     ·refine ai (mxL (n:=0+(L.getD a aA).2.length) (by omega) (by decide)) (ai (fun _ _=>rfl) ?_)
      refine ai (mxL (n:=0+(L.getD a aA).2.length+1) (by omega) (by decide)) (ai (aN 1 rfl) ?_)
      refine aZ (b:=!(dP c (L.getD a aA) s k).2) rfl (fun h8=>?_) (fun h8=>?_)
      ·have e:dP c (L.getD a aA) s (k+1)=((L.getD a aA).2++[(k:Int)],true):=by rw[hst];unfold jT;rw[if_pos hbad,if_pos (by rw[h8];rfl)]
       refine ei (k+1) (ai (ai rfl rfl) (ai (ai (ai rfl (ai (ai rfl rfl) (ai (ai rfl rfl) (ai (ai (ai (ai (fun _=>rfl) (aM (by omega))) rfl) (ai (ai rfl (ai rfl (ai ?_ ?_))) (ai (ai (fun _=>rfl) ?_) rfl))) trivial)))) rfl) (ai (ai (iL (by omega)) trivial) (iM (by omega)))))
       all_goals rw[e]
       ·(rw[aaH];exact congrArg (·+1) (aku _))
       ·exact aaU _ _
       ·exact rfl
      refine ei _ (ai (aa8) (ei (((L.getD a aA).2++[(k:Int)],(dP c (L.getD a aA) s k).1)) (ei [] (ai (ai rfl (ai rfl (ai rfl (ai rfl (ai (fun _=>Or.inl rfl) (ai (fun _=>ai rfl rfl) (Or.inl rfl))))))) (ai ?_ (ai (by exact trivial) (ai (hcl) ?_)))))))
      ·refine (ai (ai ?_ ?_) (ai rfl (fun _ _=>rfl)))
       ·(rw[aaH];exact congrArg (·+1) (aku _))
       ·exact aaU _ _
      refine ah (p:=cmpL ((L.getD a aA).2++[(k:Int)]) (dP c (L.getD a aA) s k).1<0) (ak Iff.rfl) (fun h9=>?_) (fun h9=>?_)
      ·have e:dP c (L.getD a aA) s (k+1)=((L.getD a aA).2++[(k:Int)],true):=by rw[hst];unfold jT;rw[if_pos hbad,if_pos (by rw[decide_eq_true h9];simp)]
       refine ei (k+1) (ai (ai rfl rfl) (ai (ai (ai rfl (ai (ai rfl rfl) (ai (ai rfl rfl) (ai (ai (ai (ai (fun _=>rfl) (aM (by omega))) rfl) (ai (ai rfl (ai rfl (ai ?_ ?_))) (ai (ai (fun _=>rfl) ?_) rfl))) trivial)))) rfl) (ai (ai (iL (by omega)) trivial) (iM (by omega)))))
       all_goals rw[e]
       ·(rw[aaH];exact congrArg (·+1) (aku _))
       ·exact aaU _ _
       ·exact rfl
      ·have e:dP c (L.getD a aA) s (k+1)=dP c (L.getD a aA) s k:=by rw[hst];unfold jT;rw[if_pos hbad,if_neg (by rw[h8,decide_eq_false h9];simp)]
       refine ei (k+1) (ai (ai rfl rfl) (ai (ai (ai rfl (ai (ai rfl rfl) (ai (ai rfl rfl) (ai (ai (ai (ai (fun _=>rfl) (aM (by omega))) rfl) (ai (ai rfl (ai rfl (ai ?_ ?_))) (ai (ai nof ?_) rfl))) trivial)))) rfl) (ai (ai (iL (by omega)) trivial) (iM (by omega)))))
       all_goals rw[e]
       ·exact fun _ _=>rfl
       ·exact rfl
    ·obtain rfl:k=c.trs.length:=by omega
     refine ei ((a+1,dP c (L.getD a aA) s c.trs.length)) (ai (ai rfl rfl) (ai (ai ?_ rfl) (ai ?_ ?_)))
     ·exact (ai rfl (ai (ai rfl rfl) (ai (ai rfl rfl) (ai (ai (ai (ai (fun _=>rfl) (aM (by omega))) rfl) (ai (ai rfl (ai rfl (ai rfl (fun _ _=>rfl)))) (ai (ai nof rfl) rfl))) trivial))))
     ·exact ⟨h2,hs2⟩
     ·show L.length-(a+1)<L.length-a;omega
  ·have hs2:rV c=vJ c (L.drop (a+1)) (dP c (L.getD a aA) s c.trs.length):=by rw[hs,vJ,if_neg (by rw[h3];simp)]
   refine ei (bG.inv { X:=Nat,up:=fun k=>[(47,.s (iA k)),(8,isR (dP c (L.getD a aA) s k).1),(9,.s (.p false (bP (dP c (L.getD a aA) s k).2)))],uo:=fun k=>[],inv:=fun k=>k≤c.trs.length∧(True),meas:=fun k=>c.trs.length-k,x0:=0 }) ?_
   refine ai (ai (ai (by exact (a4 (ai rfl rfl))) (ai ?_ ?_)) rfl) (ai (ai (ac7 _) ?_) ?_)
   ·exact (ai (ai (ai (fun _=>rfl) (iE (by simp only[zz,reduceCtorEq];rfl))) rfl) (ai (ai rfl (ai rfl (ai rfl (fun _ _=>rfl)))) (ai (ai nof rfl) rfl)))
   ·exact trivial
   ·trivial
   intro (k:Nat) ⟨hk,_⟩
   have hst:dP c (L.getD a aA) s (k+1)=jT c (L.getD a aA) (dP c (L.getD a aA) s k) k:=rfl
   refine ah (p:=k<c.trs.length) (ak (by omega)) (fun h5=>?_) (fun h5=>?_)
   ·refine ei _ (ai ((kM aaM (c,(L.getD a aA).1,k) ⟨hc,ho,hga.1,h5⟩ (r:=.tup [vI (bI c (L.getD a aA).1 k).1,bP (pU c k (L.getD a aA).1)]) (by show aap c (L.getD a aA).1 k=_;unfold aap;rw[ap1]))) (ei (()) (ei [] (ai (a4 (ai (fun _=>Or.inl rfl) (ai nof (Or.inl rfl)))) (ai (by exact (ai (ai rfl (ai (ai rfl (fun _ _=>rfl)) (ai (ai rfl (fun _ _=>rfl)) (ai rfl (fun _ _=>rfl))))) (ai (ai rfl (fun _ _=>rfl)) rfl))) (ai trivial (ai (trivial) ?_)))))))
    refine aZ (b:=!pU c k (L.getD a aA).1) rfl (fun h6=>?_) (fun h6=>?_)
    ·have h6:allM (L.getD a aA).1 (yX c k).fr=false:=by simpa [pU] using h6
     have e:dP c (L.getD a aA) s (k+1)=dP c (L.getD a aA) s k:=by rw[hst];unfold jT;rw[if_neg (by unfold xU;rw[h6];simp)]
     refine ei (k+1) (ai (ai rfl rfl) (ai (ai (ai rfl (ai (ai rfl rfl) (ai (ai rfl rfl) (ai (ai (ai (ai (fun _=>rfl) (aM (by omega))) rfl) (ai (ai rfl (ai rfl (ai ?_ ?_))) (ai (ai nof ?_) rfl))) trivial)))) rfl) (ai (ai (iL (by omega)) trivial) (iM (by omega)))))
     all_goals rw[e]
     ·exact fun _ _=>rfl
     ·exact rfl
    have h6:allM (L.getD a aA).1 (yX c k).fr=true:=by simpa [pU] using h6
    refine ei _ (ai (aem) (ei ((c,(L.getD a aA).1,k)) (ei [] (ai (a4 (ai (fun _=>Or.inl rfl) (ai nof (Or.inl rfl)))) (ai (by exact (ai (ai rfl (ai (ai rfl (fun _ _=>rfl)) (ai (ai rfl (fun _ _=>rfl)) (ai rfl (fun _ _=>rfl))))) (ai (ai rfl (fun _ _=>rfl)) rfl))) (ai trivial (ai (⟨hc,ho,h5⟩) ?_)))))))
    refine aZ (b:=!aac c (L.getD a aA).1 k) rfl (fun h7=>?_) (fun h7=>?_)
    ·have h7:aac c (L.getD a aA).1 k=false:=by simpa using h7
     have e:dP c (L.getD a aA) s (k+1)=dP c (L.getD a aA) s k:=by rw[hst];unfold jT;rw[if_neg (by unfold xU;rw[h7];simp)]
     refine ei (k+1) (ai (ai rfl rfl) (ai (ai (ai rfl (ai (ai rfl rfl) (ai (ai rfl rfl) (ai (ai (ai (ai (fun _=>rfl) (aM (by omega))) rfl) (ai (ai rfl (ai rfl (ai ?_ ?_))) (ai (ai nof ?_) rfl))) trivial)))) rfl) (ai (ai (iL (by omega)) trivial) (iM (by omega)))))
     all_goals rw[e]
     ·exact fun _ _=>rfl
     ·exact rfl
    have h7:aac c (L.getD a aA).1 k=true:=by simpa using h7
    have hbad:xU c (L.getD a aA) k=true:=by unfold xU;rw[h6,h7];rfl
    refine ai (ai (abr _) (iN (n:=L.length) (by omega))) (ai rfl ?_)
    have hcl:((L.getD a aA).2++[(k:Int)]).length≤1000000:=by rw[aaH];show (L.getD a aA).2.length+1≤_;omega
    refine fO mixed ay Tryz.func63 rfl rfl ?_
    refine ai rfl ?_
    intro b hb
    refine bF (fun hb0=>?_) (fun hb0=>?_)
    ·have hb1:(L.getD a aA).2.length=0:=hb hb0
     have hb2:=aqm.1 hb1
     refine ai (ai (by decide) (by decide)) (ai (aN 1 rfl) ?_)
     refine aZ (b:=!(dP c (L.getD a aA) s k).2) rfl (fun h8=>?_) (fun h8=>?_)
     ·have e:dP c (L.getD a aA) s (k+1)=((L.getD a aA).2++[(k:Int)],true):=by rw[hst];unfold jT;rw[if_pos hbad,if_pos (by rw[h8];rfl)]
      refine ei (k+1) (ai (ai rfl rfl) (ai (ai (ai rfl (ai (ai rfl rfl) (ai (ai rfl rfl) (ai (ai (ai (ai (fun _=>rfl) (aM (by omega))) rfl) (ai (ai rfl (ai rfl (ai ?_ ?_))) (ai (ai (fun _=>rfl) ?_) rfl))) trivial)))) rfl) (ai (ai (iL (by omega)) trivial) (iM (by omega)))))
      all_goals rw[e]
      ·(rw[hb2];first | done | rfl)
      ·(rw[hb2];intro j hj;have hj:j<1:=hj;obtain rfl:j=0:=(by omega);rfl)
      ·exact rfl
     refine ei _ (ai (aa8) (ei (((L.getD a aA).2++[(k:Int)],(dP c (L.getD a aA) s k).1)) (ei [] (ai (ai rfl (ai rfl (ai rfl (ai rfl (ai (fun _=>Or.inl rfl) (ai (fun _=>ai rfl rfl) (Or.inl rfl))))))) (ai ?_ (ai (by exact trivial) (ai (hcl) ?_)))))))
     ·refine (ai (ai ?_ ?_) (ai rfl (fun _ _=>rfl)))
      ·(rw[hb2];first | done | rfl)
      ·(rw[hb2];intro j hj;have hj:j<1:=hj;obtain rfl:j=0:=(by omega);rfl)
     refine ah (p:=cmpL ((L.getD a aA).2++[(k:Int)]) (dP c (L.getD a aA) s k).1<0) (ak Iff.rfl) (fun h9=>?_) (fun h9=>?_)
     ·have e:dP c (L.getD a aA) s (k+1)=((L.getD a aA).2++[(k:Int)],true):=by rw[hst];unfold jT;rw[if_pos hbad,if_pos (by rw[decide_eq_true h9];simp)]
      refine ei (k+1) (ai (ai rfl rfl) (ai (ai (ai rfl (ai (ai rfl rfl) (ai (ai rfl rfl) (ai (ai (ai (ai (fun _=>rfl) (aM (by omega))) rfl) (ai (ai rfl (ai rfl (ai ?_ ?_))) (ai (ai (fun _=>rfl) ?_) rfl))) trivial)))) rfl) (ai (ai (iL (by omega)) trivial) (iM (by omega)))))
      all_goals rw[e]
      ·(rw[hb2];first | done | rfl)
      ·(rw[hb2];intro j hj;have hj:j<1:=hj;obtain rfl:j=0:=(by omega);rfl)
      ·exact rfl
     ·have e:dP c (L.getD a aA) s (k+1)=dP c (L.getD a aA) s k:=by rw[hst];unfold jT;rw[if_pos hbad,if_neg (by rw[h8,decide_eq_false h9];simp)]
      refine ei (k+1) (ai (ai rfl rfl) (ai (ai (ai rfl (ai (ai rfl rfl) (ai (ai rfl rfl) (ai (ai (ai (ai (fun _=>rfl) (aM (by omega))) rfl) (ai (ai rfl (ai rfl (ai ?_ ?_))) (ai (ai nof ?_) rfl))) trivial)))) rfl) (ai (ai (iL (by omega)) trivial) (iM (by omega)))))
      all_goals rw[e]
      ·exact fun _ _=>rfl
      ·exact rfl
    ·refine ai (mxL (n:=0+(L.getD a aA).2.length) (by omega) (by decide)) (ai (fun _ _=>rfl) ?_)
     refine ai (mxL (n:=0+(L.getD a aA).2.length+1) (by omega) (by decide)) (ai (aN 1 rfl) ?_)
     refine aZ (b:=!(dP c (L.getD a aA) s k).2) rfl (fun h8=>?_) (fun h8=>?_)
     ·have e:dP c (L.getD a aA) s (k+1)=((L.getD a aA).2++[(k:Int)],true):=by rw[hst];unfold jT;rw[if_pos hbad,if_pos (by rw[h8];rfl)]
      refine ei (k+1) (ai (ai rfl rfl) (ai (ai (ai rfl (ai (ai rfl rfl) (ai (ai rfl rfl) (ai (ai (ai (ai (fun _=>rfl) (aM (by omega))) rfl) (ai (ai rfl (ai rfl (ai ?_ ?_))) (ai (ai (fun _=>rfl) ?_) rfl))) trivial)))) rfl) (ai (ai (iL (by omega)) trivial) (iM (by omega)))))
      all_goals rw[e]
      ·(rw[aaH];exact congrArg (·+1) (aku _))
      ·exact aaU _ _
      ·exact rfl
     refine ei _ (ai (aa8) (ei (((L.getD a aA).2++[(k:Int)],(dP c (L.getD a aA) s k).1)) (ei [] (ai (ai rfl (ai rfl (ai rfl (ai rfl (ai (fun _=>Or.inl rfl) (ai (fun _=>ai rfl rfl) (Or.inl rfl))))))) (ai ?_ (ai (by exact trivial) (ai (hcl) ?_)))))))
     ·refine (ai (ai ?_ ?_) (ai rfl (fun _ _=>rfl)))
      ·(rw[aaH];exact congrArg (·+1) (aku _))
      ·exact aaU _ _
     refine ah (p:=cmpL ((L.getD a aA).2++[(k:Int)]) (dP c (L.getD a aA) s k).1<0) (ak Iff.rfl) (fun h9=>?_) (fun h9=>?_)
     ·have e:dP c (L.getD a aA) s (k+1)=((L.getD a aA).2++[(k:Int)],true):=by rw[hst];unfold jT;rw[if_pos hbad,if_pos (by rw[decide_eq_true h9];simp)]
      refine ei (k+1) (ai (ai rfl rfl) (ai (ai (ai rfl (ai (ai rfl rfl) (ai (ai rfl rfl) (ai (ai (ai (ai (fun _=>rfl) (aM (by omega))) rfl) (ai (ai rfl (ai rfl (ai ?_ ?_))) (ai (ai (fun _=>rfl) ?_) rfl))) trivial)))) rfl) (ai (ai (iL (by omega)) trivial) (iM (by omega)))))
      all_goals rw[e]
      ·(rw[aaH];exact congrArg (·+1) (aku _))
      ·exact aaU _ _
      ·exact rfl
     ·have e:dP c (L.getD a aA) s (k+1)=dP c (L.getD a aA) s k:=by rw[hst];unfold jT;rw[if_pos hbad,if_neg (by rw[h8,decide_eq_false h9];simp)]
      refine ei (k+1) (ai (ai rfl rfl) (ai (ai (ai rfl (ai (ai rfl rfl) (ai (ai rfl rfl) (ai (ai (ai (ai (fun _=>rfl) (aM (by omega))) rfl) (ai (ai rfl (ai rfl (ai ?_ ?_))) (ai (ai nof ?_) rfl))) trivial)))) rfl) (ai (ai (iL (by omega)) trivial) (iM (by omega)))))
      all_goals rw[e]
      ·exact fun _ _=>rfl
      ·exact rfl
   ·obtain rfl:k=c.trs.length:=by omega
    refine ei ((a+1,dP c (L.getD a aA) s c.trs.length)) (ai (ai rfl rfl) (ai (ai ?_ rfl) (ai ?_ ?_)))
    ·exact (ai rfl (ai (ai rfl rfl) (ai (ai rfl rfl) (ai (ai (ai (ai (fun _=>rfl) (aM (by omega))) rfl) (ai (ai rfl (ai rfl (ai rfl (fun _ _=>rfl)))) (ai (ai nof rfl) rfl))) trivial))))
    ·exact ⟨h2,hs2⟩
    ·show L.length-(a+1)<L.length-a;omega
 ·have e:rV c=s:=by rw[hs,asr (by omega)];rfl
  refine ai (ai (fun h=>absurd (show false=true from h) (by decide)) ?_) trivial
  show au _ (xH c)
  rw[hA,e]
  exact (ai rfl (ai (ai rfl (fun _ _=>rfl)) rfl))
end Go.Sx.Pe
namespace Go.Proofs
open Go.Shelf
def Tryz.xS:Go.Shelf.Ren:=⟨fun | 6=>99 | 15=>153 | 14=>152 | 28=>192 | 29=>193 | 20=>184 | 21=>185 | 22=>186 | 23=>187 | 24=>188 | 25=>189 | 26=>190 | 27=>191 | 46=>210 | 47=>211 | 48=>212 | 49=>213 | 50=>214 | 57=>225 | n=>n,fun | 22=>62 | 24=>72 | 25=>169 | 3=>3 | 39=>214 | 0=>0 | 53=>250 | 55=>252 | 4=>4 | 46=>244 | 45=>243 | 50=>101 | 5=>5 | 9=>9 | 66=>265 | 70=>269 | 76=>282 | 77=>283 | n=>n,fun | n=>n⟩
theorem Tryz.aks : Go.Proofs.SlLaysF.n6 Tryz.prog Tryz.xS := {
  mixed := by kernel_rfl
  f6 := ⟨Tryz.f99.name, by decide, Tryz.func99.trans (congrArg some (by kernel_rfl))⟩
  f14 := ⟨Tryz.f152.name, by decide, Tryz.func152.trans (congrArg some (by kernel_rfl))⟩
  f15 := Tryz.func153.trans (congrArg some (by kernel_rfl))
  f20 := ⟨Tryz.f184.name, by decide, Tryz.func184.trans (congrArg some (by kernel_rfl))⟩
  f21 := ⟨Tryz.f185.name, by decide, Tryz.func185.trans (congrArg some (by kernel_rfl))⟩
  f22 := ⟨Tryz.f186.name, by decide, Tryz.func186.trans (congrArg some (by kernel_rfl))⟩
  f23 := ⟨Tryz.f187.name, by decide, Tryz.func187.trans (congrArg some (by kernel_rfl))⟩
  f24 := ⟨Tryz.f188.name, by decide, Tryz.func188.trans (congrArg some (by kernel_rfl))⟩
  f25 := ⟨Tryz.f189.name, by decide, Tryz.func189.trans (congrArg some (by kernel_rfl))⟩
  f26 := ⟨Tryz.f190.name, by decide, Tryz.func190.trans (congrArg some (by kernel_rfl))⟩
  f27 := ⟨Tryz.f191.name, by decide, Tryz.func191.trans (congrArg some (by kernel_rfl))⟩
  f28 := Tryz.func192.trans (congrArg some (by kernel_rfl))
  f29 := Tryz.func193.trans (congrArg some (by kernel_rfl))
  f46 := ⟨Tryz.f210.name, by decide, Tryz.func210.trans (congrArg some (by kernel_rfl))⟩
  f47 := Tryz.func211.trans (congrArg some (by kernel_rfl))
  f48 := Tryz.func212.trans (congrArg some (by kernel_rfl))
  f49 := ⟨Tryz.f213.name, by decide, Tryz.func213.trans (congrArg some (by kernel_rfl))⟩
  f50 := ⟨Tryz.f214.name, by decide, Tryz.func214.trans (congrArg some (by kernel_rfl))⟩
  f57 := ⟨Tryz.f225.name, by decide, Tryz.func225.trans (congrArg some (by kernel_rfl))⟩
  t0 := Tryz.underlying0
  a0 := Tryz.isAgg0
  z0 := Tryz.sizeOf0
  v0 := Tryz.zeroValue0
  t3 := Tryz.underlying3
  a3 := Tryz.isAgg3
  z3 := Tryz.sizeOf3
  v3 := Tryz.zeroValue3
  t4 := Tryz.underlying4
  a4 := Tryz.isAgg4
  z4 := Tryz.sizeOf4
  v4 := Tryz.zeroValue4
  t5 := Tryz.underlying5
  a5 := Tryz.isAgg5
  z5 := Tryz.sizeOf5
  v5 := Tryz.zeroValue5
  t9 := Tryz.underlying9
  a9 := Tryz.isAgg9
  z9 := Tryz.sizeOf9
  v9 := Tryz.zeroValue9
  t22 := Tryz.underlying62
  a22 := Tryz.isAgg62
  z22 := Tryz.sizeOf62
  v22 := Tryz.zeroValue62
  a24 := Tryz.isAgg72
  z24 := Tryz.sizeOf72
  t25 := Tryz.underlying169
  a25 := Tryz.isAgg169
  z25 := Tryz.sizeOf169
  v25 := Tryz.zeroValue169
  t39 := Tryz.underlying214
  a39 := Tryz.isAgg214
  z39 := Tryz.sizeOf214
  v39 := Tryz.zeroValue214
  t45 := Tryz.underlying243
  a45 := Tryz.isAgg243
  z45 := Tryz.sizeOf243
  v45 := Tryz.zeroValue243
  t46 := Tryz.underlying244
  a46 := Tryz.isAgg244
  z46 := Tryz.sizeOf244
  v46 := Tryz.zeroValue244
  t50 := Tryz.underlying101
  a50 := Tryz.isAgg101
  z50 := Tryz.sizeOf101
  v50 := Tryz.zeroValue101
  t53 := Tryz.underlying250
  a53 := Tryz.isAgg250
  z53 := Tryz.sizeOf250
  v53 := Tryz.zeroValue250
  t55 := Tryz.underlying252
  a55 := Tryz.isAgg252
  z55 := Tryz.sizeOf252
  v55 := Tryz.zeroValue252
  t66 := Tryz.underlying265
  a66 := Tryz.isAgg265
  z66 := Tryz.sizeOf265
  v66 := Tryz.zeroValue265
  t70 := Tryz.underlying269
  a70 := Tryz.isAgg269
  z70 := Tryz.sizeOf269
  v70 := Tryz.zeroValue269
  t76 := Tryz.underlying282
  a76 := Tryz.isAgg282
  z76 := Tryz.sizeOf282
  v76 := Tryz.zeroValue282
  t77 := Tryz.underlying283
  a77 := Tryz.isAgg283
  z77 := Tryz.sizeOf283
  v77 := Tryz.zeroValue283 }
end Go.Proofs
namespace Go.Sx.Pe
open Go Go.Proofs Go.Sx.Pn Go.RowKit Go.Shelf
def BS (w:World) (v:Value) (l:List Bool):Prop:=∃p c,v=.slice p l.length c∧∀k,k<l.length→∃bb o,p=some ⟨bb,o,none⟩∧w.cell? ⟨bb,o+k,none⟩=some (.bool (l.getD k false))
theorem ahl (a b:List Bool) (v1 v2:Value) (w:World) (hab:a.length=b.length) (hl:a.length≤1000000) (h1:BS w v1 a) (h2:BS w v2 b) :
  Calls Tryz.prog 100 #[v1,v2] w fun e w'=>e=.returned (.int .i64 (iK a b))∧w'=w:=by
 obtain ⟨p1,c1,rfl,g1⟩:=h1
 obtain ⟨p2,c2,rfl,g2⟩:=h2
 rw[←hab] at g2 ⊢
 have g1:=Lib.hid g1
 have g2:=Lib.hid g2
 go_enter Tryz.func100,Tryz.ntmps100
 go_wp2_with (fail)
 go_loop [9] (fun i=>∃k:Nat,k≤a.length∧i=.int .i64 k∧a.take k=b.take k) (fun i=>a.length-(Proofs.intOf i).toNat)
 case atStart=>exact ⟨0,ac7 _,rfl,rfl⟩
 case round=>
  obtain ⟨k,hk,rfl,hall⟩:=hrel
  have hall:=Lib.hid hall
  by_cases hlt:k<a.length
  ·obtain ⟨x1,o1,rfl,e1⟩:=g1.out k hlt
   obtain ⟨x2,o2,hp2,e2⟩:=g2.out k hlt
   have he:=Lib.hid (anQ hab hlt hall.out)
   have hs:=Lib.hid (aaS false hlt (by omega) hall.out)
   obtain ⟨ba,hba⟩:∃x,a.getD k false=x:=⟨_,rfl⟩
   obtain ⟨bb,hbb⟩:∃x,b.getD k false=x:=⟨_,rfl⟩
   rw[hba] at e1
   rw[hbb] at e2
   replace hba:=Lib.hid hba
   replace hbb:=Lib.hid hbb
   subst hp2
   cases ba<;>cases bb
   ·go_wp2_with (fail)
    go_round
    case rel=>exact ⟨k+1,by omega,by go_num,hs.out (hba.out.trans hbb.out.symm)⟩
    case measure=>simp[Proofs.intOf];omega
   ·have hr:iK a b=-1:=by rw[he.out (by rw[hba.out,hbb.out];decide),hbb.out];rfl
    have hr:=Lib.hid hr
    go_wp2_with (fail)
    go_ret
    exact ⟨by first | rfl | (rw[hr.out];rfl),rfl⟩
   ·have hr:iK a b=1:=by rw[he.out (by rw[hba.out,hbb.out];decide),hbb.out];rfl
    have hr:=Lib.hid hr
    go_wp2_with (fail)
    go_ret
    exact ⟨by first | rfl | (rw[hr.out];rfl),rfl⟩
   ·go_wp2_with (fail)
    go_round
    case rel=>exact ⟨k+1,by omega,by go_num,hs.out (hba.out.trans hbb.out.symm)⟩
    case measure=>simp[Proofs.intOf];omega
  ·obtain rfl:k=a.length:=by omega
   have hr:iK a b=0:=ain (by have:=hall.out;rw[aiy,hab,aiy] at this;exact this)
   have hr:=Lib.hid hr
   go_wp2_with (fail)
   go_ret
   exact ⟨by first | rfl | (rw[hr.out];rfl),rfl⟩
end Go.Sx.Pe
namespace Go.Sx.Pe
open Go Go.Proofs Go.Sx.Pn
theorem zm:∀a b:List Bool,iK b a=-iK a b
 | [],[]=>rfl
 | [],_ :: _=>rfl
 | _ :: _,[]=>rfl
 | x :: a,y :: b=>by
  have ih:=zm a b
  cases x<;>cases y<;>simp[iK,ih]
theorem aeg:∀{a b:List Bool},a.length=b.length→iK a b=0→a=b
 | [],[],_,_=>rfl
 | [],_ :: _,h,_=>by simp at h
 | _ :: _,[],h,_=>by simp at h
 | x :: a,y :: b,h,e=>by
  have ih:=aeg (a:=a) (b:=b) (by simpa using h)
  cases x<;>cases y<;>simp[iK] at e<;>rw[ih e]
theorem yO:∀{a b c:List Bool},a.length=b.length→b.length=c.length→iK a b<0→iK b c<0→iK a c<0
 | [],[],_,_,_,h,_=>by simp[iK] at h
 | [],_ :: _,_,h,_,_,_=>by simp at h
 | _ :: _,[],_,h,_,_,_=>by simp at h
 | _ :: _,_ :: _,[],_,h,_,_=>by simp at h
 | x :: a,y :: b,z :: c,h1,h2,h,k=>by
  have ih:=yO (a:=a) (b:=b) (c:=c) (by simpa using h1) (by simpa using h2)
  cases x<;>cases y<;>cases z<;>simp[iK] at h k ⊢<;>exact ih h k
def pE (a b:List Bool):Prop:=iK a b<0
theorem aiB {n:Nat} {a b:List Bool} (ha:a.length=n) (hb:b.length=n) (h:¬pE a b):pE b a∨a=b:=by
 unfold pE at *
 by_cases e:iK a b=0
 ·exact .inr (aeg (ha.trans hb.symm) e)
 ·left;rw[zm a b];omega
theorem ajC (a:List Bool):¬pE a a:=by unfold pE;rw[ain rfl];decide
theorem akp {a b:List Bool} (h:pE a b):¬pE b a:=by unfold pE at *;rw[zm a b];omega
theorem acz {n:Nat} {a b c:List Bool} (ha:a.length=n) (hb:b.length=n) (hc:c.length=n) (h:¬pE a b) (k:¬pE b c):¬pE a c:=by
 intro h3
 rcases aiB ha hb h with h | rfl
 ·exact k (yO (hb.trans ha.symm) (ha.trans hc.symm) h h3)
 ·exact k h3
theorem agb (a b:List Bool):am7 a b=true↔pE a b:=by
 unfold am7 pE
 rw[beq_iff_eq]
 have:iK a b=-1∨iK a b=0∨iK a b=1:=by
  induction a generalizing b with
  | nil=>exact .inr (.inl (by cases b<;>rfl))
  | cons x a ih=>
   cases b with
   | nil=>exact .inr (.inl rfl)
   | cons y b=>
    rw[iK]
    split
    ·exact ih b
    ·split
     ·exact .inl rfl
     ·exact .inr (.inr rfl)
 omega
def posR (A:List (List Bool)) (x:List Bool):Nat→Nat
 | 0=>0
 | k+1=>if am7 x (A.getD k []) then posR A x k else k+1
def rowAt (A:List (List Bool)) (x:List Bool) (k:Nat):List (List Bool):=A.take k++x :: A.drop k
def ai1 (A:List (List Bool)) (x:List Bool):List (List Bool):=rowAt A x (posR A x A.length)
def nX (l:List (List Bool)):List (List Bool):=l.foldl ai1 []
theorem aev (l:List (List Bool)) (x:List Bool):nX (l++[x])=ai1 (nX l) x:=by unfold nX;rw[asg];rfl
theorem aiW (A:List (List Bool)) (x:List Bool) (k:Nat):(rowAt A x k).Perm (x :: A):=by
 unfold rowAt
 refine List.perm_middle.trans ?_
 rw[ar8]
theorem afO {α:Type} {p:List α→Prop} (h0:p []) (hs:∀l x,p l→p (l++[x])) (l:List α):p l:=by
 rw[←List.reverse_reverse l]
 induction l.reverse with
 | nil=>exact h0
 | cons x l ih=>rw[List.reverse_cons];exact hs _ _ ih
theorem aer (l:List (List Bool)):(nX l).Perm l:=by
 refine afO (p:=fun l=>(nX l).Perm l) .nil (fun l x ih=>?_) l
 rw[aev]
 refine (aiW _ _ _).trans ?_
 refine (ih.cons x).trans ?_
 exact (List.perm_append_singleton x l).symm
def zq (l:List (List Bool)):Prop:=l.Pairwise fun a b=>¬pE b a
theorem ah8 (A:List (List Bool)) (x:List Bool):∀k,posR A x k≤k
 | 0=>aic _
 | k+1=>by
  rw[posR];split
  ·have:=ah8 A x k;omega
  ·exact aic _
theorem ahY (A:List (List Bool)) (x:List Bool):∀k j,posR A x k≤j→j<k→pE x (A.getD j [])
 | 0,j,_,h=>by omega
 | k+1,j,h1,h2=>by
  rw[posR] at h1
  split at h1
  ·rename_i h
   by_cases e:j=k
   ·subst e;exact (agb _ _).1 h
   ·exact ahY A x k j h1 (by omega)
  ·omega
theorem ais (A:List (List Bool)) (x:List Bool):∀k,0<posR A x k→¬pE x (A.getD (posR A x k-1) [])
 | 0,h=>by simp[posR] at h
 | k+1,h=>by
  rw[posR] at h ⊢
  split
  ·rename_i hb;rw[if_pos hb] at h;exact ais A x k h
  ·rename_i hb
   exact fun hl=>hb ((agb _ _).2 hl)
theorem alE {n:Nat} {A:List (List Bool)} {x:List Bool} (hx:x.length=n) (hA:∀y∈A,y.length=n) (h:zq A):zq (ai1 A x):=by
 have hp:=ah8 A x A.length
 have hlo:=ais A x A.length
 have hhi:=ahY A x A.length
 unfold ai1 rowAt
 generalize posR A x A.length=p at *
 have hs:zq (A.take p++A.drop p):=by rw[ar8];exact h
 obtain ⟨s1,s2,s3⟩:=List.pairwise_append.1 hs
 have hd:∀y∈A.drop p,pE x y:=fun y hy=>by
  obtain ⟨i,hi,rfl⟩:=aqc hy
  rw[arb] at hi
  have:=hhi (p+i) (by omega) (by omega)
  rw[List.getElem_drop]
  rwa [abo,abm (by omega)] at this
 have ht:∀y∈A.take p,¬pE x y:=fun y hy=>by
  obtain ⟨i,hi,rfl⟩:=aqc hy
  rw[ala] at hi
  rw[List.getElem_take]
  have h0:=hlo (by omega)
  rw[abo,abm (by omega)] at h0
  by_cases e:i=p-1
  ·subst e;exact h0
  ·have h1:=asN.1 h i (p-1) (by omega) (by omega) (by omega)
   exact acz hx (hA _ (aso _)) (hA _ (aso _)) h0 h1
 refine List.pairwise_append.2 ⟨s1,as8.2 ⟨fun y hy=>akp (hd y hy),s2⟩,fun a ha b hb=>?_⟩
 rcases akZ.1 hb with rfl | hb
 ·exact ht a ha
 ·exact s3 a ha b hb
theorem amQ {n:Nat} {l:List (List Bool)} (hl:∀y∈l,y.length=n):zq (nX l):=by
 refine afO (p:=fun l=>(∀y∈l,y.length=n)→zq (nX l)) (fun _=>List.Pairwise.nil) (fun l x ih hl=>?_) l hl
 rw[aev]
 refine alE (n:=n) (hl x (by simp)) (fun y hy=>hl y ?_) (ih fun y hy=>hl y (by simp[hy]))
 have:=(aer l).mem_iff.1 hy
 simp[this]
theorem ads {n:Nat}:∀{a b:List (List Bool)},a.Perm b→(∀y∈a,y.length=n)→zq a→zq b→a=b
 | [],b,h,_,_,_=>by rw[List.nil_perm.1 h]
 | x :: a,[],h,_,_,_=>by have:=h.length_eq;simp at this
 | x :: a,y :: b,h,hn,ha,hb=>by
  obtain ⟨a1,a2⟩:=as8.1 ha
  obtain ⟨b1,b2⟩:=as8.1 hb
  have e:x=y:=by
   rcases akZ.1 (h.mem_iff.1 (apl ..)) with e | hx
   ·exact e
   ·rcases akZ.1 (h.mem_iff.2 (apl ..)) with e | hy
    ·exact e.symm
    ·have h1:=b1 x hx
     have h2:=a1 y hy
     rcases aiB (n:=n) (hn x (apl ..)) (hn y (aps _ hy)) h1 with h3 | h3
     ·exact absurd h3 h2
     ·exact h3
  subst e
  rw[ads ((List.perm_cons x).1 h) (fun y hy=>hn y (aps _ hy)) a2 b2]
end Go.Sx.Pe
namespace Go.Sx.Pe
open Go Go.Proofs Go.Sx.Pn Go.RowKit Go.Sort
theorem am9 {E:Env} {W:World} (hm:acF E.mem W) {v:Value} {l:List Bool} (h:aT E.mem v (pI l)):BS W v l:=by
 unfold pI at h
 cases hl:l with
 | nil=>
  subst hl
  cases h with
  | nil=>exact ⟨none,0,rfl,fun k hk=>absurd hk (ani _)⟩
  | emp a cap=>exact ⟨_,_,rfl,fun k hk=>absurd hk (ani _)⟩
  | seq b o n cap sz f cs u hm' hcap hmax hl' hc he=>exact ⟨_,_,rfl,fun k hk=>absurd hk (ani _)⟩
 | cons x t=>
  rw[←hl]
  have hpos:0<l.length:=by rw[hl];simp
  generalize hn:l.length=n at h hpos
  cases h with
  | nil=>exact absurd hpos (Nat.lt_irrefl _)
  | emp a cap=>exact absurd hpos (Nat.lt_irrefl _)
  | seq b o _ cap sz f cs u hm' hcap hmax hl' hc he=>
   refine ⟨some ⟨b,o,none⟩,cap,by rw[hn],fun k hk=>⟨b,o,rfl,?_⟩⟩
   have hk:k<n:=by omega
   obtain ⟨T,fr,hw⟩:=hm _ _ hm'
   have hs:sz=1:=(hl' k hk).symm
   subst hs
   have h1:=hc k 0 _ hk rfl
   have h2:=he k 0 _ hk rfl
   rw[h2.aR,apT,arX] at h1
   simp only[World.cell?,hw]
   exact h1.1
def sw (l:List (List Bool)):Ob:=.row 72 1 l.length (fun k=>[pI (l.getD k [])])
def apu (n:Nat) (l:List (List Bool)):Prop:=l.length≤1000000000∧∀x∈l,x.length=n
def anJ (n:Nat):Spec:={ A:=List (List Bool),args:=fun _=>[.row 0,.fn 100 []],objs:=fun l=>[sw l],pre:=apu n,res:=fun _=>.tup [],objs':=fun l=>[sw (nX l)],fresh:=true,ro:=0 }
theorem ak4 (n : Nat) (hn : n ≤ 1000000) : aL Tryz.prog 99 (anJ n) := by
  refine ⟨⟨Tryz.f99, Tryz.func99, rfl, rfl⟩, fun (l : List (List Bool)) hpre E vs w _ hh hA => ?_⟩
  obtain ⟨hbig, hlen⟩ := hpre
  have hbig : l.length ≤ 1000000000 := hbig
  have hob : (iZ [sw l]).obj 0 = some (.row 72 1 l.length (fun k => [pI (l.getD k [])])) := rfl
  obtain ⟨hs1, hs2⟩ := hA
  obtain ⟨v, fv, rfl⟩ : ∃ v fv, vs = #[v, fv] := by
    have h1 : vs.size = 2 := hs1
    exact ⟨vs[0]'(by omega), vs[1]'(by omega), by
      apply Array.ext
      · simp [h1]
      · intro i hi hi2
        match i, hi2 with
        | 0, _ => rfl
        | 1, _ => rfl⟩
  have hv := hs2 0 v (.row 0) rfl rfl
  have hf := hs2 1 fv (.fn 100 []) rfl rfl
  obtain rfl : fv = .func (.func 100) #[] #[] := by
    cases hf with
    | fn _ us _ hl he => 
      have : us = #[] := Array.eq_empty_of_size_eq_zero (by simpa using hl)
      rw [this]
  have hR := hh.ob 0 _ hob
  have hrep := hR
  cases hv with
  | row _ _ hd0 hsl =>
  cases hR with
  | row _ _ _ _ v' xs u hhd hw hmax hl hc he =>
  rw [hd0] at hhd
  obtain rfl := Option.some.inj hhd
  have hnone : ∀ (p : Option Addr) (cap : Nat), Calls Tryz.prog 99 #[.slice p 0 cap, .func (.func 100) #[] #[]] w fun e w' => e = .returned (.tuple #[]) ∧ w' = w := fun p cap =>
    AnyF.slices_SortFunc_none (P := Tryz.prog) (ρ := Tryz.xS) { Tryz.aks with } p cap _ w
  by_cases h0 : l = []
  · subst h0
    have hw2 := hw.2
    obtain ⟨p, cap, rfl⟩ : ∃ p cap, v = .slice p 0 cap := by
      rcases hw2 with ⟨rfl, _⟩ | ⟨g, cap, cur, rfl, _⟩
      · exact ⟨_, _, rfl⟩
      · exact ⟨_, _, rfl⟩
    refine (hnone p cap).mono ?_
    rintro e w' ⟨rfl, rfl⟩
    exact ⟨.tuple #[], E, rfl, .tup _ _ rfl (fun k u s hu => by simp at hu), hh⟩
  have hpos : 0 < l.length := asK.2 h0
  rcases hw.2 with ⟨rfl, hn0⟩ | ⟨g, cap, cur, rfl, _⟩
  · exact absurd hn0 (by omega)
  obtain ⟨_, cur, u', hA⟩ := hrep.kr hd0
  -- the elements, with what they stand for
  let α : Type := { p : Value × List Bool // p.2.length = n ∧ p.1.oneCell' = true ∧ aT E.mem p.1 (pI p.2) }
  have hel : ∀ j, j < l.length → cur[j]? = some (u' j 0) ∧ (u' j 0).oneCell' = true ∧ aT E.mem (u' j 0) (pI (l.getD j [])) := fun j hj => by
    have c1 := hA.hc j 0 (pI (l.getD j [])) hj rfl
    have c2 := hA.he j 0 (pI (l.getD j [])) hj rfl
    rw [apT, arX] at c1
    exact ⟨c1.1, c1.2, c2⟩
  have mem : ∀ j, j < l.length → (l.getD j []).length = n := fun j hj => hlen _ (abv (bY [] hj))
  let el : Fin l.length → α := fun j => ⟨(u' j 0, l.getD j []), mem j j.2, (hel j j.2).2.1, (hel j j.2).2.2⟩
  haveI : Inhabited α := ⟨el ⟨0, hpos⟩⟩
  let enc : α → Value := fun x => x.1.1
  have h1 : ∀ a, (enc a).oneCell' = true := fun a => a.2.2.1
  let d : Array α := Array.ofFn el
  have hds : d.size = l.length := Array.size_ofFn
  have hdat : ∀ j (hj : j < l.length), d[j]! = el ⟨j, hj⟩ := fun j hj => by
    rw [getElem!_pos d j (by rw [hds]; exact hj)]
    simp [d]
  let cf : α → α → Int := fun x y => iK x.1.2 y.1.2
  have hlt : ∀ x y : α, ltOf cf x y = true ↔ pE x.1.2 y.1.2 := fun x y => by
    show decide (iK x.1.2 y.1.2 < 0) = true ↔ _
    rw [decide_eq_true_iff]; rfl
  have hltf : ∀ x y : α, ltOf cf x y = false ↔ ¬ pE x.1.2 y.1.2 := fun x y => by rw [← hlt, Bool.not_eq_true]
  have hO : SWO (ltOf cf) := {
    irrefl := fun x => (hltf x x).2 (ajC _)
    trans := fun x y z h k => (hlt x z).2 (yO (x.2.1.trans y.2.1.symm) (y.2.1.trans z.2.1.symm) ((hlt x y).1 h) ((hlt y z).1 k))
    ntrans := fun x y z h k => (hltf x z).2 (acz x.2.1 y.2.1 z.2.1 ((hltf x y).1 h) ((hltf y z).1 k)) }
  have hg : g < w.heap.size := (acT.1 hA.heap).1
  have hnc := hA.hn
  have hsz := hA.size
  -- the world with another order
  have hW : ∀ (m : Nat) (os : Array Obj) (dk : Array α), dk.size = l.length → bL (lu w E [sw l] 0) E ((iZ [sw l]).dA 0 (some (sw (dk.toList.map fun x => x.1.2)))) (sortWorld enc w g 0 m dk os) := by
    intro m os dk hdk
    have hw1 : (putRow enc (Sort.ahead w m) g 0 dk).heap[g]? = some (.cells (putCells enc 0 dk cur) 72 (0, 0)) := by
      show (w.heap.modify g (onCells _))[g]? = _
      rw [arh, if_pos rfl, hA.heap]; rfl
    have hw2 : ∀ k, k ≠ g → (putRow enc (Sort.ahead w m) g 0 dk).heap[k]? = w.heap[k]? := fun k hk => by
      show (w.heap.modify g (onCells _))[k]? = _
      rw [arh, if_neg fun e => hk e.symm]
    have hbang : ∀ k, k < l.length → (dk.toList.map fun x : α => x.1.2).getD k [] = (dk[k]!).1.2 := fun k hk => by
      rw [abo, ane, af4, aed (by omega), getElem!_pos dk k (by omega)]; rfl
    have hlm : (dk.toList.map fun x : α => x.1.2).length = l.length := by rw [apg, ant, hdk]
    have hat : ∀ j, j < l.length → (putCells enc 0 dk cur)[j]? = some (enc dk[j]!) := fun j hj => by
      rw [aho, if_pos (by omega), if_pos (by omega)]
    have hh2 : bL (lu w E [sw l] 0) E ((iZ [sw l]).dA 0 (some (sw (dk.toList.map fun x => x.1.2)))) (putRow enc (Sort.ahead w m) g 0 dk) := by
      refine hh.write (i := 0) (b := g) hob (by simp [Env.blk, hd0, aJ]) (aic _)
        (.row 72 1 _ _ _ ((putCells enc 0 dk cur).toList.take (l.length * 1)) (fun j _ => enc dk[j]!) hd0 ?_ (by rw [hlm]; exact hA.hmax) (fun j _ => rfl) ?_ ?_) rfl rfl rfl (by simp) hw2
      · rw [hlm]
        refine ⟨?_, .inr ⟨g, cap, _, rfl, ac7 _, hw1, hA.hn, hA.hcap, by rw [yS]; exact hA.size, rfl⟩⟩
        have h3 : (putCells enc 0 dk cur).toList.length = cap * 1 := by rw [ant, yS]; exact hA.size
        rw [ala, h3]
        omega
      · intro j k s hj hs
        rw [hlm] at hj
        have hk : k = 0 := by
          have := (abu.1 hs).1
          simpa using this
        subst hk
        rw [anh, if_pos (by omega), af4, apT, arX]
        exact ⟨hat j hj, h1 _⟩
      · intro j k s hj hs
        rw [hlm] at hj
        have hk : k = 0 := by
          have := (abu.1 hs).1
          simpa using this
        subst hk
        simp only [asP, Option.some.injEq] at hs
        subst hs
        rw [hbang j hj]
        exact (dk[j]!).2.2.2
    exact hh2.below (w' := sortWorld enc w g 0 m dk os) ⟨rfl, rfl, rfl, by simp [sortWorld], fun k hk => by
      show (_ ++ os)[k]? = _
      rw [aoV hk]⟩
  have hcmp : CmpLays1 Tryz.prog 100 #[] enc cf g 0 d.size w := CmpReads.lays fun m os dk hdk x y => by
    have hm := (hW m os dk (by rw [hdk, hds])).mem
    refine (ahl x.1.2 y.1.2 x.1.1 y.1.1 _ (x.2.1.trans y.2.1.symm) (by rw [x.2.1]; exact hn) (am9 hm x.2.2.2) (am9 hm y.2.2.2)).mono ?_
    rintro e w' ⟨rfl, rfl⟩
    exact ⟨rfl, 0, rfl⟩
  have hH : Holds enc w g 0 d := fun j hj => by
    have hj : j < l.length := by omega
    refine ⟨?_, ?_⟩
    · simp only [World.cell?, hA.heap, aku]
      rw [hdat j hj]; exact (hel j hj).1
    · simp [World.frozen?, hA.heap]
  have hsort := Any.slices_SortFunc (P := Tryz.prog) (ρ := Tryz.xS) Tryz.aks enc h1 cf hO 100 #[] g 0 cap d w (enters_of Tryz.func100 (by kernel_rfl) rfl) hcmp hH hg (by omega)
  rw [hds] at hsort
  refine Calls.mono hsort ?_
  rintro e w' ⟨rfl, d', m, os, hp, hs, rfl⟩
  have hd's : d'.size = l.length := hp.1.trans hds
  have hl' : (d'.toList.map fun x : α => x.1.2) = nX l := by
    have hpd : d'.toList.Perm d.toList := by
      have := hp.2.2
      rwa [show d'.extract 0 l.length = d' by rw [← hd's]; simp, show d.extract 0 l.length = d by rw [← hds]; simp] at this
    have hdl : (d.toList.map fun x : α => x.1.2) = l := by
      apply List.ext_getElem?
      intro k
      rw [ane, af4]
      by_cases hk : k < l.length
      · rw [aed (by omega), abm hk]
        simp only [d, Array.getElem_ofFn, ao2, Option.some.injEq]
        show l.getD k [] = _
        rw [abo, abm hk]; rfl
      · rw [anD (by omega), arR (by omega)]; rfl
    have hperm : (d'.toList.map fun x : α => x.1.2).Perm l := by
      have := hpd.map fun x : α => x.1.2
      rwa [hdl] at this
    refine ads (n := n) (hperm.trans (aer l).symm) (fun y hy => hlen y (hperm.mem_iff.1 hy)) ?_ (amQ hlen)
    unfold zq
    rw [List.pairwise_map, asN]
    intro i j hi hj hij
    have hi : i < d'.size := by simpa using hi
    have hj : j < d'.size := by simpa using hj
    have := hs i j (ac7 _) hij (by omega)
    rw [hltf, getElem!_pos d' i hi, getElem!_pos d' j hj] at this
    exact this
  have hfin := hW m os d' hd's
  rw [hl'] at hfin
  refine ⟨.tuple #[], E, rfl, .tup _ _ rfl (fun k u s hu => by simp at hu), ?_⟩
  have key : ∀ (st : St), (∀ i o, st.obj i = some o → ((iZ [sw l]).dA 0 (some (sw (nX l)))).obj i = some o) → st.no = 1 → st.k = none → bL (lu w E [sw l] 0) E st (sortWorld enc w g 0 m d' os) := fun st ho hno hk => by
    have hkk := hfin.kk
    exact ⟨fun i o h => hfin.ob i o (ho i o h), fun i j o o' b h1 h2 => hfin.sep i j o o' b (ho i o h1) (ho j o' h2), fun i o b h => hfin.own i o b (ho i o h), hfin.mem, hfin.mem0, hfin.memnew, fun i hi => hfin.new i (by rw [hno] at hi; exact hi), hfin.base, hfin.fr, hfin.hd0, by rw [hno]; exact hfin.mno, hfin.mkh, by rw [hk]; exact hkk⟩
  refine key _ (fun i o ho => ?_) rfl rfl
  have e1 : St.obj ⟨[], [(0, some (sw (nX l)))], 1, none⟩ i = some o := ho
  rw [lJ (no := 1) (c := none)] at e1
  have e2 := lJ (iZ [sw l]).fr (iZ [sw l]).ob 1 1 (c := none) (c' := none) 0 (some (sw (nX l))) i
  refine Eq.trans e2 ?_
  by_cases hi : 0 = i
  · rw [if_pos hi] at e1 ⊢; exact e1
  · rw [if_neg hi] at e1
    simp [St.obj, look] at e1
end Go.Sx.Pe
namespace Go.Sx.Pe
open Go Go.Proofs Go.Sx.Pn
def bbP (l:List (List Bool)):PV:=.seq l.length (fun k=>[pI (l.getD k [])])
def bbR (l:List (List Bool)):LV:=.rw 72 1 l.length (fun k=>[pI (l.getD k [])])
def nA (c:bD):List (List Bool):=(mI c).map (·.1)
def qR (c:bD):PV:=.tup [bbP (nX (nA c)),iP (uT c)]
theorem aor (a:List (List Bool)) (x:List Bool):∀k,k<a.length+1→dn a.length (fun k=>[pI (a.getD k [])]) (bK 1 [pI x]) k=[pI ((a++[x]).getD k [])]:=by
 intro k hk
 unfold dn
 by_cases h:k<a.length
 ·rw[if_pos h]
  show [pI (a.getD k [])]=_
  rw[abo,abo,agF h]
 ·obtain rfl:k=a.length:=by omega
  rw[if_neg h,arY,abo,ah5 (aic _),arY];rfl
theorem amx:aL Tryz.prog 98 (cu (fun a:bD×List Bool=>[kF a.1,uZ a.2]) (fun a=>a.1.sts.length≤24∧a.2.length=a.1.sts.length) (fun a=>pI a.2)):=by
 refine ⟨aiQ.1,fun ⟨c,m⟩ hp E vs w hg hh hA=>?_⟩
 obtain ⟨h1,h2⟩:=hp
 have h1:c.sts.length≤24:=h1
 have h2:m.length=c.sts.length:=h2
 have e1:uZ (dF m)=uZ m:=by unfold uZ vI;rw[abb]
 have key:=aiQ.2 (c,dF m) ⟨h1,oP (by omega)⟩ E vs w hg hh (by
  show kN E vs [kF c,uZ (dF m)]
  rw[e1];exact hA)
 refine key.mono fun e w' ⟨v,E',h3,h4,h5⟩=>⟨v,E',h3,?_,h5⟩
 have e2:(dF m).take c.sts.length=m:=by unfold dF;rw[←h2,List.take_left'];rfl
 show aT _ v (pI m)
 rw[←e2];exact h4
theorem abg:aL Tryz.prog 29 (jF (fun c:bD=>[kF c]) jP qR):=by
 refine bg (Tb:=tab) mixed ay Tryz.func29 rfl rfl ?_
 rintro (c:bD) hpre
 refine ai (ai rfl (ai rfl rfl)) ?_
 have ho:jP c:=hpre
 refine ei _ (ai (abn) (ei (c) (ei [] (ai (a4 (ai (fun _=>Or.inl rfl) (ai nof (Or.inl rfl)))) (ai (by exact (ai rfl (ai (ai rfl (fun _ _=>rfl)) (ai (ai rfl (fun _ _=>rfl)) (ai rfl (fun _ _=>rfl)))))) (ai trivial (ai (ho) ?_)))))))
 refine bH (p:=uT c=0) (bU (by omega)) (fun h1=>?_) (fun h1=>?_)
 ·have e:nA c=[]:=by
   unfold nA mI
   unfold uT at h1
   split
   ·rename_i h
    rw[if_pos h] at h1
    cases ee:uO c with
    | none=>rfl
    | some l=>rw[ee] at h1;exact absurd rfl h1
   ·rfl
  refine ai (ai (fun h=>absurd (show false=true from h) (by decide)) ?_) trivial
  show au _ (qR c)
  rw[qR,e]
  exact (ai rfl rfl)
 obtain ⟨hc,hx⟩:=agJ h1
 obtain ⟨hg,hl,hw⟩:=agK h1
 have h24:=(jN hc).2.2.1.2
 have hA:qR c=.tup [bbP (nX (nA c)),iP 0]:=by unfold qR;rw[h1]
 have hml:(nA c).length=(mI c).length:=apg _
 have htk:∀k,k<(mI c).length→(nA c).take (k+1)=(nA c).take k++[((mI c).getD k aA).1]:=fun k hk=>by
  rw[aX [] (by omega)]
  congr 2
  unfold nA
  rw[abo,abo,ane,abm hk];rfl
 refine ei (bG.inv { X:=Nat,up:=fun k=>[(21,.s (iA k)),(7,bbR ((nA c).take k))],uo:=fun k=>[],inv:=fun k=>k≤(mI c).length∧(True),meas:=fun k=>(mI c).length-k,x0:=0 }) ?_
 refine ai (ai (ai (by exact (a4 (ai rfl rfl))) (ai (by exact (ai (ai (ai (fun _=>rfl) (iE (by simp only[zz,reduceCtorEq];rfl))) rfl) rfl)) (by exact trivial))) rfl) (ai (ai (ac7 _) ?_) ?_)
 ·trivial
 intro (k:Nat) ⟨hk,_⟩
 have hkl:((nA c).take k).length=k:=by rw[ala];omega
 refine ah (p:=k<(mI c).length) (ak (by omega)) (fun h2=>?_) (fun h2=>?_)
 ·refine ai (ai (abr _) (iN (n:=(mI c).length) (by omega))) (ai rfl ?_)
  refine ei (gT ((mI c).getD k aA).1) (ai (af8 _) ?_)
  have hgk:=hg _ (abv (bY aA h2))
  refine ei _ (ai (amx) (ei ((c,((mI c).getD k aA).1)) (ei [] (ai (a4 (ai (fun _=>Or.inl rfl) (ai nof (Or.inl rfl)))) (ai (by exact (ai (ai rfl (ai (ai rfl (fun _ _=>rfl)) (ai (ai rfl (fun _ _=>rfl)) (ai rfl (fun _ _=>rfl))))) (ai rfl (fun _ _=>rfl)))) (ai trivial (ai (⟨h24,hgk.1⟩) ?_)))))))
  refine ai (mxL (n:=((nA c).take k).length+1) (by omega) (by decide)) (ai (aN 1 rfl) ?_)
  refine ei (k+1) (ai (ai rfl rfl) (ai (ai (ai rfl (ai (ai rfl rfl) (ai (ai rfl rfl) (ai (ai (ai (ai (fun _=>rfl) (aM (by omega))) rfl) (ai rfl (ai rfl (ai ?_ ?_)))) trivial)))) rfl) (ai (ai (iL (by omega)) trivial) (iM (by omega)))))
  ·rw[htk k h2,aaH];rfl
  ·rw[htk k h2];exact aor _ _
 ·obtain rfl:k=(mI c).length:=by omega
  rw[show (nA c).take (mI c).length=nA c from asq (by omega)]
  refine ei _ (ai (ak4 c.sts.length (by omega)) (ei (nA c) (ei [1] (ai (ai rfl (ai rfl (ai rfl (ai rfl (ai nof (ai nof (Or.inl rfl))))))) (ai (by exact (ai rfl (ai rfl trivial))) (ai (by exact (ai rfl (ai rfl (ai rfl (fun _ _=>rfl))))) (ai (⟨by show (nA c).length≤1000000000;omega,fun x hx=>by obtain ⟨y,hy,rfl⟩:=ar4.1 hx;exact (hg y hy).1⟩) ?_)))))))
  refine ai (ai (fun h=>absurd (show false=true from h) (by decide)) ?_) trivial
  show au _ (qR c)
  rw[hA]
  exact (ai (ai rfl (fun _ _=>rfl)) rfl)
def aq5:Spec:=cu (fun a:List (Int)×List (Int)=>[isA a.1,isA a.2]) (fun a=>a.1.length≤1000000) (fun a=>bP (decide (a.1=a.2)))
theorem aow:aL Tryz.prog 59 aq5:=by
 refine bg (Tb:=tab) mixed ay Tryz.func59 rfl rfl ?_
 rintro (a:List (Int)×List (Int)) hpre
 refine ai (ai rfl (ai rfl rfl)) ?_
 have hl:a.1.length≤1000000:=hpre
 refine bH (p:=a.1.length=a.2.length) (bU (by omega)) (fun h1=>?_) (fun h1=>?_)
 ·refine ai (ai (fun _=>trivial) ?_) trivial
  show au _ (bP (decide (a.1=a.2)))
  rw[decide_eq_false (fun h=>h1 (congrArg List.length h))]
  exact rfl
 refine ei (bG.inv { X:=Nat,up:=fun k=>[(13,.s (iA k))],uo:=fun k=>[],inv:=fun k=>k≤a.1.length∧(a.1.take k=a.2.take k),meas:=fun k=>a.1.length-k,x0:=0 }) ?_
 refine ai (ai (ai (by exact (a4 (ai rfl rfl))) (ai (by exact (ai (ai (fun _=>rfl) (iE (by simp only[zz,reduceCtorEq];rfl))) rfl)) (by exact trivial))) rfl) (ai (ai (ac7 _) ?_) ?_)
 ·rfl
 intro (k:Nat) ⟨hk,hall⟩
 refine ah (p:=k<a.1.length) (ak (by omega)) (fun h4=>?_) (fun h4=>?_)
 ·refine ei (.seq [0,1,2,3,4,5,6,7,8]) (ai (by kernel_rfl) ?_)
  refine ai (ai (abr _) (iN (n:=a.1.length) (by omega))) (ai rfl ?_)
  refine ai (ai (abr _) (iN (n:=a.2.length) (by omega))) (ai rfl ?_)
  refine bH (p:=a.1.getD k 0=a.2.getD k 0) (by exact bne_iff_ne) (fun h5=>?_) (fun h5=>?_)
  ·refine ai (ai (fun _=>trivial) ?_) trivial
   show au _ (bP (decide (a.1=a.2)))
   rw[decide_eq_false (fun h=>h5 (by rw[h]))]
   exact rfl
  refine ei (k+1) (ai (ai rfl rfl) (ai (ai (ai rfl (ai (ai rfl rfl) (ai (ai rfl rfl) (ai (ai (ai (fun _=>rfl) (aM (by omega))) rfl) trivial)))) rfl) (ai (ai (iL (by omega)) ?_) (iM (by omega)))))
  exact aaS 0 h4 (by omega) hall h5
 ·obtain rfl:k=a.1.length:=by omega
  rw[aiy,h1,aiy] at hall
  refine ai (ai (fun _=>trivial) ?_) trivial
  show au _ (bP (decide (a.1=a.2)))
  rw[decide_eq_true hall]
  exact rfl
theorem agV (f:Nat→List PV) (k:Nat) {g:Nat→List PV} (hg:g 0=f k):∀j,j<k+1→dn k f g j=f j:=by
 intro j hj
 unfold dn
 by_cases h:j<k
 ·rw[if_pos h]
 ·obtain rfl:j=k:=by omega
  rw[if_neg h,arY,hg]
def amV (c:bD):Prop:=c.sts.length≤1000000∧c.trs.length≤1000000
def stF (c:bD) (k:Nat):List PV:=stK (c.sts.getD k st0)
def trF (c:bD) (k:Nat):List PV:=trK (c.trs.getD k aG)
theorem wo:aL Tryz.prog 14 (jF (fun c:bD=>[kF c]) amV (fun c=>vk c)):=by
 refine bg (Tb:=tab) mixed ay Tryz.func14 rfl rfl ?_
 rintro (c:bD) hpre
 refine ai (ai rfl (ai rfl rfl)) ?_
 obtain ⟨hs,ht⟩:=hpre
 have hs:c.sts.length≤1000000:=hs
 have ht:c.trs.length≤1000000:=ht
 refine ei (bG.inv { X:=Nat,up:=fun k=>[(16,.s (iA k))],uo:=fun k=>[⟨2,36,[.s (iA c.act),.s (.p false (vZ c.ins)),.rw 89 2 k (stF c),.s ab0]⟩],inv:=fun k=>k≤c.sts.length∧(True),meas:=fun k=>c.sts.length-k,x0:=0 }) ?_
 refine ai (ai (ai (by exact (a4 (ai rfl rfl))) (ai ?_ ?_)) rfl) (ai (ai (ac7 _) ?_) ?_)
 ·exact (ai (ai (fun _=>rfl) (iE (by simp only[zz,reduceCtorEq];rfl))) rfl)
 ·exact (ai (ai (ai (ai nof rfl) rfl) (ai (ai (ai nof (ai rfl (fun _ _=>rfl))) rfl) (ai rfl (ai (ai nof rfl) rfl)))) trivial)
 ·trivial
 intro (k:Nat) ⟨hk,_⟩
 refine ah (p:=k<c.sts.length) (ak (by omega)) (fun h1=>?_) (fun h1=>?_)
 ·refine ai (ai (abr _) (iN (n:=c.sts.length) (by omega))) (ai rfl ?_)
  refine ai (mxL (n:=k+1) (by omega) (by decide)) (ai (lt1 rfl) ?_)
  refine ei (k+1) (ai (ai rfl rfl) (ai (ai (ai rfl (ai (ai rfl rfl) (ai (ai rfl rfl) (ai (ai (ai (fun _=>rfl) (aM (by omega))) rfl) (ai (ai (ai (ai nof rfl) rfl) (ai (ai (ai nof (ai rfl (fun _ _=>rfl))) rfl) (ai (ai rfl (ai rfl (ai rfl ?_))) (ai (ai nof rfl) rfl)))) trivial))))) rfl) (ai (ai (iL (by omega)) trivial) (iM (by omega)))))
  exact agV (stF c) k rfl
 obtain rfl:k=c.sts.length:=by omega
 refine ei (bG.inv { X:=Nat,up:=fun k=>[(34,.s (iA k))],uo:=fun k=>[⟨2,36,[.s (iA c.act),.s (.p false (vZ c.ins)),.rw 89 2 c.sts.length (stF c),.rw 123 5 k (trF c)]⟩],inv:=fun k=>k≤c.trs.length∧(True),meas:=fun k=>c.trs.length-k,x0:=0 }) ?_
 refine ai (ai (ai (by exact (a4 (ai rfl rfl))) (ai ?_ ?_)) rfl) (ai (ai (ac7 _) ?_) ?_)
 ·exact (ai (ai (fun _=>rfl) (iE (by simp only[zz,reduceCtorEq];rfl))) rfl)
 ·exact (ai (ai (ai (ai nof rfl) rfl) (ai (ai (ai nof (ai rfl (fun _ _=>rfl))) rfl) (ai (ai rfl (ai rfl (ai rfl (fun _ _=>rfl)))) rfl))) trivial)
 ·trivial
 intro (k:Nat) ⟨hk,_⟩
 refine ah (p:=k<c.trs.length) (ak (by omega)) (fun h1=>?_) (fun h1=>?_)
 ·refine ai (ai (abr _) (iN (n:=c.trs.length) (by omega))) (ai rfl ?_)
  refine ai (mxL (n:=k+1) (by omega) (by decide)) (ai (lt1 rfl) ?_)
  refine ei (k+1) (ai (ai rfl rfl) (ai (ai (ai rfl (ai (ai rfl rfl) (ai (ai rfl rfl) (ai (ai (ai (fun _=>rfl) (aM (by omega))) rfl) (ai (ai (ai (ai nof rfl) rfl) (ai (ai (ai nof (ai rfl (fun _ _=>rfl))) rfl) (ai (ai rfl (ai rfl (ai rfl (fun _ _=>rfl)))) (ai rfl (ai rfl (ai rfl ?_)))))) trivial))))) rfl) (ai (ai (iL (by omega)) trivial) (iM (by omega)))))
  exact agV (trF c) k rfl
 obtain rfl:k=c.trs.length:=by omega
 refine ai (ai (fun h=>absurd (show false=true from h) (by decide)) ?_) trivial
 show au _ (vk c)
 rw[show vk c=.agg [iP c.act,vZ c.ins,.seq c.sts.length (stF c),.seq c.trs.length (trF c)] from rfl]
 exact (ai rfl (ai (ai rfl (fun _ _=>rfl)) (ai (ai rfl (fun _ _=>rfl)) (ai rfl (fun _ _=>rfl)))))
def bbA (l:List (List Bool)):SV:=.p false (bbP l)
def aj6 (l:List (List Bool)):Prop:=l.length≤1000000∧∀m∈l,m.length≤1000000
theorem ai3:aL Tryz.prog 33 (cu (fun a:List (List Bool)×List (List Bool)=>[bbA a.1,bbA a.2]) (fun a=>aj6 a.1) (fun a=>bP (decide (a.1=a.2)))):=by
 refine bg (Tb:=tab) mixed ay Tryz.func33 rfl rfl ?_
 rintro (a:List (List Bool)×List (List Bool)) hpre
 refine ai (ai rfl (ai rfl rfl)) ?_
 obtain ⟨hl,hm⟩:=hpre
 have hl:a.1.length≤1000000:=hl
 refine bH (p:=a.1.length=a.2.length) (bU (by omega)) (fun h1=>?_) (fun h1=>?_)
 ·refine ai (ai (fun _=>trivial) ?_) trivial
  show au _ (bP (decide (a.1=a.2)))
  rw[decide_eq_false (fun h=>h1 (congrArg List.length h))]
  exact rfl
 refine ei (bG.inv { X:=Nat,up:=fun k=>[(5,.s (iA k))],uo:=fun k=>[],inv:=fun k=>k≤a.1.length∧(a.1.take k=a.2.take k),meas:=fun k=>a.1.length-k,x0:=0 }) ?_
 refine ai (ai (ai (by exact (a4 (ai rfl rfl))) (ai (by exact (ai (ai (fun _=>rfl) (iE (by simp only[zz,reduceCtorEq];rfl))) rfl)) (by exact trivial))) rfl) (ai (ai (ac7 _) ?_) ?_)
 ·rfl
 intro (k:Nat) ⟨hk,hall⟩
 refine ah (p:=k<a.1.length) (ak (by omega)) (fun h4=>?_) (fun h4=>?_)
 ·refine ei (.seq [0,1,2,3,4,5,6,7,8,9]) (ai (by kernel_rfl) ?_)
  refine ai (ai (abr _) (iN (n:=a.1.length) (by omega))) (ai rfl ?_)
  refine ai (ai (abr _) (iN (n:=a.2.length) (by omega))) (ai rfl ?_)
  refine ei _ (ai (al8) (ei ((a.1.getD k [],a.2.getD k [])) (ei [] (ai (a4 (ai (fun _=>Or.inl rfl) (ai nof (Or.inl rfl)))) (ai (by exact (ai (ai rfl (fun _ _=>rfl)) (ai rfl (fun _ _=>rfl)))) (ai trivial (ai (hm _ (abv (bY [] h4))) ?_)))))))
  refine bH (p:=a.1.getD k []=a.2.getD k []) (by (show (!decide (a.1.getD k []=a.2.getD k []))=true↔_;simp)) (fun h5=>?_) (fun h5=>?_)
  ·refine ai (ai (fun _=>trivial) ?_) trivial
   show au _ (bP (decide (a.1=a.2)))
   rw[decide_eq_false (fun h=>h5 (by rw[h]))]
   exact rfl
  refine ei (k+1) (ai (ai rfl rfl) (ai (ai (ai rfl (ai (ai rfl rfl) (ai (ai rfl rfl) (ai (ai (ai (fun _=>rfl) (aM (by omega))) rfl) trivial)))) rfl) (ai (ai (iL (by omega)) ?_) (iM (by omega)))))
  exact aaS [] h4 (by omega) hall h5
 ·obtain rfl:k=a.1.length:=by omega
  rw[aiy,h1,aiy] at hall
  refine ai (ai (fun _=>trivial) ?_) trivial
  show au _ (bP (decide (a.1=a.2)))
  rw[decide_eq_true hall]
  exact rfl
def p9 (t:kD):Bool:=decide (t.fr.length≤40)&&(decide (t.to.length≤40)&&kI t.wh)
def jJ (c:bD):Bool:=(decide (c.ins.length≤40)&&(decide (c.sts.length≤60)&&decide (c.trs.length≤60)))&&((c.ins.all fun t=>decide (t.length≤100))&&((c.sts.all fun x=>decide (x.st.length≤40))&&((c.trs.all p9)&&((decide (c.sts.length≤7)&&decide (c.trs.length≤9))||decide (¬bJ c=0)))))
theorem wZ {c:bD} (h:¬(c.ins.length≤40∧c.sts.length≤60∧c.trs.length≤60)):jJ c=false:=by
 unfold jJ
 rw[←as2,←as2,decide_eq_false h,aqd]
theorem amb {c:bD} (h:∃x∈c.ins,¬x.length≤100):jJ c=false:=by
 obtain ⟨x,hx,h⟩:=h
 unfold jJ
 rw[show (c.ins.all fun t=>decide (t.length≤100))=false from arT.2 ⟨x,hx,by simpa using h⟩,aqd,ara]
theorem afq {c:bD} (h:∃x∈c.sts,¬x.st.length≤40):jJ c=false:=by
 obtain ⟨x,hx,h⟩:=h
 unfold jJ
 rw[show (c.sts.all fun x=>decide (x.st.length≤40))=false from arT.2 ⟨x,hx,by simpa using h⟩,aqd,ara,ara]
theorem tO {c:bD} (h:∃x∈c.trs,p9 x=false):jJ c=false:=by
 obtain ⟨x,hx,h⟩:=h
 unfold jJ
 rw[show c.trs.all p9=false from arT.2 ⟨x,hx,by rw[h];decide⟩,aqd,ara,ara,ara]
theorem amr {c:bD} (h1:c.ins.length≤40∧c.sts.length≤60∧c.trs.length≤60) (h2:∀x∈c.ins,x.length≤100) (h3:∀x∈c.sts,x.st.length≤40) (h4:∀x∈c.trs,p9 x=true):jJ c=((decide (c.sts.length≤7)&&decide (c.trs.length≤9))||decide (¬bJ c=0)):=by
 unfold jJ
 rw[←as2,←as2,decide_eq_true h1,aj4,show (c.ins.all fun t=>decide (t.length≤100))=true from anu.2 fun x hx=>decide_eq_true (h2 x hx),aj4,show (c.sts.all fun x=>decide (x.st.length≤40))=true from anu.2 fun x hx=>decide_eq_true (h3 x hx),aj4,anu.2 h4,aj4]
theorem agH {t:kD} (h:p9 t=true):t.fr.length≤40∧t.to.length≤40∧kI t.wh=true:=by
 unfold p9 at h
 rw[ahX,ahX] at h
 exact ⟨of_decide_eq_true h.1,of_decide_eq_true h.2.1,h.2.2⟩
theorem agO {c:bD} (h1:c.ins.length≤40∧c.sts.length≤60∧c.trs.length≤60) (h3:∀x∈c.sts,x.st.length≤40) (h4:∀x∈c.trs,p9 x=true):jP c:=by
 refine ⟨fun s hs=>?_,fun t ht=>?_⟩
 ·have:=h3 s hs;omega
 ·obtain ⟨h5,h6,h7⟩:=agH (h4 t ht)
  have:=akC h7
  exact ⟨by omega,by omega,by omega⟩
theorem apt (x:Int):decide (¬x=0)=(x != 0):=by
 by_cases h:x=0
 ·subst h;rfl
 ·rw[decide_eq_true h];exact (bne_iff_ne.2 h).symm
theorem al3:aL Tryz.prog 11 (cu (fun c:bD=>[kF c]) (fun _=>True) (fun c=>bP (jJ c))):=by
 refine bg (Tb:=tab) mixed ay Tryz.func11 rfl rfl ?_
 rintro (c:bD) hpre
 refine ai (ai rfl (ai rfl rfl)) ?_
 refine ah (p:=40<c.ins.length) (ak (by omega)) (fun h1=>?_) (fun h1=>?_)
 ·refine ai (ai (fun _=>trivial) ?_) trivial
  show au _ (bP (jJ c))
  rw[wZ (fun h=>absurd h.1 (by omega))]
  exact rfl
 refine ah (p:=60<c.sts.length) (ak (by omega)) (fun h2=>?_) (fun h2=>?_)
 ·refine ai (ai (fun _=>trivial) ?_) trivial
  show au _ (bP (jJ c))
  rw[wZ (fun h=>absurd h.2.1 (by omega))]
  exact rfl
 refine ah (p:=60<c.trs.length) (ak (by omega)) (fun h3=>?_) (fun h3=>?_)
 ·refine ai (ai (fun _=>trivial) ?_) trivial
  show au _ (bP (jJ c))
  rw[wZ (fun h=>absurd h.2.2 (by omega))]
  exact rfl
 have hs1:c.ins.length≤40∧c.sts.length≤60∧c.trs.length≤60:=⟨by omega,by omega,by omega⟩
 refine ei (bG.inv { X:=Nat,up:=fun k=>[(3,.s (iA k))],uo:=fun k=>[],inv:=fun k=>k≤c.ins.length∧(∀y∈c.ins.take k,y.length≤100),meas:=fun k=>c.ins.length-k,x0:=0 }) ?_
 refine ai (ai (ai (by exact (a4 (ai rfl rfl))) (ai (by exact (ai (ai (fun _=>rfl) (iE (by simp only[zz,reduceCtorEq];rfl))) rfl)) (by exact trivial))) rfl) (ai (ai (ac7 _) ?_) ?_)
 ·exact fun y hy=>absurd hy (by simp)
 intro (k:Nat) ⟨hk,hall⟩
 refine ah (p:=k<c.ins.length) (ak (by omega)) (fun h4=>?_) (fun h4=>?_)
 ·refine ai (ai (abr _) (iN (n:=c.ins.length) (by omega))) (ai rfl ?_)
  have hz:=aV (c.ins.getD k [])
  refine ah (p:=100<(c.ins.getD k []).length) (by exact ak (by show (100:Int)<((strOf (c.ins.getD k [])).size:Int)↔_;rw[hz];omega)) (fun h5=>?_) (fun h5=>?_)
  ·refine ai (ai (fun _=>trivial) ?_) trivial
   show au _ (bP (jJ c))
   rw[amb ⟨_,abv (bY [] h4),by omega⟩]
   exact rfl
  refine ei (k+1) (ai (ai rfl rfl) (ai (ai (ai rfl (ai (ai rfl rfl) (ai (ai rfl rfl) (ai (ai (ai (fun _=>rfl) (aM (by omega))) rfl) trivial)))) rfl) (ai (ai (iL (by omega)) ?_) (iM (by omega)))))
  intro y hy
  rw[aX [] h4] at hy
  rcases akI.1 hy with hy | hy
  ·exact hall y hy
  ·simp only[akz] at hy;subst hy;omega
 obtain rfl:k=c.ins.length:=by omega
 rw[aiy] at hall
 have hins:=hall
 clear hall
 refine ei (bG.inv { X:=Nat,up:=fun k=>[(4,.s (iA k))],uo:=fun k=>[],inv:=fun k=>k≤c.sts.length∧(∀y∈c.sts.take k,y.st.length≤40),meas:=fun k=>c.sts.length-k,x0:=0 }) ?_
 refine ai (ai (ai (by exact (a4 (ai rfl rfl))) (ai (by exact (ai (ai (fun _=>rfl) (iE (by simp only[zz,reduceCtorEq];rfl))) rfl)) (by exact trivial))) rfl) (ai (ai (ac7 _) ?_) ?_)
 ·exact fun y hy=>absurd hy (by simp)
 intro (k:Nat) ⟨hk,hall⟩
 refine ah (p:=k<c.sts.length) (ak (by omega)) (fun h4=>?_) (fun h4=>?_)
 ·refine ai (ai (abr _) (iN (n:=c.sts.length) (by omega))) (ai rfl ?_)
  refine ah (p:=40<(c.sts.getD k st0).st.length) (by simp only[zz,reduceCtorEq];omega) (fun h5=>?_) (fun h5=>?_)
  ·refine ai (ai (fun _=>trivial) ?_) trivial
   show au _ (bP (jJ c))
   rw[afq ⟨_,abv (bY st0 h4),by omega⟩]
   exact rfl
  refine ei (k+1) (ai (ai rfl rfl) (ai (ai (ai rfl (ai (ai rfl rfl) (ai (ai rfl rfl) (ai (ai (ai (fun _=>rfl) (aM (by omega))) rfl) trivial)))) rfl) (ai (ai (iL (by omega)) ?_) (iM (by omega)))))
  intro y hy
  rw[aX st0 h4] at hy
  rcases akI.1 hy with hy | hy
  ·exact hall y hy
  ·simp only[akz] at hy;subst hy;omega
 obtain rfl:k=c.sts.length:=by omega
 rw[aiy] at hall
 have hsts:=hall
 clear hall
 refine ei (bG.inv { X:=Nat,up:=fun k=>[(5,.s (iA k))],uo:=fun k=>[],inv:=fun k=>k≤c.trs.length∧(∀y∈c.trs.take k,p9 y=true),meas:=fun k=>c.trs.length-k,x0:=0 }) ?_
 refine ai (ai (ai (by exact (a4 (ai rfl rfl))) (ai (by exact (ai (ai (fun _=>rfl) (iE (by simp only[zz,reduceCtorEq];rfl))) rfl)) (by exact trivial))) rfl) (ai (ai (ac7 _) ?_) ?_)
 ·exact fun y hy=>absurd hy (by simp)
 intro (k:Nat) ⟨hk,hall⟩
 refine ah (p:=k<c.trs.length) (ak (by omega)) (fun h4=>?_) (fun h4=>?_)
 ·refine ai (ai (abr _) (iN (n:=c.trs.length) (by omega))) (ai rfl ?_)
  refine ah (p:=40<(c.trs.getD k aG).fr.length) (by simp only[zz,reduceCtorEq];omega) (fun h5=>?_) (fun h5=>?_)
  ·refine ai (ai (fun _=>trivial) ?_) trivial
   show au _ (bP (jJ c))
   rw[tO ⟨_,abv (bY aG h4),by unfold p9;rw[decide_eq_false (by omega),aqd]⟩]
   exact rfl
  refine ah (p:=40<(c.trs.getD k aG).to.length) (by simp only[zz,reduceCtorEq];omega) (fun h6=>?_) (fun h6=>?_)
  ·refine ai (ai (fun _=>trivial) ?_) trivial
   show au _ (bP (jJ c))
   rw[tO ⟨_,abv (bY aG h4),by unfold p9;rw[decide_eq_false (p:=(c.trs.getD k aG).to.length≤40) (by omega),aqd,ara]⟩]
   exact rfl
  refine ei _ (ai (aoY) (ei ((c.trs.getD k aG).wh) (ei [] (ai (a4 (ai (fun _=>Or.inl rfl) (ai nof (Or.inl rfl)))) (ai (by exact (ai (iE (by simp only[zz,reduceCtorEq])) (ai (iE (by simp only[zz,reduceCtorEq])) (ai rfl (fun _ _=>rfl))))) (ai trivial (ai (trivial) ?_)))))))
  refine aZ (b:=!kI (c.trs.getD k aG).wh) rfl (fun h7=>?_) (fun h7=>?_)
  ·have h7:kI (c.trs.getD k aG).wh=false:=by simpa using h7
   refine ai (ai (fun _=>trivial) ?_) trivial
   show au _ (bP (jJ c))
   rw[tO ⟨_,abv (bY aG h4),by unfold p9;rw[h7,ara,ara]⟩]
   exact rfl
  have h7:kI (c.trs.getD k aG).wh=true:=by simpa using h7
  refine ei (k+1) (ai (ai rfl rfl) (ai (ai (ai rfl (ai (ai rfl rfl) (ai (ai rfl rfl) (ai (ai (ai (fun _=>rfl) (aM (by omega))) rfl) trivial)))) rfl) (ai (ai (iL (by omega)) ?_) (iM (by omega)))))
  intro y hy
  rw[aX aG h4] at hy
  rcases akI.1 hy with hy | hy
  ·exact hall y hy
  ·simp only[akz] at hy;subst hy;unfold p9;rw[decide_eq_true (by omega),decide_eq_true (by omega),h7];rfl
 obtain rfl:k=c.trs.length:=by omega
 rw[aiy] at hall
 have hy:=amr hs1 hins hsts hall
 have ho:=agO hs1 hsts hall
 refine ah (p:=c.sts.length≤7) (bX (by omega)) (fun h4=>?_) (fun h4=>?_)
 ·refine ah (p:=c.trs.length≤9) (bX (by omega)) (fun h5=>?_) (fun h5=>?_)
  ·refine ai (ai (fun _=>trivial) ?_) trivial
   show au _ (bP (jJ c))
   rw[hy,decide_eq_true h4,decide_eq_true h5,aj4,anf]
   exact rfl
  ·refine ei _ (ai (wC) (ei (c) (ei [] (ai (a4 (ai (fun _=>Or.inl rfl) (ai nof (Or.inl rfl)))) (ai (by exact (ai rfl (ai (ai rfl (fun _ _=>rfl)) (ai (ai rfl (fun _ _=>rfl)) (ai rfl (fun _ _=>rfl)))))) (ai trivial (ai (ho) ?_)))))))
   refine ai (ai (fun _=>trivial) ?_) trivial
   show au _ (bP (jJ c))
   rw[hy,decide_eq_false h5,ara,ap0,apt (bJ c)]
   exact rfl
 ·refine ei _ (ai (wC) (ei (c) (ei [] (ai (a4 (ai (fun _=>Or.inl rfl) (ai nof (Or.inl rfl)))) (ai (by exact (ai rfl (ai (ai rfl (fun _ _=>rfl)) (ai (ai rfl (fun _ _=>rfl)) (ai rfl (fun _ _=>rfl)))))) (ai trivial (ai (ho) ?_)))))))
  refine ai (ai (fun _=>trivial) ?_) trivial
  show au _ (bP (jJ c))
  rw[hy,decide_eq_false h4,aqd,ap0,apt (bJ c)]
  exact rfl
theorem aoF {c:bD} (h:jJ c=true):jP c∧amV c∧c.ins.length≤1000000:=by
 by_cases h1:c.ins.length≤40∧c.sts.length≤60∧c.trs.length≤60
 ·by_cases h3:∀x∈c.sts,x.st.length≤40
  ·by_cases h4:∀x∈c.trs,p9 x=true
   ·exact ⟨agO h1 h3 h4,⟨by omega,by omega⟩,by omega⟩
   ·simp only[as3] at h4
    obtain ⟨x,hx,h4⟩:=h4
    rw[tO ⟨x,hx,by simpa using h4⟩] at h;cases h
  ·simp only[as3] at h3
   obtain ⟨x,hx,h3⟩:=h3
   rw[afq ⟨x,hx,h3⟩] at h;cases h
 ·rw[wZ h1] at h;cases h
def p10:Array Value:=(Lib.pow10Tab.map fun z=>Value.int .u64 z).toArray
def glP:List (Nat×Array Value):=[(0,p10)]
def fnG {α:Type} (args:α→List SV) (pre:α→Prop) (res:α→PV):Spec:={ A:=α,args:=args,objs:=fun _=>[],pre:=pre,res:=res,objs':=fun _=>[],fresh:=true,ro:=0,gl:=glP }
theorem arN {w:World} (h:∀p∈glP,∃T fr,w.heap[p.1]?=some (.cells p.2 T fr)):Lib.TabIs Tryz.prog w "internal/strconv.uint64pow10" .u64 Lib.pow10Tab:=by
 obtain ⟨T,fr,hw⟩:=h _ (akz.2 rfl)
 have hg:Tryz.prog.globalNamed "internal/strconv.uint64pow10"=some 0:=by kernel_rfl
 show World.var? _ w _=_
 unfold World.var?
 rw[hg]
 show (match w.heap[0]? with | some (.cells cs _ _)=>some cs | _=>none)=_
 rw[show w.heap[0]?=some (.cells p10 T fr) from hw]
 rfl
theorem xJ:aL Tryz.prog 79 (fnG (fun n:Nat=>[iA n]) (fun n=>n≤1000000) (fun n=>sP (dec n))):=
 aiS (gl:=glP) Tryz.func79 rfl rfl (vals:=fun n:Nat=>[.int .i64 n]) (pre:=fun n=>n≤1000000) (ret:=fun n=>.string (strOf (dec n))) (fun _ _=>rfl) fun n hn w h=>by
  refine (Tryz.strconv_Itoa n (by omega) (by have:n≤1000000:=hn;omega) w (arN h)).mono fun e w' hh=>?_
  obtain ⟨h1,k,os,rfl⟩:=hh
  refine ⟨?_,?_⟩
  ·rw[h1]
   have:Lib.itoa (n:Int)=dec n:=by unfold Lib.itoa;rw[if_neg (by omega)];rfl
   rw[this];rfl
  ·exact ⟨rfl,rfl,rfl,by simp[Sort.grow],fun k hk=>by rw[Sort.heap_grow_old _ _ (by exact hk)];rfl⟩
def iI (x:Sk):List UInt8:=[UInt8.ofNat (65+x.1.toNat),if x.2 then 43 else 45]
def ad6:List UInt8:=[65,66,67,68,69,70]
theorem anL {d:Nat} (h:d<6):(strOf ad6).extract ((d:Int)).toNat (((d+1:Nat):Int)).toNat=strOf [UInt8.ofNat (65+d)]:=by
 rw[aq7,aq7,aa2]
 have:∀d:Fin 6,(ad6.take (d.1+1)).drop d.1=[UInt8.ofNat (65+d.1)]:=by decide
 exact congrArg strOf (this ⟨d,h⟩)
theorem ahm:aL Tryz.prog 86 (cu (fun x:Sk=>[skA x]) (fun x=>0≤x.1∧x.1<6) (fun x=>sP (iI x))):=by
 refine bg (Tb:=tab) mixed ay Tryz.func86 rfl rfl ?_
 rintro ⟨n,b⟩ hpre
 refine ai (ai rfl (ai rfl rfl)) ?_
 obtain ⟨h0,h6⟩:=hpre
 have h0:0≤n:=h0
 have h6:n<6:=h6
 obtain ⟨d,rfl⟩:∃d:Nat,n=(d:Int):=⟨n.toNat,by omega⟩
 have hw:IntKind.i64.wrap ((d:Int)+1)=((d+1:Nat):Int):=aM (by omega)
 have hx:(strOf ad6).extract ((d:Int)).toNat (IntKind.i64.wrap ((d:Int)+1)).toNat=strOf [UInt8.ofNat (65+d)]:=by rw[hw];exact anL (by omega)
 have hxs:((((strOf ad6).extract ((d:Int)).toNat (IntKind.i64.wrap ((d:Int)+1)).toNat).size+1:Nat):Int)≤9223372036854775807:=by rw[hx,aV];show ((1+1:Nat):Int)≤_;decide
 refine ai (ai (abr _) (ai (by rw[hw];omega) (by rw[hw];show ((d+1:Nat):Int)≤6;omega))) ?_
 refine aZ (b:=b) rfl (fun h=>?_) (fun h=>?_)
 ·refine ai hxs ?_
  refine ai (ai (fun _=>trivial) ?_) trivial
  show au _ (sP (iI ((d:Int),b)))
  rw[show iI ((d:Int),b)=[UInt8.ofNat (65+d)]++[43] by unfold iI;rw[h];rfl,show sP ([UInt8.ofNat (65+d)]++[43])=.val (.string (((strOf ad6).extract ((d:Int)).toNat (IntKind.i64.wrap ((d:Int)+1)).toNat)++strOf [43])) by rw[hx,aC];rfl]
  exact rfl
 ·refine ai hxs ?_
  refine ai (ai (fun _=>trivial) ?_) trivial
  show au _ (sP (iI ((d:Int),b)))
  rw[show iI ((d:Int),b)=[UInt8.ofNat (65+d)]++[45] by unfold iI;rw[h];rfl,show sP ([UInt8.ofNat (65+d)]++[45])=.val (.string (((strOf ad6).extract ((d:Int)).toNat (IntKind.i64.wrap ((d:Int)+1)).toNat)++strOf [45])) by rw[hx,aC];rfl]
  exact rfl
theorem ajs:aL Tryz.prog 138 (cu (fun x:Sk=>[skA x]) (fun x=>0≤x.1∧x.1<6) (fun x=>sP (iI x))):=by
 refine bg (Tb:=tab) mixed ay Tryz.func138 rfl rfl ?_
 rintro ⟨n,b⟩ hpre
 refine ai (ai rfl (ai rfl rfl)) ?_
 obtain ⟨h0,h6⟩:=hpre
 have h0:0≤n:=h0
 have h6:n<6:=h6
 obtain ⟨d,rfl⟩:∃d:Nat,n=(d:Int):=⟨n.toNat,by omega⟩
 have hv:IntKind.i32.wrap (IntKind.i64.wrap (65+(d:Int)))=((65+d:Nat):Int):=by
  rw[wrI (n:=65+(d:Int)) (by omega) (by omega)]
  simp[IntKind.wrap,IntKind.bits,IntKind.signed]<;>omega
 refine ai (by show 0≤IntKind.i32.wrap (IntKind.i64.wrap (65+(d:Int)))∧IntKind.i32.wrap (IntKind.i64.wrap (65+(d:Int)))<128;rw[hv];omega) ?_
 have hx:(⟨#[UInt8.ofNat (IntKind.i32.wrap (IntKind.i64.wrap (65+(d:Int)))).toNat]⟩:ByteArray)=strOf [UInt8.ofNat (65+d)]:=by rw[hv];rfl
 have hxs:(((((⟨#[UInt8.ofNat (IntKind.i32.wrap (IntKind.i64.wrap (65+(d:Int)))).toNat]⟩:ByteArray)).size+1:Nat)):Int)≤9223372036854775807:=by rw[hx,aV];show ((1+1:Nat):Int)≤_;decide
 refine aZ (b:=b) rfl (fun h=>?_) (fun h=>?_)
 ·refine ai hxs ?_
  refine ai (ai (fun _=>trivial) ?_) trivial
  show au _ (sP (iI ((d:Int),b)))
  rw[show iI ((d:Int),b)=[UInt8.ofNat (65+d)]++[43] by unfold iI;rw[h];rfl,show sP ([UInt8.ofNat (65+d)]++[43])=.val (.string ((⟨#[UInt8.ofNat (IntKind.i32.wrap (IntKind.i64.wrap (65+(d:Int)))).toNat]⟩:ByteArray)++strOf [43])) by rw[hx,aC];rfl]
  exact rfl
 ·refine ai hxs ?_
  refine ai (ai (fun _=>trivial) ?_) trivial
  show au _ (sP (iI ((d:Int),b)))
  rw[show iI ((d:Int),b)=[UInt8.ofNat (65+d)]++[45] by unfold iI;rw[h];rfl,show sP ([UInt8.ofNat (65+d)]++[45])=.val (.string ((⟨#[UInt8.ofNat (IntKind.i32.wrap (IntKind.i64.wrap (65+(d:Int)))).toNat]⟩:ByteArray)++strOf [45])) by rw[hx,aC];rfl]
  exact rfl
def adA (x:Sk):Int:=if 0≤x.1∧x.1<6 then 0 else 2
theorem aoq:aL Tryz.prog 137 (cu (fun x:Sk=>[skA x]) (fun _=>True) (fun x=>iP (adA x))):=by
 refine bg (Tb:=tab) mixed ay Tryz.func137 rfl rfl ?_
 rintro (x:Sk) hpre
 refine ai (ai rfl (ai rfl rfl)) ?_
 refine ei _ (ai (aeK) (ei (x.1) (ei [] (ai (a4 (ai (fun _=>Or.inl rfl) (ai nof (Or.inl rfl)))) (ai (by exact rfl) (ai trivial (ai (trivial) ?_)))))))
 refine aZ (b:=!(decide (0≤x.1)&&decide (x.1<6))) rfl (fun h=>?_) (fun h=>?_)
 ·have h:¬(0≤x.1∧x.1<6):=fun e=>by rw[decide_eq_true e.1,decide_eq_true e.2] at h;cases h
  refine ai (ai (fun _=>trivial) ?_) trivial
  show au _ (iP (adA x))
  rw[adA,if_neg h]
  exact rfl
 ·have h:0≤x.1∧x.1<6:=by
   have h:(decide (0≤x.1)&&decide (x.1<6))=true:=by simpa using h
   rw[ahX] at h
   exact ⟨of_decide_eq_true h.1,of_decide_eq_true h.2⟩
  refine ai (ai (fun _=>trivial) ?_) trivial
  show au _ (iP (adA x))
  rw[adA,if_pos h]
  exact rfl
theorem yh:aL Tryz.prog 80 (jF (fun x:Sk=>[skA x]) (fun x=>0≤x.1∧x.1<6) (fun x=>.tup [sP (iI x),iP 0])):=by
 refine bg (Tb:=tab) mixed ay Tryz.func80 rfl rfl ?_
 rintro (x:Sk) hpre
 refine ai (ai rfl (ai rfl rfl)) ?_
 obtain ⟨h0,h6⟩:=hpre
 have h0:0≤x.1:=h0
 have h6:x.1<6:=h6
 refine ei _ (ai (aoq) (ei (x) (ei [] (ai (a4 (ai (fun _=>Or.inl rfl) (ai nof (Or.inl rfl)))) (ai (by exact (ai rfl rfl)) (ai trivial (ai (trivial) ?_)))))))
 refine bH (p:=adA x=0) (bU (by omega)) (fun h=>?_) (fun h=>?_)
 ·exact absurd (if_pos ⟨h0,h6⟩) h
 refine ei _ (ai (ajs) (ei (x) (ei [] (ai (a4 (ai (fun _=>Or.inl rfl) (ai nof (Or.inl rfl)))) (ai (by exact (ai rfl rfl)) (ai trivial (ai (⟨h0,h6⟩) ?_)))))))
 refine ai (ai (fun _=>(by exact (ai trivial trivial))) ?_) trivial
 exact (ai rfl rfl)
def iy (l:List Int):List UInt8:=l.flatMap fun x=>dec x.toNat++[32]
theorem nU {n:Nat} (h:n<100):(dec n).length≤2:=by
 have:∀n:Fin 100,(Lib.decDigits n.1).length≤2:=by decide +kernel
 exact this ⟨n,h⟩
theorem ah1 {l:List Int} (h:jk 100 l):(iy l).length≤3*l.length:=by
 induction l with
 | nil=>simp[iy]
 | cons x l ih=>
  have h1:0≤x∧x<100:=h x (by simp)
  have h2:=ih fun y hy=>h y (by simp[hy])
  have h3:=nU (n:=x.toNat) (by omega)
  show ((dec x.toNat++[32])++iy l).length≤_
  simp only[aaH,aio,akY];omega
theorem abB:aL Tryz.prog 87 (cu (fun l:List Int=>[isA l]) (fun l=>jk 100 l∧l.length≤1000) (fun l=>sP (iy l))):=by
 refine bg (Tb:=tab) mixed ay Tryz.func87 rfl rfl ?_
 rintro (l:List Int) hpre
 refine ai (ai rfl (ai rfl rfl)) ?_
 obtain ⟨hx,hl⟩:=hpre
 have hx:jk 100 l:=hx
 have hl:l.length≤1000:=hl
 refine ei (bG.inv { X:=Nat,up:=fun k=>[(4,.s (iA k)),(3,.s (.p false (sP (iy (l.take k)))))],uo:=fun k=>[],inv:=fun k=>k≤l.length∧(True),meas:=fun k=>l.length-k,x0:=0 }) ?_
 refine ai (ai (ai (by exact (a4 (ai rfl rfl))) (ai (by exact (ai (ai (ai (fun _=>rfl) (iE (by simp only[zz,reduceCtorEq];rfl))) rfl) (ai (ai (fun _=>rfl) rfl) rfl))) (by exact trivial))) rfl) (ai (ai (ac7 _) ?_) ?_)
 ·trivial
 intro (k:Nat) ⟨hk,_⟩
 refine ah (p:=k<l.length) (ak (by omega)) (fun h1=>?_) (fun h1=>?_)
 ·refine ai (ai (abr _) (iN (n:=l.length) (by omega))) (ai rfl ?_)
  have hk1:=tF hx h1
  obtain ⟨d,hd⟩:∃d:Nat,l.getD k 0=(d:Int):=⟨(l.getD k 0).toNat,by omega⟩
  have hL:=ah1 (l:=l.take k) fun y hy=>hx y (List.mem_of_mem_take hy)
  rw[ala] at hL
  have h2:=nU (n:=d) (by omega)
  have e:iy (l.take (k+1))=iy (l.take k)++(dec d++[32]):=by rw[aX 0 h1];unfold iy;rw[asj,hd];simp
  refine ei _ (ai (yt) (ei (d) (ei [] (ai (a4 (ai (fun _=>Or.inl rfl) (ai nof (Or.inl rfl)))) (ai ?_ (ai (by exact trivial) (ai ((by show d<1000000000000;omega)) ?_)))))))
  ·exact (iE (by simp only[zz,reduceCtorEq];omega))
  have z1:((((strOf (dec d)).size+1:Nat)):Int)≤9223372036854775807:=by rw[aV];omega
  have z2:((((strOf (iy (l.take k))).size+(strOf (dec d)++strOf [32]).size:Nat)):Int)≤9223372036854775807:=by rw[aC,aV,aV,aaH,aoW];omega
  refine ai z1 (ai z2 ?_)
  refine ei (k+1) (ai (ai rfl rfl) (ai (ai (ai rfl (ai (ai rfl rfl) (ai (ai rfl rfl) (ai (ai (ai (ai (fun _=>rfl) (aM (by omega))) rfl) (ai (ai (fun _=>rfl) ?_) rfl)) trivial)))) rfl) (ai (ai (iL (by omega)) trivial) (iM (by omega)))))
  have hs:PV.val (.string (strOf (iy (l.take k))++(strOf (dec d)++strOf [32])))=sP (iy (l.take (k+1))):=by rw[e,aC,aC];rfl
  show au (PV.val (.string (strOf (iy (l.take k))++(strOf (dec d)++strOf [32])))) _
  rw[hs]
  exact rfl
 ·obtain rfl:k=l.length:=by omega
  refine ai (ai (fun _=>trivial) ?_) trivial
  show au _ (sP (iy l))
  rw[show iy l=iy (l.take l.length) by rw[aiy]]
  exact rfl
theorem aR {μ:Nat→Option (Array Value)} {u v:Value} (h:aT μ u (.val v)):u=v:=by cases h;rfl
def an0 (a:List (List UInt8)×List UInt8):Prop:=a.1.length≤1000000∧(Lib.join a.1 a.2).length≤140737488355328
theorem anK:aL Tryz.prog 143 (cu (fun a:List (List UInt8)×List UInt8=>[nH a.1,sA a.2]) an0 (fun a=>sP (Lib.join a.1 a.2))):=by
 refine ⟨⟨_,Tryz.func143,rfl,rfl⟩,fun a hpre E vs w _ hh hA=>?_⟩
 obtain ⟨l,sep⟩:=a
 obtain ⟨hll,hpre⟩:=hpre
 have hll:l.length≤1000000:=hll
 have hpre:(Lib.join l sep).length≤140737488355328:=hpre
 obtain ⟨hsz,hA⟩:=hA
 have hsz:vs.size=2:=hsz
 have hp:∀{u:Value} {d:PV},aP E u (.p false d)→aT (E.m false) u d:=fun hx=>by cases hx with | p _ _ _ hp=>exact hp
 have h0:aT (E.m false) (vs[0]'(by omega)) (vZ l):=hp (hA 0 _ _ (aed (by omega)) rfl)
 have h1:vs[1]'(by omega)=.string (strOf sep):=aR (hp (hA 1 _ (sA sep) (aed (by omega)) rfl))
 have hvs:vs=#[vs[0]'(by omega),.string (strOf sep)]:=by
  apply asB
  intro k
  match k with
  | 0=>rw[aed (by omega)];rfl
  | 1=>rw[aed (by omega),h1];rfl
  | k+2=>rw[anD (by omega)];simp
 generalize hv0:vs[0]'(by omega)=v0 at *
 clear h1 hv0 hA
 subst hvs
 have key:∀{n:Nat} {f:Nat→List PV},aT (E.m false) v0 (.seq n f)→n=l.length→f=(fun k=>[sP (l.getD k [])])→Calls Tryz.prog 143 #[v0,.string (strOf sep)] w fun e w'=>e=.returned (.string (strOf (Lib.join l sep)))∧Go.RowKit.Below w.heap.size w w':=by
  intro n f h hn hf
  cases h with
  | nil=>
   obtain rfl:l=[]:=aqm.1 hn.symm
   exact (Tryz.strings_Join_none none 0 (strOf sep) w).mono fun e w' ⟨h1,h2⟩=>by subst h2;exact ⟨h1,RowKit.Below.refl _ _⟩
  | emp a c=>
   obtain rfl:l=[]:=aqm.1 hn.symm
   exact (Tryz.strings_Join_none (some a) c (strOf sep) w).mono fun e w' ⟨h1,h2⟩=>by subst h2;exact ⟨h1,RowKit.Below.refl _ _⟩
  | seq b o _ cap sz _ cs u hm hcap hmax hl hc he=>
   subst hn;subst hf
   obtain ⟨T,fr,hw⟩:=hh.mem _ _ hm
   have hcell:∀(j:Nat) x,(l.map strOf)[j]?=some x→w.cell? ⟨b,o+j,none⟩=some (.string x):=by
    intro j x hx
    rw[ane] at hx
    obtain ⟨y,hy,rfl⟩:=ar6.1 hx
    have hj:j<l.length:=(abu.1 hy).1
    have hg:l.getD j []=y:=by rw[abo,hy];rfl
    have hs1:1=sz:=hl j hj
    subst hs1
    have h2:=hc j 0 (sP (l.getD j [])) hj rfl
    have h3:=aR (he j 0 (sP (l.getD j [])) hj rfl)
    rw[h3,hg] at h2
    have h4:=h2.1
    rw[apT,arX] at h4
    simp[World.cell?,hw,h4]
   have e:(l.map strOf).map (·.data.toList)=l:=by
    rw[List.map_map]
    exact (List.map_congr_left fun x _=>rfl).trans (List.map_id l)
   have hb:b<w.heap.size:=by
    rcases arf b w.heap.size with h | h
    ·exact h
    ·rw[anD h] at hw;cases hw
   have:=Tryz.strings_Join b o cap (l.map strOf) (strOf sep) w hcell hb (by rw[apg];omega) (by rw[apg];exact hcap) (by rw[e];exact hpre)
   rw[apg,e] at this
   exact this.mono fun e w' ⟨h1,h2⟩=>⟨h1,h2⟩
 exact (key h0 rfl rfl).mono fun e w' ⟨he,hw⟩=>⟨_,E,he,.val _,hh.below hw⟩
def mR (l:List Int):List (List UInt8):=l.map fun x=>dec x.toNat
def inT (l:List Int):List UInt8:=Lib.join (mR l) [32]
theorem aaP:∀{l:List Int},l≠[]→iy l=inT l++[32]
 | [],h=>absurd rfl h
 | [x],_=>by show (dec x.toNat++[32])++[]=_;simp[inT,mR,Lib.join]
 | x :: y :: l,_=>by
  have:=aaP (l:=y :: l) (by simp)
  show (dec x.toNat++[32])++iy (y :: l)=_
  rw[this]
  simp[inT,mR,Lib.join,List.intercalate_cons_cons]
theorem aea {l:List Int} (h:jk 100 l):(inT l).length≤3*l.length:=by
 by_cases hl:l=[]
 ·subst hl;simp[inT,mR,Lib.join]
 ·have:=ah1 h
  rw[aaP hl,aaH] at this;omega
theorem sJ:aL Tryz.prog 83 (cu (fun l:List Int=>[isA l]) (fun l=>jk 100 l∧l.length≤1000) (fun l=>sP (inT l))):=by
 refine bg (Tb:=tab) mixed ay Tryz.func83 rfl rfl ?_
 rintro (l:List Int) hpre
 refine ai (ai rfl (ai rfl rfl)) ?_
 obtain ⟨hx,hl⟩:=hpre
 have hx:jk 100 l:=hx
 have hl:l.length≤1000:=hl
 refine ei (bG.inv { X:=Nat,up:=fun k=>[(8,.s (iA k)),(3,ssR (mR (l.take k)))],uo:=fun k=>[],inv:=fun k=>k≤l.length∧(True),meas:=fun k=>l.length-k,x0:=0 }) ?_
 refine ai (ai (ai (by exact (a4 (ai rfl rfl))) (ai (by exact (ai (ai (ai (fun _=>rfl) (iE (by simp only[zz,reduceCtorEq];rfl))) rfl) rfl)) (by exact trivial))) rfl) (ai (ai (ac7 _) ?_) ?_)
 ·trivial
 intro (k:Nat) ⟨hk,_⟩
 have hdl:(mR (l.take k)).length=k:=by unfold mR;rw[apg,ala];omega
 refine ah (p:=k<l.length) (ak (by omega)) (fun h1=>?_) (fun h1=>?_)
 ·refine ai (ai (abr _) (iN (n:=l.length) (by omega))) (ai rfl ?_)
  have hk1:=tF hx h1
  obtain ⟨d,hd⟩:∃d:Nat,l.getD k 0=(d:Int):=⟨(l.getD k 0).toNat,by omega⟩
  have e:mR (l.take (k+1))=mR (l.take k)++[dec d]:=by rw[aX 0 h1];unfold mR;rw[arZ,hd];rfl
  refine ei _ (ai (qz) (ei (d) (ei [] (ai (a4 (ai (fun _=>Or.inl rfl) (ai nof (Or.inl rfl)))) (ai ?_ (ai (by exact trivial) (ai ((by show d<100;omega)) ?_)))))))
  ·exact (iE (by simp only[zz,reduceCtorEq];omega))
  refine ai (x9 (by show (mR (l.take k)).length+1≤10000;omega)) (ai (aN 1 rfl) ?_)
  refine ei (k+1) (ai (ai rfl rfl) (ai (ai (ai rfl (ai (ai rfl rfl) (ai (ai rfl rfl) (ai (ai (ai (ai (fun _=>rfl) (aM (by omega))) rfl) (ai rfl (ai rfl (ai ?_ ?_)))) trivial)))) rfl) (ai (ai (iL (by omega)) trivial) (iM (by omega)))))
  all_goals rw[e]
  ·rw[aaH];rfl
  ·exact fun j hj=>qD (a:=mR (l.take k)) (b:=[dec d]) (n:=(mR (l.take k)).length) (f:=fun k=>[sP ((mR (l.take _)).getD k [])]) rfl (fun _ _=>rfl) (adO rfl) j (by rw[aaH];exact hj)
 ·obtain rfl:k=l.length:=by omega
  have et:l.take l.length=l:=aiy
  refine ei _ (ai (anK) (ei ((mR (l.take l.length),[32])) (ei [] (ai (ai rfl (ai rfl (ai rfl (ai rfl (ai (fun _=>Or.inl rfl) (ai (fun _=>ai rfl rfl) (Or.inl rfl))))))) (ai (by exact (ai (ai rfl (fun _ _=>rfl)) rfl)) (ai trivial (ai (⟨by show (mR (l.take l.length)).length≤1000000;omega,by show (Lib.join (mR (l.take l.length)) [32]).length≤140737488355328;rw[et];have:=aea hx;unfold inT at this;omega⟩) ?_)))))))
  refine ai (ai (fun _=>trivial) ?_) trivial
  show au _ (sP (inT l))
  rw[show inT l=Lib.join (mR (l.take l.length)) [32] by rw[et];rfl]
  exact rfl
end Go.Sx.Pe
namespace Go.Sx.Pe
open Go Go.Proofs Go.RowKit Go.Sx.Pn
theorem cell_of {w:World} {b:Nat} {vs:Array Value} {T:TypeId} {off:Nat} {v:Value} (h:w.heap[b]?=some (.cells vs T (0,0))) (hv:vs[off]?=some v):w.cell? ⟨b,off,none⟩=some v:=by
 simp[World.cell?,h,hv]
theorem agM {w:World} {b:Nat} {vs:Array Value} {T:TypeId} (h:w.heap[b]?=some (.cells vs T (0,0))):w.shape? b=some (T,vs.size):=by
 simp[World.shape?,h]
theorem alj {w:World} {b off:Nat} {vs:Array Value} {T:TypeId} (h:w.heap[b]?=some (.cells vs T (0,0))):w.frozen? ⟨b,off,none⟩=false:=by
 simp[World.frozen?,h]
set_option maxRecDepth 100000 in
theorem ama (b:Nat) (w:World) (h0:w.cell? ⟨b,0,none⟩=some (.pointer (some ⟨b,0,none⟩))) :
  Calls Tryz.prog 135 #[.pointer (some ⟨b,0,none⟩)] w fun e w'=>e=.returned (.tuple #[])∧w'=w:=by
 obtain ⟨j,hj,_⟩:=ar6.1 (show (Tryz.prog.info? 143).map (·.size)=some 2 by kernel_rfl)
 go_enter Tryz.func135,Tryz.ntmps135
 go_wp2
 rw[Lib.run_neq_ptr_same w _ Tryz.underlying140 hj]
 go_wp2
 go_end0
 exact ⟨rfl,rfl⟩
set_option maxRecDepth 100000 in
theorem alm (T n b:Nat) (hlies:liesAt Tryz.prog Tryz.prog.depth T (n / Tryz.prog.cellsOf T) 0 143 1=true) (hn:0<n) (w:World) (h0:w.cell? ⟨b,0,none⟩=some (.pointer none)) (hsh:w.shape? b=some (T,n)) (hfz:w.frozen? ⟨b,0,none⟩=false) :
  Calls Tryz.prog 135 #[.pointer (some ⟨b,0,none⟩)] w fun e w'=>e=.returned (.tuple #[])∧w'=w.setCell ⟨b,0,none⟩ (.pointer (some ⟨b,0,none⟩)):=by
 obtain ⟨j,hj,hjs⟩:=ar6.1 (show (Tryz.prog.info? 143).map (·.size)=some 2 by kernel_rfl)
 go_enter Tryz.func135,Tryz.ntmps135
 go_wp2
 rw[Lib.run_to_unsafe w ⟨b,0,none⟩ Tryz.underlying140 Tryz.underlying226 hj (by rw[hjs];decide) hsh hn]
 simp only[Result.andThen]
 rw[Oper.upon_value]
 go_wp2
 rw[run_callFunc_extern Tryz.func166 (by kernel_rfl) (by kernel_rfl) (by kernel_rfl) (e:=Extern.AbiNoEscape.same) (by kernel_rfl)]
 rw[Lib.run_noEscape]
 simp only[Result.andThen]
 rw[Oper.upon_value]
 go_wp2
 rw[Lib.run_from_unsafe w ⟨b,0,none⟩ Tryz.underlying226 Tryz.underlying140 hj hsh hlies]
 simp only[Result.andThen]
 rw[Oper.upon_value]
 go_wp2
 go_end0
 exact ⟨rfl,rfl⟩
theorem ahg (T n:Nat) (hlies:liesAt Tryz.prog Tryz.prog.depth T (n / Tryz.prog.cellsOf T) 0 143 1=true) (hn:0<n):acR Tryz.prog 135 T n:=
 ⟨⟨_,Tryz.func135,rfl,rfl⟩,fun b vs w hw hs=>⟨fun h0=>alm T n b hlies hn w (cell_of hw h0) (by rw[agM hw,hs]) (alj hw),fun h0=>ama b w (cell_of hw h0)⟩⟩
theorem afl:acR Tryz.prog 135 143 2:=ahg _ _ (by kernel_rfl) (by decide)
theorem afj:acR Tryz.prog 135 202 3:=ahg _ _ (by kernel_rfl) (by decide)
set_option maxRecDepth 100000 in
theorem aaN (T n:Nat):anl Tryz.prog 84 T n 5:=by
 refine ⟨⟨_,Tryz.func84,rfl,rfl⟩,fun b vs w g cap cur l hw hs h1 hg hnc hcm hcs hcell h0=>?_⟩
 have hl0:l.length≠0:=by simpa using h0
 have c1:w.drew.cell? ⟨b,1,none⟩=some (.slice (some ⟨g,0,none⟩) l.length cap):=cell_of (w:=w.drew) hw h1
 have hSD:(Builtin.unsafeSliceData_ #[141] 206 #[.slice (some ⟨g,0,none⟩) l.length cap]).run Tryz.prog w.drew=.ok (.pointer (some ⟨g,0,none⟩)) w.drew:=
  Lib.run_unsafeSliceData_row _ _ _ _ _ _ (by omega)
 have hUS:(Builtin.unsafeString_ #[206,3] 9 #[.pointer (some ⟨g,0,none⟩),.int .i64 l.length]).run Tryz.prog w.drew=.ok (.string ⟨l.toArray⟩) (w.drew.freeze ⟨g,0,none⟩ l.length):=by
  refine Lib.run_unsafeString_row w.drew 206 3 9 5 Tryz.underlying206 (by kernel_rfl) g cur.size (agM (w:=w.drew) hg) l h0 (by omega) (by unfold maxLen at hcm;omega) ?_
  intro j x hx
  rw[Addr.add_lit]
  exact cell_of (w:=w.drew) hg (by rw[aku];exact hcell j x hx)
 have mixed:=mixed
 go_enter Tryz.func84,Tryz.ntmps84
 go_wp2
 go_region_o
 all_goals (go_wp2;go_ret;exact ⟨rfl,rfl⟩)
end Go.Sx.Pe
namespace Go.Sx.Pe
open Go Go.Proofs Go.Sx.Pn
def nZ (l:List UInt8):Ob:=.row 5 1 l.length (fun k=>[cP (l.getD k 0)])
def apU:SV:=.p false (.val .nilIface)
theorem kW {a b:List UInt8} {n:Nat} {f g:Nat→List PV} (hn:n=a.length) (hf:∀k,k<a.length→f k=[cP (a.getD k 0)]) (hg:∀k,k<b.length→g k=[cP (b.getD k 0)]):∀k,k<(a++b).length→dn n f g k=[cP ((a++b).getD k 0)]:=by
 intro k hk
 subst hn
 unfold dn
 by_cases h:k<a.length
 ·rw[if_pos h,hf k h,abo,abo,agF h]
 ·have hb:k-a.length<b.length:=by rw[aaH] at hk;omega
  rw[if_neg h,hg _ hb,abo,abo,ah5 (by omega)]
theorem one_byte {c:UInt8}:∀k,k<[c].length→bK 1 [cP c] k=[cP ([c].getD k 0)]:=by
 intro k hk
 have hk:k<1:=hk
 obtain rfl:k=0:=by omega
 rfl
theorem vv (l:List UInt8):∀k,kY (strOf l) k=[cP (l.getD k 0)]:=by
 intro k
 show [PV.val (.int .u8 ((strOf l).data.getD k 0).toNat)]=_
 have:(strOf l).data.getD k 0=l.getD k 0:=by
  show l.toArray.getD k 0=_
  simp[aey]
 rw[this];rfl
theorem agE (l:List UInt8):(strOf l).size=l.length:=by
 show l.toArray.size=_
 simp
def adr:Bool→SV
 | true=>.own 0 0
 | false=>.p false (.val (.pointer none))
def bld (T:Nat) (rest:List SV) (st:Bool:=true):Ob:=.cells T (adr st :: .row 1 :: rest)
abbrev NM := List (List UInt8)
def wbG (T:Nat) (rest:NM→List SV):nN:={ A:=Bool×NM×List UInt8×UInt8,fix:=1,args:=fun a=>[.own 0 0,cA a.2.2.2],objs:=fun a=>[bld T (rest a.2.1) a.1,nZ a.2.2.1],pre:=fun a=>a.2.2.1.length≤1000000,res:=fun _=>apU,objs':=fun a=>[bld T (rest a.2.1),nZ (a.2.2.1++[a.2.2.2])],inl:=[135] }
def wsG (T:Nat) (rest:NM→List SV):nN:={ A:=Bool×NM×List UInt8×List UInt8,fix:=1,args:=fun a=>[.own 0 0,sA a.2.2.2],objs:=fun a=>[bld T (rest a.2.1) a.1,nZ a.2.2.1],pre:=fun a=>a.2.2.1.length≤1000000∧a.2.2.2.length≤1000000,res:=fun a=>.tup [iA a.2.2.2.length,apU],objs':=fun a=>[bld T (rest a.2.1),nZ (a.2.2.1++a.2.2.2)],inl:=[135] }
def noR:NM→List SV:=fun _=>[]
def zi:NM→List SV:=fun l=>[nH l]
theorem lG:bV Tryz.prog 78 (wsG 143 noR):=by
 refine gP (Tb:=tab) mixed ay Tryz.func78 rfl rfl ?_
 rintro ⟨st,a⟩ hpre
 refine ai (ai rfl (ai rfl rfl)) ?_
 have hl:a.2.1.length≤1000000:=hpre.1
 have hl2:a.2.2.length≤1000000:=hpre.2
 have hz:=agE a.2.2
 cases st with
 | true=>
  refine pG afl rfl rfl rfl (.inl rfl) ?_
  refine ai (ai (ai rfl rfl) (ai (by show a.2.1.length+_≤_;rw[hz];unfold maxLen;omega) (by show a.2.1.length+_≤_;rw[hz];omega))) ?_
  refine ei [0,2] (ai (ai rfl (ai rfl rfl)) (ai ?_ ?_))
  ·exact (ai (iE (by simp only[zz,reduceCtorEq];rfl)) rfl)
  ·refine (ai (ai rfl (ai (ai rfl rfl) rfl)) (ai rfl (ai rfl (ai ?_ ?_))))
   ·show a.2.1.length+(strOf a.2.2).size=(a.2.1++a.2.2).length
    rw[hz,aaH]
   ·exact kW rfl (fun _ _=>rfl) (fun k _=>vv _ k)
 | false=>
  refine pG afl rfl rfl rfl (.inr ⟨_,rfl⟩) ?_
  refine ai (ai (ai rfl rfl) (ai (by show a.2.1.length+_≤_;rw[hz];unfold maxLen;omega) (by show a.2.1.length+_≤_;rw[hz];omega))) ?_
  refine ei [0,2] (ai (ai rfl (ai rfl rfl)) (ai ?_ ?_))
  ·exact (ai (iE (by simp only[zz,reduceCtorEq];rfl)) rfl)
  ·refine (ai (ai rfl (ai (ai rfl rfl) rfl)) (ai rfl (ai rfl (ai ?_ ?_))))
   ·show a.2.1.length+(strOf a.2.2).size=(a.2.1++a.2.2).length
    rw[hz,aaH]
   ·exact kW rfl (fun _ _=>rfl) (fun k _=>vv _ k)
theorem mH:bV Tryz.prog 81 (wbG 202 zi):=by
 refine gP (Tb:=tab) mixed ay Tryz.func81 rfl rfl ?_
 rintro ⟨st,a⟩ hpre
 refine ai (ai rfl (ai rfl rfl)) ?_
 have hl:a.2.1.length≤1000000:=hpre
 cases st with
 | true=>
  refine pG afj rfl rfl rfl (.inl rfl) ?_
  refine ai (mxL (n:=a.2.1.length+1) (by omega) (by decide)) ?_
  refine ai (lt1 rfl) ?_
  refine ei [0,3] (ai (ai rfl (ai rfl rfl)) (ai ?_ ?_))
  ·exact rfl
  ·refine (ai (ai rfl (ai (ai rfl rfl) (ai rfl (ai rfl (fun _ _=>rfl))))) (ai rfl (ai rfl (ai ?_ ?_))))
   ·show a.2.1.length+1=(a.2.1++[a.2.2]).length
    simp
   ·exact kW rfl (fun _ _=>rfl) one_byte
 | false=>
  refine pG afj rfl rfl rfl (.inr ⟨_,rfl⟩) ?_
  refine ai (mxL (n:=a.2.1.length+1) (by omega) (by decide)) ?_
  refine ai (lt1 rfl) ?_
  refine ei [0,3] (ai (ai rfl (ai rfl rfl)) (ai ?_ ?_))
  ·exact rfl
  ·refine (ai (ai rfl (ai (ai rfl rfl) (ai rfl (ai rfl (fun _ _=>rfl))))) (ai rfl (ai rfl (ai ?_ ?_))))
   ·show a.2.1.length+1=(a.2.1++[a.2.2]).length
    simp
   ·exact kW rfl (fun _ _=>rfl) one_byte
theorem kC:bV Tryz.prog 78 (wsG 202 zi):=by
 refine gP (Tb:=tab) mixed ay Tryz.func78 rfl rfl ?_
 rintro ⟨st,a⟩ hpre
 refine ai (ai rfl (ai rfl rfl)) ?_
 have hl:a.2.1.length≤1000000:=hpre.1
 have hl2:a.2.2.length≤1000000:=hpre.2
 have hz:=agE a.2.2
 cases st with
 | true=>
  refine pG afj rfl rfl rfl (.inl rfl) ?_
  refine ai (ai (ai rfl rfl) (ai (by show a.2.1.length+_≤_;rw[hz];unfold maxLen;omega) (by show a.2.1.length+_≤_;rw[hz];omega))) ?_
  refine ei [0,2] (ai (ai rfl (ai rfl rfl)) (ai ?_ ?_))
  ·exact (ai (iE (by simp only[zz,reduceCtorEq];rfl)) rfl)
  ·refine (ai (ai rfl (ai (ai rfl rfl) (ai rfl (ai rfl (fun _ _=>rfl))))) (ai rfl (ai rfl (ai ?_ ?_))))
   ·show a.2.1.length+(strOf a.2.2).size=(a.2.1++a.2.2).length
    rw[hz,aaH]
   ·exact kW rfl (fun _ _=>rfl) (fun k _=>vv _ k)
 | false=>
  refine pG afj rfl rfl rfl (.inr ⟨_,rfl⟩) ?_
  refine ai (ai (ai rfl rfl) (ai (by show a.2.1.length+_≤_;rw[hz];unfold maxLen;omega) (by show a.2.1.length+_≤_;rw[hz];omega))) ?_
  refine ei [0,2] (ai (ai rfl (ai rfl rfl)) (ai ?_ ?_))
  ·exact (ai (iE (by simp only[zz,reduceCtorEq];rfl)) rfl)
  ·refine (ai (ai rfl (ai (ai rfl rfl) (ai rfl (ai rfl (fun _ _=>rfl))))) (ai rfl (ai rfl (ai ?_ ?_))))
   ·show a.2.1.length+(strOf a.2.2).size=(a.2.1++a.2.2).length
    rw[hz,aaH]
   ·exact kW rfl (fun _ _=>rfl) (fun k _=>vv _ k)
def arq (T:Nat) (rest:NM→List SV):nN:={ A:=NM×List UInt8,fix:=1,args:=fun a=>[.own 0 0],objs:=fun a=>[bld T (rest a.1),nZ a.2],pre:=fun a=>True,res:=fun a=>iA a.2.length,objs':=fun a=>[bld T (rest a.1),nZ a.2] }
theorem aiR:bV Tryz.prog 142 (arq 202 zi):=by
 refine gP (Tb:=tab) mixed ay Tryz.func142 rfl rfl ?_
 rintro (a:NM×List UInt8) hpre
 refine ai (ai rfl (ai rfl rfl)) ?_
 refine ei [0,1] (ai (ai rfl (ai rfl rfl)) (ai ?_ ?_))
 ·exact rfl
 ·exact (ai (ai rfl (ai (ai rfl rfl) (ai rfl (ai rfl (fun _ _=>rfl))))) (ai rfl (ai rfl (ai rfl (fun _ _=>rfl)))))
theorem rE:bV Tryz.prog 81 (wbG 143 noR):=by
 refine gP (Tb:=tab) mixed ay Tryz.func81 rfl rfl ?_
 rintro ⟨st,a⟩ hpre
 refine ai (ai rfl (ai rfl rfl)) ?_
 have hl:a.2.1.length≤1000000:=hpre
 cases st with
 | true=>
  refine pG afl rfl rfl rfl (.inl rfl) ?_
  refine ai (mxL (n:=a.2.1.length+1) (by omega) (by decide)) ?_
  refine ai (lt1 rfl) ?_
  refine ei [0,3] (ai (ai rfl (ai rfl rfl)) (ai ?_ ?_))
  ·exact rfl
  ·refine (ai (ai rfl (ai (ai rfl rfl) rfl)) (ai rfl (ai rfl (ai ?_ ?_))))
   ·show a.2.1.length+1=(a.2.1++[a.2.2]).length
    simp
   ·exact kW rfl (fun _ _=>rfl) one_byte
 | false=>
  refine pG afl rfl rfl rfl (.inr ⟨_,rfl⟩) ?_
  refine ai (mxL (n:=a.2.1.length+1) (by omega) (by decide)) ?_
  refine ai (lt1 rfl) ?_
  refine ei [0,3] (ai (ai rfl (ai rfl rfl)) (ai ?_ ?_))
  ·exact rfl
  ·refine (ai (ai rfl (ai (ai rfl rfl) rfl)) (ai rfl (ai rfl (ai ?_ ?_))))
   ·show a.2.1.length+1=(a.2.1++[a.2.2]).length
    simp
   ·exact kW rfl (fun _ _=>rfl) one_byte
def jE (sep:List UInt8):List (List UInt8)→List UInt8
 | []=>[]
 | [x]=>x
 | x :: y :: l=>x++(sep++jE sep (y :: l))
theorem acV (sep x:List UInt8):∀l:List (List UInt8),jE sep (l++[x])=if l=[] then x else jE sep l++(sep++x)
 | []=>rfl
 | [y]=>by rw[if_neg (by simp)];rfl
 | y :: z :: l=>by
  rw[if_neg (by simp)]
  show y++(sep++jE sep (z :: l++[x]))=y++(sep++jE sep (z :: l))++(sep++x)
  rw[acV sep x (z :: l),if_neg (by simp)]
  simp
def lV (o:Int):List UInt8:=if o=4 then [32,124,32] else [32,38,32]
def nk (b:Bool) (t:List UInt8):List UInt8:=if b then 40 :: (t++[41]) else t
def wN (o x:Int):Bool:=decide (x=4)||(decide (x=3)&&decide (o≠4))
mutual
def bB (nm:NM):Ex→List UInt8
 | .node o i l=>if o=0 then [if i=0 then 48 else 49] else if o=1 then nm.getD i.toNat [] else if o=2 then 33 :: (arE nm o l).headD [] else jE (lV o) (arE nm o l)
def arE (nm:NM) (o:Int):List Ex→List (List UInt8)
 | []=>[]
 | x :: l=>nk (wN o x.op) (bB nm x) :: arE nm o l
end
def eF (nm:NM) (o:Int) (x:Ex):List UInt8:=nk (wN o x.op) (bB nm x)
theorem air (nm:NM) (o:Int):∀l:List Ex,arE nm o l=l.map (eF nm o)
 | []=>by rw[arE];rfl
 | x :: l=>by rw[arE,air nm o l];rfl
theorem fJ (nm:NM) (x:Ex):bB nm x=if x.op=0 then [if x.idx=0 then 48 else 49] else if x.op=1 then nm.getD x.idx.toNat [] else if x.op=2 then 33 :: (x.args.map (eF nm x.op)).headD [] else jE (lV x.op) (x.args.map (eF nm x.op)):=by
 obtain ⟨o,i,l⟩:=x;rw[bB,air]
def ni (o out:Int):Bool:=(decide (o=3)||decide (o=4))&&(decide (0≤out)&&(decide (o=4)||decide (out≠4)))
def bZ (nm:NM) (x:Ex) (out:Int):List UInt8:=nk (ni x.op out) (bB nm x)
theorem eO (nm:NM) (x:Ex) {o:Int} (h:0≤o):bZ nm x o=eF nm o x:=by
 unfold bZ eF
 have:ni x.op o=wN o x.op:=by
  unfold ni wN
  rw[decide_eq_true h,aj4]
  by_cases h3:x.op=3
  ·rw[h3];simp
  ·by_cases h4:x.op=4
   ·rw[h4];simp
   ·rw[decide_eq_false h3,decide_eq_false h4];rfl
 rw[this]
theorem uf (b:Bool) (t:List UInt8):(nk b t).length≤t.length+2:=by unfold nk;split<;>simp
def l7 (nm:NM):Prop:=∀k,(nm.getD k []).length≤100
theorem aam (sep:List UInt8):∀l:List (List UInt8),(jE sep l).length≤(l.map fun t=>t.length+sep.length).sum
 | []=>by simp[jE]
 | [x]=>by simp[jE]
 | x :: y :: l=>by
  have:=aam sep (y :: l)
  simp only[jE,aaH,apI,atb] at this ⊢
  omega
theorem afp (o:Int):(lV o).length=3:=by unfold lV;split<;>rfl
theorem abV {nm:NM} {o:Int}:∀(l:List Ex),(∀x∈l,(bB nm x).length+5≤110*x.size)→((l.map (eF nm o)).map fun t=>t.length+3).sum≤110*sizes l
 | [],_=>by simp
 | x :: l,h=>by
  have h1:=h x (by simp)
  have h2:=abV (nm:=nm) (o:=o) l fun y hy=>h y (by simp[hy])
  have h3:=uf (wN o x.op) (bB nm x)
  rw[sizes]
  simp only[apI,atb] at h2 ⊢
  unfold eF at h2 ⊢
  omega
theorem ug {nm:NM} (hnm:l7 nm):∀(n:Nat) (x:Ex),x.size≤n→(bB nm x).length+5≤110*x.size
 | 0,x,h=>by have:=size_pos x;omega
 | n+1,x,h=>by
  have hsz:=x.size_eq
  have ih:∀y∈x.args,(bB nm y).length+5≤110*y.size:=fun y hy=>ug hnm n y (by have:=bT hy;omega)
  have h4:=abV (nm:=nm) (o:=x.op) x.args ih
  rw[fJ]
  split
  ·simp;omega
  ·split
   ·have:=hnm x.idx.toNat;omega
   ·split
    ·cases hc:x.args with
     | nil=>simp;omega
     | cons y l=>
      rw[hc,sizes] at hsz
      have h1:=ih y (by rw[hc];simp)
      have h3:=uf (wN x.op y.op) (bB nm y)
      simp only[apI,List.headD_cons,aio]
      unfold eF
      omega
    ·have h5:=aam (lV x.op) (x.args.map (eF nm x.op))
     rw[afp] at h5
     omega
def aD (nm:NM) (base sep:List UInt8) (o:Int) (l:List Ex) (k:Nat):List UInt8:=base++jE sep ((l.take k).map (eF nm o))
theorem bE (nm:NM) (base sep:List UInt8) (o:Int) (l:List Ex):aD nm base sep o l 0=base:=by unfold aD;simp[jE]
theorem jy {nm:NM} {base sep:List UInt8} {o:Int} {l:List Ex} (h:0<l.length):aD nm base sep o l 1=base++eF nm o (l.getD 0 aH):=by
 unfold aD;rw[aX aH h];rfl
theorem iV {nm:NM} {base sep:List UInt8} {o:Int} {l:List Ex} {k:Nat} (h:k+1<l.length):aD nm base sep o l (k+1+1)=aD nm base sep o l (k+1)++sep++eF nm o (l.getD (k+1) aH):=by
 unfold aD
 have hne:(l.take (k+1)).map (eF nm o)≠[]:=by
  cases l with
  | nil=>simp at h
  | cons y l=>simp
 rw[aX aH h,arZ,List.map_singleton,acV,if_neg hne]
 simp
theorem jv (nm:NM) (base sep:List UInt8) (o:Int) (l:List Ex):aD nm base sep o l l.length=base++jE sep (l.map (eF nm o)):=by unfold aD;rw[aiy]
theorem adk (sep:List UInt8):∀l:List (List UInt8),l≠[]→(jE sep l).length+sep.length≤(l.map fun t=>t.length+sep.length).sum
 | [],h=>absurd rfl h
 | [x],_=>by simp[jE]
 | x :: y :: l,_=>by
  have:=adk sep (y :: l) (by simp)
  simp only[jE,aaH,apI,atb] at this ⊢
  omega
theorem jw {nm:NM} (hnm:l7 nm) {base sep:List UInt8} (hsep:sep.length=3) {o:Int} {l:List Ex} {k:Nat} (hk:k≤l.length):(aD nm base sep o l k).length+(if k=0 then 0 else 3)≤base.length+110*sizes (l.take k):=by
 have h4:=abV (nm:=nm) (o:=o) (l.take k) fun x _=>ug hnm x.size x (aic _)
 unfold aD
 rw[aaH]
 cases k with
 | zero=>simp[jE,sizes]
 | succ k=>
  have hne:(l.take (k+1)).map (eF nm o)≠[]:=by
   cases l with
   | nil=>simp at hk
   | cons y l=>simp
  have h5:=adk sep _ hne
  rw[hsep] at h5
  rw[if_neg (by omega)]
  omega
def anC (a:Ex×NM):Prop:=gU a.2.length a.1∧a.1.size≤256∧l7 a.2∧a.2.length≤256
def txS:Spec:=cu (fun a:Ex×NM=>[qx a.1,nH a.2]) anC (fun a=>sP (bB a.2 a.1))
def txN (n:Nat):Spec:={ txS with pre:=fun a=>txS.pre a∧a.1.size≤n }
def arS (n:Nat):Spec:=cu (fun a:Int×Ex×NM=>[iA a.1,qx a.2.1,nH a.2.2]) (fun a=>anC a.2∧a.2.1.size≤n) (fun a=>sP (eF a.2.2 a.1 a.2.1))
theorem aj9 (n:Nat) (ih:aL Tryz.prog 88 (txN n)):aL Tryz.prog 145 (arS n):=by
 refine bg (Tb:=tab) mixed ay Tryz.func145 rfl rfl ?_
 rintro (a:Int×Ex×NM) hpre
 refine ai (ai rfl (ai rfl rfl)) ?_
 refine ei _ (ai (ih) (ei (a.2) (ei [] (ai (a4 (ai (fun _=>Or.inl rfl) (ai nof (Or.inl rfl)))) (ai (by exact (ai (ai rfl (ai rfl (ai rfl (fun _ _=>rfl)))) (ai rfl (fun _ _=>rfl)))) (ai trivial (ai (hpre) ?_)))))))
 have hbr:strOf [40]++strOf (bB a.2.2 a.2.1)++strOf [41]=strOf (40 :: (bB a.2.2 a.2.1++[41])):=by rw[aC,aC];rfl
 have htl:(bB a.2.2 a.2.1).length≤30000:=by
  have h1:=ug hpre.1.2.2.1 a.2.1.size a.2.1 (aic _)
  have h2:a.2.1.size≤256:=hpre.1.2.1
  omega
 have hz1:(((strOf [40]).size+(strOf (bB a.2.2 a.2.1)).size:Nat):Int)≤9223372036854775807:=by rw[aV,aV,aoW];omega
 have hz2:(((strOf [40]++strOf (bB a.2.2 a.2.1)).size+(strOf [41]).size:Nat):Int)≤9223372036854775807:=by rw[aC,aV,aV,aaH,aoW,aoW];omega
 refine ah (p:=a.2.1.op=4) (bC (by omega)) (fun h1=>?_) (fun h1=>?_)
 ·have e:eF a.2.2 a.1 a.2.1=40 :: (bB a.2.2 a.2.1++[41]):=by unfold eF wN;rw[decide_eq_true h1];rfl
  refine ai hz1 (ai hz2 ?_)
  refine ai (ai (fun _=>trivial) ?_) trivial
  show au _ (sP (eF a.2.2 a.1 a.2.1))
  rw[e]
  exact rfl
 refine ah (p:=a.2.1.op=3) (bC (by omega)) (fun h2=>?_) (fun h2=>?_)
 ·refine bH (p:=a.1=4) (bU (by omega)) (fun h3=>?_) (fun h3=>?_)
  ·have e:eF a.2.2 a.1 a.2.1=40 :: (bB a.2.2 a.2.1++[41]):=by unfold eF wN;rw[decide_eq_false h1,decide_eq_true h2,decide_eq_true h3];rfl
   refine ai hz1 (ai hz2 ?_)
   refine ai (ai (fun _=>trivial) ?_) trivial
   show au _ (sP (eF a.2.2 a.1 a.2.1))
   rw[e]
   exact rfl
  ·have e:eF a.2.2 a.1 a.2.1=bB a.2.2 a.2.1:=by unfold eF wN;rw[decide_eq_false h1,h3];simp[nk]
   refine ai (ai (fun _=>trivial) ?_) trivial
   show au _ (sP (eF a.2.2 a.1 a.2.1))
   rw[e]
   exact rfl
 ·have e:eF a.2.2 a.1 a.2.1=bB a.2.2 a.2.1:=by unfold eF wN;rw[decide_eq_false h1,decide_eq_false h2];rfl
  refine ai (ai (fun _=>trivial) ?_) trivial
  show au _ (sP (eF a.2.2 a.1 a.2.1))
  rw[e]
  exact rfl
theorem akV (n:Nat) (ih:aL Tryz.prog 88 (txN n)):aL Tryz.prog 88 (txN (n+1)):=by
 have ar:=aj9 n ih
 refine bg (Tb:=tab) mixed ay Tryz.func88 rfl rfl ?_
 rintro (a:Ex×NM) hpre
 refine ai (ai rfl (ai rfl rfl)) ?_
 obtain ⟨⟨hg,hs,hnm,hnl⟩,hn⟩:=hpre
 have hn:a.1.size≤n+1:=hn
 have hal:=gN a.1
 have hsz:=a.1.size_eq
 obtain ⟨hn0,hga⟩:=(fV _ _).1 hg
 obtain ⟨ho,hle,hi⟩:=dW hn0
 have hA:=fJ a.2 a.1
 refine ah (p:=a.1.op=0) (bC (by omega)) (fun h0=>?_) (fun h0=>?_)
 ·rw[if_pos h0] at hA
  have ht:oV a.1.op a.2.length=1:=by rw[h0];rfl
  rw[ht] at hi
  have hw:IntKind.i64.wrap (a.1.idx+1)=a.1.idx+1:=iQ (by omega) (by omega)
  refine ai (ai hi.1 (ai (by rw[hw];omega) (by rw[hw];show a.1.idx+1≤2;omega))) ?_
  refine ai (ai (fun _=>trivial) ?_) trivial
  show au _ (sP (bB a.2 a.1))
  rw[hA,hw]
  skip
  rcases (show a.1.idx=0∨a.1.idx=1 by omega) with e | e<;>rw[e]<;>rfl
 rw[if_neg h0] at hA
 refine ah (p:=a.1.op=1) (bC (by omega)) (fun h1=>?_) (fun h1=>?_)
 ·have ht:oV a.1.op a.2.length=a.2.length-1:=by rw[h1];rfl
  rw[ht] at hi
  refine ai (ai hi.1 (by show a.1.idx<(a.2.length:Int);omega)) ?_
  refine ai rfl ?_
  refine ai (ai (fun _=>trivial) ?_) trivial
  show au _ (sP (bB a.2 a.1))
  rw[hA,if_pos h1]
  exact rfl
 rw[if_neg h1] at hA
 have hlen:∀y∈a.1.args,(eF a.2 a.1.op y).length≤30000:=fun y hy=>by
  have h1:=ug hnm y.size y (aic _)
  have h2:=bT hy
  have h3:=uf (wN a.1.op y.op) (bB a.2 y)
  unfold eF
  omega
 refine ah (p:=a.1.op=2) (bC (by omega)) (fun h2=>?_) (fun h2=>?_)
 ·rw[if_pos h2] at hA
  have hl1:dS a.1.op=1:=by rw[h2];rfl
  rw[hl1] at hle
  have hk:0<a.1.args.length:=by omega
  have hy:a.1.args.getD 0 aH∈a.1.args:=abv (fF hk)
  have hms:=bT hy
  have hl:=hlen _ hy
  refine ei (.seq [0,1,2,3,4,5,6,7,8,9]) (ai (by kernel_rfl) ?_)
  refine ai (ai (by decide) (by show (0:Int)<(a.1.args.length:Int);omega)) ?_
  refine ai rfl ?_
  refine ei _ (ai (ar) (ei ((a.1.op,a.1.args.getD 0 aH,a.2)) (ei [] (ai (a4 (ai (fun _=>Or.inl rfl) (ai nof (Or.inl rfl)))) (ai (by exact (ai rfl (ai (ai (iE (by simp only[zz,reduceCtorEq];rfl)) (ai (iE (by simp only[zz,reduceCtorEq];rfl)) (ai rfl (jm _)))) (ai rfl (fun _ _=>rfl))))) (ai trivial (ai (ai ⟨hga _ hy,by show (a.1.args.getD 0 aH).size≤256;omega,hnm,hnl⟩ (by show (a.1.args.getD 0 aH).size≤n;omega)) ?_)))))))
  refine ai (by show (((strOf [33]).size+(strOf (eF a.2 a.1.op (a.1.args.getD 0 aH))).size:Nat):Int)≤9223372036854775807;rw[aV,aV,aoW];omega) ?_
  have hW:bB a.2 a.1=33 :: eF a.2 a.1.op (a.1.args.getD 0 aH):=by
   rw[hA]
   cases hc:a.1.args with
   | nil=>rw[hc] at hk;simp at hk
   | cons y l=>rfl
  refine ai (ai (fun _=>trivial) ?_) trivial
  show au _ (sP (bB a.2 a.1))
  rw[hW]
  exact rfl
 rw[if_neg h2] at hA
 have h34:¬a.1.op=4→a.1.op=3:=fun h=>by omega
 by_cases h4:a.1.op=4
 ·refine ei (bG.inv { X:=Nat,up:=fun k=>[(6,.s (iA k)),(5,.s (sA (aD a.2 [] [32,124,32] a.1.op a.1.args k)))],uo:=fun k=>[],inv:=fun k=>k≤a.1.args.length∧(True),meas:=fun k=>a.1.args.length-k,x0:=0 }) ?_
  refine ai (ai (ai (by exact (a4 (ai rfl rfl))) (ai ?_ ?_)) rfl) (ai (ai (ac7 _) ?_) ?_)
  ·exact (ai (ai (ai (fun _=>rfl) (iE (by simp only[zz,reduceCtorEq];rfl))) rfl) (ai (ai (fun _=>rfl) rfl) rfl))
  ·exact trivial
  ·trivial
  intro (k:Nat) ⟨hk,_⟩
  have hpl:=jw (nm:=a.2) (base:=[]) (sep:=[32,124,32]) (o:=a.1.op) hnm rfl hk
  have hst:=dX a.1.args k
  refine ah (p:=k<a.1.args.length) (ak (by omega)) (fun h5=>?_) (fun h5=>?_)
  ·have hy:a.1.args.getD k aH∈a.1.args:=abv (fF h5)
   have hms:=bT hy
   have hl:=hlen _ hy
   cases k with
   | zero=>
    have hz0:=bE a.2 [] [32,124,32] a.1.op a.1.args
    refine ei (.seq [0,1,2,3,4,5,6,7,8,9,10,11]) (ai (by kernel_rfl) ?_)
    refine ai (ai (abr _) (iN (n:=a.1.args.length) (by omega))) (ai rfl ?_)
    refine ei _ (ai (ar) (ei ((a.1.op,a.1.args.getD 0 aH,a.2)) (ei [] (ai (a4 (ai (fun _=>Or.inl rfl) (ai nof (Or.inl rfl)))) (ai (by exact (ai rfl (ai (ai (iE (by simp only[zz,reduceCtorEq])) (ai (iE (by simp only[zz,reduceCtorEq])) (ai rfl (jm _)))) (ai rfl (fun _ _=>rfl))))) (ai trivial (ai (ai ⟨hga _ hy,by show (a.1.args.getD 0 aH).size≤256;omega,hnm,hnl⟩ (by show (a.1.args.getD 0 aH).size≤n;omega)) ?_)))))))
    refine ai (by show (((strOf (aD a.2 [] [32,124,32] a.1.op a.1.args 0)).size+(strOf (eF a.2 a.1.op (a.1.args.getD 0 aH))).size:Nat):Int)≤9223372036854775807;rw[hz0,aV,aV];show ((0+_:Nat):Int)≤_;omega) ?_
    have hcc:strOf (aD a.2 [] [32,124,32] a.1.op a.1.args 0)++strOf (eF a.2 a.1.op (a.1.args.getD 0 aH))=strOf (aD a.2 [] [32,124,32] a.1.op a.1.args (0+1)):=by
     rw[aC,hz0,jy h5]
    refine ei (0+1) (ai (ai rfl rfl) (ai (ai (ai rfl (ai (ai rfl rfl) (ai (ai rfl rfl) (ai (ai (ai (ai (fun _=>rfl) (aM (by omega))) rfl) (ai (ai (fun _=>rfl) ?_) rfl)) trivial)))) rfl) (ai (ai (iL (by omega)) trivial) (iM (by omega)))))
    exact hcc
   | succ k=>
    rw[if_neg (by omega)] at hpl
    have hpl:(aD a.2 [] [32,124,32] a.1.op a.1.args (k+1)).length+3≤0+110*sizes (a.1.args.take (k+1)):=hpl
    have hc1:(((strOf (aD a.2 [] [32,124,32] a.1.op a.1.args (k+1))).size+(strOf [32,124,32]).size:Nat):Int)≤9223372036854775807:=by rw[aV,aV];show ((_+3:Nat):Int)≤_;omega
    have hc2:(((strOf (aD a.2 [] [32,124,32] a.1.op a.1.args (k+1))++strOf [32,124,32]).size+(strOf (eF a.2 a.1.op (a.1.args.getD (k+1) aH))).size:Nat):Int)≤9223372036854775807:=by rw[aC,aV,aV,aaH];show ((_+3+_:Nat):Int)≤_;omega
    have hcc:strOf (aD a.2 [] [32,124,32] a.1.op a.1.args (k+1))++strOf [32,124,32]++strOf (eF a.2 a.1.op (a.1.args.getD (k+1) aH))=strOf (aD a.2 [] [32,124,32] a.1.op a.1.args (k+1+1)):=by
     rw[aC,aC,iV h5]
    refine ah (p:=0<k+1) (ak (by omega)) (fun h6=>?_) (fun h6=>?_)
    ·refine aZ (b:=false) (by exact beq_eq_false_iff_ne.2 (show ¬a.1.op=3 by omega)) (fun h=>absurd h (by decide)) (fun _=>?_)
     refine ah (p:=0<k+1) (ak (by omega)) (fun h7=>?_) (fun h7=>?_)
     ·refine aZ (b:=true) (by rw[show a.1.op=4 from h4];rfl) (fun _=>?_) (fun h=>absurd h (by decide))
      refine ai hc1 ?_
      refine ei (.seq [0,1,2,3,4,5,6,7,8,9,10,11]) (ai (by kernel_rfl) ?_)
      refine ai (ai (abr _) (iN (n:=a.1.args.length) (by omega))) (ai rfl ?_)
      refine ei _ (ai (ar) (ei ((a.1.op,a.1.args.getD (k+1) aH,a.2)) (ei [] (ai (a4 (ai (fun _=>Or.inl rfl) (ai nof (Or.inl rfl)))) (ai (by exact (ai rfl (ai (ai (iE (by simp only[zz,reduceCtorEq])) (ai (iE (by simp only[zz,reduceCtorEq])) (ai rfl (jm _)))) (ai rfl (fun _ _=>rfl))))) (ai trivial (ai (ai ⟨hga _ hy,by show (a.1.args.getD (k+1) aH).size≤256;omega,hnm,hnl⟩ (by show (a.1.args.getD (k+1) aH).size≤n;omega)) ?_)))))))
      refine ai hc2 ?_
      refine ei ((k+1)+1) (ai (ai rfl rfl) (ai (ai (ai rfl (ai (ai rfl rfl) (ai (ai rfl rfl) (ai (ai (ai (ai (fun _=>rfl) (aM (by omega))) rfl) (ai (ai (fun _=>rfl) ?_) rfl)) trivial)))) rfl) (ai (ai (iL (by omega)) trivial) (iM (by omega)))))
      exact hcc
     ·exact absurd (ark k) h7
    ·exact absurd (ark k) h6
  ·obtain rfl:k=a.1.args.length:=by omega
   have eT:aD a.2 [] [32,124,32] a.1.op a.1.args a.1.args.length=bB a.2 a.1:=by
    rw[jv,hA];unfold lV;rw[if_pos h4];rfl
   refine ai (ai (fun _=>trivial) ?_) trivial
   show au _ (sP (bB a.2 a.1))
   rw[eT.symm]
   exact rfl
 ·refine ei (bG.inv { X:=Nat,up:=fun k=>[(6,.s (iA k)),(5,.s (sA (aD a.2 [] [32,38,32] a.1.op a.1.args k)))],uo:=fun k=>[],inv:=fun k=>k≤a.1.args.length∧(True),meas:=fun k=>a.1.args.length-k,x0:=0 }) ?_
  refine ai (ai (ai (by exact (a4 (ai rfl rfl))) (ai ?_ ?_)) rfl) (ai (ai (ac7 _) ?_) ?_)
  ·exact (ai (ai (ai (fun _=>rfl) (iE (by simp only[zz,reduceCtorEq];rfl))) rfl) (ai (ai (fun _=>rfl) rfl) rfl))
  ·exact trivial
  ·trivial
  intro (k:Nat) ⟨hk,_⟩
  have hpl:=jw (nm:=a.2) (base:=[]) (sep:=[32,38,32]) (o:=a.1.op) hnm rfl hk
  have hst:=dX a.1.args k
  refine ah (p:=k<a.1.args.length) (ak (by omega)) (fun h5=>?_) (fun h5=>?_)
  ·have hy:a.1.args.getD k aH∈a.1.args:=abv (fF h5)
   have hms:=bT hy
   have hl:=hlen _ hy
   cases k with
   | zero=>
    have hz0:=bE a.2 [] [32,38,32] a.1.op a.1.args
    refine ei (.seq [0,1,2,3,4,5,6,7,8,9,10,11]) (ai (by kernel_rfl) ?_)
    refine ai (ai (abr _) (iN (n:=a.1.args.length) (by omega))) (ai rfl ?_)
    refine ei _ (ai (ar) (ei ((a.1.op,a.1.args.getD 0 aH,a.2)) (ei [] (ai (a4 (ai (fun _=>Or.inl rfl) (ai nof (Or.inl rfl)))) (ai (by exact (ai rfl (ai (ai (iE (by simp only[zz,reduceCtorEq])) (ai (iE (by simp only[zz,reduceCtorEq])) (ai rfl (jm _)))) (ai rfl (fun _ _=>rfl))))) (ai trivial (ai (ai ⟨hga _ hy,by show (a.1.args.getD 0 aH).size≤256;omega,hnm,hnl⟩ (by show (a.1.args.getD 0 aH).size≤n;omega)) ?_)))))))
    refine ai (by show (((strOf (aD a.2 [] [32,38,32] a.1.op a.1.args 0)).size+(strOf (eF a.2 a.1.op (a.1.args.getD 0 aH))).size:Nat):Int)≤9223372036854775807;rw[hz0,aV,aV];show ((0+_:Nat):Int)≤_;omega) ?_
    have hcc:strOf (aD a.2 [] [32,38,32] a.1.op a.1.args 0)++strOf (eF a.2 a.1.op (a.1.args.getD 0 aH))=strOf (aD a.2 [] [32,38,32] a.1.op a.1.args (0+1)):=by
     rw[aC,hz0,jy h5]
    refine ei (0+1) (ai (ai rfl rfl) (ai (ai (ai rfl (ai (ai rfl rfl) (ai (ai rfl rfl) (ai (ai (ai (ai (fun _=>rfl) (aM (by omega))) rfl) (ai (ai (fun _=>rfl) ?_) rfl)) trivial)))) rfl) (ai (ai (iL (by omega)) trivial) (iM (by omega)))))
    exact hcc
   | succ k=>
    rw[if_neg (by omega)] at hpl
    have hpl:(aD a.2 [] [32,38,32] a.1.op a.1.args (k+1)).length+3≤0+110*sizes (a.1.args.take (k+1)):=hpl
    have hc1:(((strOf (aD a.2 [] [32,38,32] a.1.op a.1.args (k+1))).size+(strOf [32,38,32]).size:Nat):Int)≤9223372036854775807:=by rw[aV,aV];show ((_+3:Nat):Int)≤_;omega
    have hc2:(((strOf (aD a.2 [] [32,38,32] a.1.op a.1.args (k+1))++strOf [32,38,32]).size+(strOf (eF a.2 a.1.op (a.1.args.getD (k+1) aH))).size:Nat):Int)≤9223372036854775807:=by rw[aC,aV,aV,aaH];show ((_+3+_:Nat):Int)≤_;omega
    have hcc:strOf (aD a.2 [] [32,38,32] a.1.op a.1.args (k+1))++strOf [32,38,32]++strOf (eF a.2 a.1.op (a.1.args.getD (k+1) aH))=strOf (aD a.2 [] [32,38,32] a.1.op a.1.args (k+1+1)):=by
     rw[aC,aC,iV h5]
    refine ah (p:=0<k+1) (ak (by omega)) (fun h6=>?_) (fun h6=>?_)
    ·refine aZ (b:=true) (by rw[show a.1.op=3 from h34 h4];rfl) (fun _=>?_) (fun h=>absurd h (by decide))
     refine ai hc1 ?_
     refine ah (p:=0<k+1) (ak (by omega)) (fun h7=>?_) (fun h7=>?_)
     ·refine aZ (b:=false) (by exact beq_eq_false_iff_ne.2 h4) (fun h=>absurd h (by decide)) (fun _=>?_)
      refine ei (.seq [0,1,2,3,4,5,6,7,8,9,10,11]) (ai (by kernel_rfl) ?_)
      refine ai (ai (abr _) (iN (n:=a.1.args.length) (by omega))) (ai rfl ?_)
      refine ei _ (ai (ar) (ei ((a.1.op,a.1.args.getD (k+1) aH,a.2)) (ei [] (ai (a4 (ai (fun _=>Or.inl rfl) (ai nof (Or.inl rfl)))) (ai (by exact (ai rfl (ai (ai (iE (by simp only[zz,reduceCtorEq])) (ai (iE (by simp only[zz,reduceCtorEq])) (ai rfl (jm _)))) (ai rfl (fun _ _=>rfl))))) (ai trivial (ai (ai ⟨hga _ hy,by show (a.1.args.getD (k+1) aH).size≤256;omega,hnm,hnl⟩ (by show (a.1.args.getD (k+1) aH).size≤n;omega)) ?_)))))))
      refine ai hc2 ?_
      refine ei ((k+1)+1) (ai (ai rfl rfl) (ai (ai (ai rfl (ai (ai rfl rfl) (ai (ai rfl rfl) (ai (ai (ai (ai (fun _=>rfl) (aM (by omega))) rfl) (ai (ai (fun _=>rfl) ?_) rfl)) trivial)))) rfl) (ai (ai (iL (by omega)) trivial) (iM (by omega)))))
      exact hcc
     ·exact absurd (ark k) h7
    ·exact absurd (ark k) h6
  ·obtain rfl:k=a.1.args.length:=by omega
   have eT:aD a.2 [] [32,38,32] a.1.op a.1.args a.1.args.length=bB a.2 a.1:=by
    rw[jv,hA];unfold lV;rw[if_neg h4];rfl
   refine ai (ai (fun _=>trivial) ?_) trivial
   show au _ (sP (bB a.2 a.1))
   rw[eT.symm]
   exact rfl
theorem akh:∀n,aL Tryz.prog 88 (txN n)
 | 0=>by
  refine bg (Tb:=tab) mixed ay Tryz.func88 rfl rfl ?_
  rintro (a:Ex×NM) hpre
  refine ai (ai rfl (ai rfl rfl)) ?_
  have:=size_pos a.1
  exact absurd hpre.2 (by show ¬a.1.size≤0;omega)
 | n+1=>akV n (akh n)
theorem aov:aL Tryz.prog 88 txS:=vw (fun a:Ex×NM=>a.1.size) akh
structure WrA where
 st:Bool
 nm:NM
 bs:List UInt8
 x:Ex
 out:Int
def ac5 (a:WrA):Prop:=gU a.nm.length a.x∧a.x.size≤256∧l7 a.nm∧a.nm.length≤256∧a.bs.length+110*a.x.size≤500000
def pW (n:Nat):nN:={ A:=WrA,fix:=1,args:=fun a=>[.own 0 0,qx a.x,iA a.out],objs:=fun a=>[bld 202 (zi a.nm) a.st,nZ a.bs],pre:=fun a=>ac5 a∧a.x.size≤n,res:=fun _=>.tup [],objs':=fun a=>[bld 202 (zi a.nm),nZ (a.bs++bZ a.nm a.x a.out)],inl:=[141,81,78] }
theorem ahs {P:Program} {f:Nat} {S:nN} (m:S.A→Nat) (h:∀n,bV P f { S with pre:=fun a=>S.pre a∧m a≤n }):bV P f S:=
 ⟨(h 0).1,fun a hp base E vs w hg hh hA=>(h (m a)).2 a ⟨hp,aic _⟩ base E vs w hg hh hA⟩
def wrS:nN:={ pW 0 with pre:=ac5 }
def tQ (st:Bool):Nat→SV
 | 0=>adr st
 | _+1=>.own 0 0
def zf (n:Nat) (Q:WrA→Prop):nN:={ pW n with pre:=fun a=>(pW n).pre a∧Q a }
theorem apP (n:Nat) (ih:bV Tryz.prog 141 (pW n)):bV Tryz.prog 141 (zf (n+1) fun a=>a.st=true∧a.x.op≤2):=by
 refine gP (Tb:=tab) mixed ay Tryz.func141 rfl rfl ?_
 rintro ⟨st,nm,bs,x,out⟩ hpre
 refine ai (ai rfl (ai rfl rfl)) ?_
 obtain ⟨hpre,hst,hQ⟩:=hpre
 obtain rfl:st=true:=hst
 obtain ⟨⟨hg,hs,hnm,hnl,hlen⟩,hn⟩:=hpre
 have hn:x.size≤n+1:=hn
 have hg:gU nm.length x:=hg
 have hs:x.size≤256:=hs
 have hnm:l7 nm:=hnm
 have hnl:nm.length≤256:=hnl
 have hlen:bs.length+110*x.size≤500000:=hlen
 have hsp:=size_pos x
 have hal:=gN x
 have hsz:=x.size_eq
 obtain ⟨hn0,hga⟩:=(fV _ _).1 hg
 obtain ⟨ho,hle,hi⟩:=dW hn0
 have hA:=fJ nm x
 refine ah (p:=x.op=0) (bC (by dsimp only;omega)) (fun h0=>?_) (fun h0=>?_)
 ·rw[if_pos h0] at hA
  have ht:oV x.op nm.length=1:=by rw[h0];rfl
  rw[ht] at hi
  have hW:bZ nm x out=[if x.idx=0 then 48 else 49]:=by
   unfold bZ ni;rw[hA,h0];rfl
  refine ei (.one 0 (.one 1 (.one 2 (.one 3 (.one 4 (.one 5 (.wr 6 .done))))))) (ai (by kernel_rfl) ?_)
  refine ei (if x.idx=0 then 48 else 49) (ai (ai hi.1 ?_) ?_)
  ·show (strOf [48,49])[x.idx.toNat]?=_
   rcases (show x.idx=0∨x.idx=1 by omega) with e | e<;>rw[e]<;>rfl
  refine aS (mH) ((true,nm,bs,if x.idx=0 then 48 else 49)) [0,1] (a4 (ai rfl rfl)) (Or.inl rfl) (by exact (ai (ai rfl rfl) rfl)) (by exact (ai (ai rfl (ai (ai rfl rfl) (ai rfl (ai rfl (fun _ _=>rfl))))) (ai rfl (ai rfl (ai rfl (fun _ _=>rfl)))))) ((by show bs.length≤1000000;omega)) ?_
  refine ei [0,3] (ai (ai rfl (ai rfl rfl)) (ai (by exact trivial) ?_))
  refine (ai (ai rfl (ai (ai rfl rfl) (ai rfl (ai rfl (fun _ _=>rfl))))) (ai rfl (ai rfl (ai ?_ ?_))))
  ·exact congrArg List.length (congrArg (fun t=>bs++t) hW.symm)
  ·exact fun k _=>congrArg (fun l=>[cP (l.getD k 0)]) (congrArg (fun t=>bs++t) hW.symm)
 rw[if_neg h0] at hA
 refine ah (p:=x.op=1) (bC (by dsimp only;omega)) (fun h1=>?_) (fun h1=>?_)
 ·rw[if_pos h1] at hA
  have hnk:(nm.getD x.idx.toNat []).length≤100:=hnm _
  have ht:oV x.op nm.length=nm.length-1:=by rw[h1];rfl
  rw[ht] at hi
  have hW:bZ nm x out=nm.getD x.idx.toNat []:=by
   unfold bZ ni;rw[hA,h1];rfl
  refine ei (.one 0 (.one 1 (.one 2 (.one 3 (.one 4 (.one 5 (.one 6 (.one 7 (.one 8 (.one 9 (.one 10 (.wr 11 .done)))))))))))) (ai (by kernel_rfl) ?_)
  refine ai (ai hi.1 (by show x.idx<(nm.length:Int);omega)) ?_
  refine ai rfl ?_
  refine aS (kC) ((true,nm,bs,nm.getD x.idx.toNat [])) [0,1] (a4 (ai rfl rfl)) (Or.inl rfl) (by exact (ai (ai rfl rfl) rfl)) (by exact (ai (ai rfl (ai (ai rfl rfl) (ai rfl (ai rfl (fun _ _=>rfl))))) (ai rfl (ai rfl (ai rfl (fun _ _=>rfl)))))) (⟨by show bs.length≤1000000;omega,by show (nm.getD x.idx.toNat []).length≤1000000;exact ald hnk (by decide)⟩) ?_
  refine ei [0,3] (ai (ai rfl (ai rfl rfl)) (ai (by exact trivial) ?_))
  refine (ai (ai rfl (ai (ai rfl rfl) (ai rfl (ai rfl (fun _ _=>rfl))))) (ai rfl (ai rfl (ai ?_ ?_))))
  ·exact congrArg List.length (congrArg (fun t=>bs++t) hW.symm)
  ·exact fun k _=>congrArg (fun l=>[cP (l.getD k 0)]) (congrArg (fun t=>bs++t) hW.symm)
 rw[if_neg h1] at hA
 refine ah (p:=x.op=2) (bC (by dsimp only;omega)) (fun h2=>?_) (fun h2=>?_)
 ·rw[if_pos h2] at hA
  have hl1:dS x.op=1:=by rw[h2];rfl
  have hl2:wV x.op=1:=by rw[h2];rfl
  rw[hl1,hl2] at hle
  have hk:0<x.args.length:=by omega
  have hy:x.args.getD 0 aH∈x.args:=abv (fF hk)
  have hms:=bT hy
  have hW:bZ nm x out=33 :: bZ nm (x.args.getD 0 aH) 2:=by
   rw[eO nm (x.args.getD 0 aH) (show (0:Int)≤2 by decide)]
   unfold bZ ni;rw[hA,h2]
   show 33 :: _=_
   cases hc:x.args with
   | nil=>rw[hc] at hk;simp at hk
   | cons y l=>rfl
  refine aS (mH) ((true,nm,bs,33)) [0,1] (a4 (ai rfl rfl)) (Or.inl rfl) (by exact (ai (ai rfl rfl) (iE (by simp only[zz,reduceCtorEq];rfl)))) (by exact (ai (ai rfl (ai (ai rfl rfl) (ai rfl (ai rfl (fun _ _=>rfl))))) (ai rfl (ai rfl (ai rfl (fun _ _=>rfl)))))) ((by show bs.length≤1000000;omega)) ?_
  refine ei (.one 0 (.one 1 (.one 2 (.one 3 (.one 4 (.one 5 (.one 6 (.wr 7 .done)))))))) (ai (by kernel_rfl) ?_)
  refine ai (ai (by decide) (by show (0:Int)<(x.args.length:Int);omega)) ?_
  refine ai rfl ?_
  refine aS (ih) (⟨true,nm,bs++[33],x.args.getD 0 aH,2⟩) [0,3] (a4 (ai rfl rfl)) (Or.inl rfl) (by exact (ai (ai rfl rfl) (ai (ai (iE (by simp only[zz,reduceCtorEq];rfl)) (ai (iE (by simp only[zz,reduceCtorEq];rfl)) (ai rfl (jm _)))) (iE (by simp only[zz,reduceCtorEq];omega))))) (by exact (ai (ai rfl (ai (ai rfl rfl) (ai rfl (ai rfl (fun _ _=>rfl))))) (ai rfl (ai rfl (ai rfl (fun _ _=>rfl)))))) (ai ⟨hga _ hy,by show (x.args.getD 0 aH).size≤256;omega,hnm,hnl,by show (bs++[33]).length+_≤_;rw[aaH,aoW];show bs.length+1+110*(x.args.getD 0 aH).size≤_;omega⟩ (by show (x.args.getD 0 aH).size≤n;omega)) ?_
  have eW:bs++[33]++bZ nm (x.args.getD 0 aH) 2=bs++bZ nm x out:=by rw[hW,anr];rfl
  refine ei [0,4] (ai (ai rfl (ai rfl rfl)) (ai (by exact trivial) ?_))
  refine (ai (ai rfl (ai (ai rfl rfl) (ai rfl (ai rfl (fun _ _=>rfl))))) (ai rfl (ai rfl (ai ?_ ?_))))
  ·exact congrArg List.length (eW)
  ·exact fun k _=>congrArg (fun l=>[cP (l.getD k 0)]) (eW)
 exact absurd hQ (by show ¬x.op≤2;omega)
theorem aqA (n:Nat) (ih:bV Tryz.prog 141 (pW n)):bV Tryz.prog 141 (zf (n+1) fun a=>a.st=true∧(a.x.op=4∧0≤a.out)):=by
 refine gP (Tb:=tab) mixed ay Tryz.func141 rfl rfl ?_
 rintro ⟨st,nm,bs,x,out⟩ hpre
 refine ai (ai rfl (ai rfl rfl)) ?_
 obtain ⟨hpre,hst,hQ⟩:=hpre
 obtain rfl:st=true:=hst
 obtain ⟨⟨hg,hs,hnm,hnl,hlen⟩,hn⟩:=hpre
 have hn:x.size≤n+1:=hn
 have hg:gU nm.length x:=hg
 have hs:x.size≤256:=hs
 have hnm:l7 nm:=hnm
 have hnl:nm.length≤256:=hnl
 have hlen:bs.length+110*x.size≤500000:=hlen
 have hsp:=size_pos x
 have hal:=gN x
 have hsz:=x.size_eq
 obtain ⟨hn0,hga⟩:=(fV _ _).1 hg
 obtain ⟨ho,hle,hi⟩:=dW hn0
 have hA:=fJ nm x
 have hQ:x.op=4∧0≤out:=hQ
 refine ah (p:=x.op=0) (bC (by omega)) (fun h0=>?_) (fun h0=>?_)
 ·exact absurd h0 (by omega)
 rw[if_neg h0] at hA
 refine ah (p:=x.op=1) (bC (by omega)) (fun h1=>?_) (fun h1=>?_)
 ·exact absurd h1 (by omega)
 rw[if_neg h1] at hA
 refine ah (p:=x.op=2) (bC (by omega)) (fun h2=>?_) (fun h2=>?_)
 ·exact absurd h2 (by omega)
 rw[if_neg h2] at hA
 have h34:¬x.op=4→x.op=3:=fun h=>by omega
 have hl2:2≤x.args.length:=by
  have:dS x.op=2:=by unfold dS;rw[if_neg h2,if_pos (by omega)]
  omega
 have hW:bZ nm x out=40 :: (bB nm x++[41]):=by
  unfold bZ ni;rw[decide_eq_true hQ.2,decide_eq_true hQ.1];simp[nk]
 refine ah (p:=0≤out) (bX (by omega)) (fun h3=>?_) (fun h3=>?_)
 ·refine ah (p:=x.op=4) (bC (by omega)) (fun h4=>?_) (fun h4=>?_)
  ·refine aS (mH) ((true,nm,bs,40)) [0,1] (a4 (ai rfl rfl)) (Or.inl rfl) (by exact (ai (ai rfl rfl) (iE (by simp only[zz,reduceCtorEq];rfl)))) (by exact (ai (ai rfl (ai (ai rfl rfl) (ai rfl (ai rfl (fun _ _=>rfl))))) (ai rfl (ai rfl (ai rfl (fun _ _=>rfl)))))) ((by show bs.length≤1000000;omega)) ?_
   refine aZ (b:=true) (by rw[show x.op=4 from h4];rfl) (fun _=>?_) (fun h=>absurd h (by decide))
   refine ei (bG.inv { X:=Nat,up:=fun k=>[(71,.s (iA k))],uo:=fun k=>[⟨0,202,[.s (tQ true k),.rw 5 1 (aD nm (bs++[40]) [32,124,32] x.op x.args k).length (fun j=>[cP ((aD nm (bs++[40]) [32,124,32] x.op x.args k).getD j 0)]),.s (nH nm)]⟩],inv:=fun k=>k≤x.args.length∧(True),meas:=fun k=>x.args.length-k,x0:=0 }) ?_
   refine ai (ai (ai (by exact (a4 (ai rfl rfl))) (ai ?_ ?_)) rfl) (ai (ai (ac7 _) ?_) ?_)
   ·exact (ai (ai (fun _=>rfl) (iE (by simp only[zz,reduceCtorEq];rfl))) rfl)
   ·refine (ai (ai (ai (ai rfl rfl) rfl) (ai (ai rfl (ai rfl (ai ?_ ?_))) (ai (ai nof (ai rfl (fun _ _=>rfl))) rfl))) trivial)
    ·exact congrArg List.length (bE nm (bs++[40]) [32,124,32] x.op x.args).symm
    ·exact fun j _=>congrArg (fun l=>[cP (l.getD j 0)]) (bE nm (bs++[40]) [32,124,32] x.op x.args).symm
   ·trivial
   intro (k:Nat) ⟨hk,_⟩
   have hpl:=jw (nm:=nm) (base:=bs++[40]) (sep:=[32,124,32]) (o:=x.op) hnm rfl hk
   cases k with
   | zero=>
    have hk0:0<x.args.length:=by omega
    refine ah (p:=0<x.args.length) (ak (by dsimp only;omega)) (fun h5=>?_) (fun h5=>?_)
    ·refine ai (ai (abr _) (iN (n:=x.args.length) (by omega))) (ai rfl ?_)
     have hy:x.args.getD 0 aH∈x.args:=abv (fF hk0)
     have hms:=bT hy
     have hb0:=congrArg List.length (bE nm (bs++[40]) [32,124,32] x.op x.args)
     have hB:(bs++[40]).length≤bs.length+1:=by simp
     refine aS (ih) (⟨true,nm,aD nm (bs++[40]) [32,124,32] x.op x.args 0,x.args.getD 0 aH,x.op⟩) [0,4] (a4 (ai rfl rfl)) (Or.inl rfl) (by exact (ai (ai rfl rfl) (ai (ai (iE (by simp only[zz,reduceCtorEq])) (ai (iE (by simp only[zz,reduceCtorEq])) (ai rfl (jm _)))) rfl))) (by exact (ai (ai rfl (ai (ai rfl rfl) (ai rfl (ai rfl (fun _ _=>rfl))))) (ai rfl (ai rfl (ai rfl (fun _ _=>rfl)))))) (ai ⟨hga _ hy,by show (x.args.getD 0 aH).size≤256;omega,hnm,hnl,by show (aD nm (bs++[40]) [32,124,32] x.op x.args 0).length+110*(x.args.getD 0 aH).size≤_;omega⟩ (by show (x.args.getD 0 aH).size≤n;omega)) ?_
     have eN:aD nm (bs++[40]) [32,124,32] x.op x.args 0++bZ nm (x.args.getD 0 aH) x.op=aD nm (bs++[40]) [32,124,32] x.op x.args (0+1):=by
      rw[eO nm _ ho.1,bE,jy hk0]
     refine ei (0+1) (ai (ai rfl rfl) (ai (ai (ai rfl (ai (ai rfl rfl) (ai (ai rfl rfl) (ai (ai (ai (fun _=>rfl) (aM (by omega))) rfl) (ai (ai (ai (ai rfl rfl) rfl) (ai (ai rfl (ai rfl (ai ?_ ?_))) (ai (ai nof (ai rfl (fun _ _=>rfl))) rfl))) trivial))))) rfl) (ai (ai (iL (by omega)) trivial) (iM (by omega)))))
     ·exact congrArg List.length eN
     ·exact fun j _=>congrArg (fun l=>[cP (l.getD j 0)]) eN
    ·exact absurd hk0 h5
   | succ k=>
    refine ah (p:=k+1<x.args.length) (ak (by dsimp only;omega)) (fun h5=>?_) (fun h5=>?_)
    ·refine ai (ai (abr _) (iN (n:=x.args.length) (by omega))) (ai rfl ?_)
     have hy:x.args.getD (k+1) aH∈x.args:=abv (fF h5)
     have hms:=bT hy
     have hss:=gV h5
     have hst:=dX x.args (k+1+1)
     have hB:(bs++[40]).length≤bs.length+1:=by simp
     rw[if_neg (by omega)] at hpl
     refine ah (p:=0<k+1) (ak (by omega)) (fun h6=>?_) (fun h6=>?_)
     ·refine aS (kC) ((true,nm,aD nm (bs++[40]) [32,124,32] x.op x.args (k+1),[32,124,32])) [0,4] (a4 (ai rfl rfl)) (Or.inl rfl) (by exact (ai (ai rfl rfl) rfl)) (by exact (ai (ai rfl (ai (ai rfl rfl) (ai rfl (ai rfl (fun _ _=>rfl))))) (ai rfl (ai rfl (ai rfl (fun _ _=>rfl)))))) (⟨by show (aD nm (bs++[40]) [32,124,32] x.op x.args (k+1)).length≤1000000;omega,by show ([32,124,32]:List UInt8).length≤1000000;simp⟩) ?_
      refine aS (ih) (⟨true,nm,aD nm (bs++[40]) [32,124,32] x.op x.args (k+1)++[32,124,32],x.args.getD (k+1) aH,x.op⟩) [0,6] (a4 (ai rfl rfl)) (Or.inl rfl) (by exact (ai (ai rfl rfl) (ai (ai (iE (by simp only[zz,reduceCtorEq])) (ai (iE (by simp only[zz,reduceCtorEq])) (ai rfl (jm _)))) rfl))) (by exact (ai (ai rfl (ai (ai rfl rfl) (ai rfl (ai rfl (fun _ _=>rfl))))) (ai rfl (ai rfl (ai rfl (fun _ _=>rfl)))))) (ai ⟨hga _ hy,by show (x.args.getD (k+1) aH).size≤256;omega,hnm,hnl,by show (aD nm (bs++[40]) [32,124,32] x.op x.args (k+1)++[32,124,32]).length+110*(x.args.getD (k+1) aH).size≤_;rw[aaH];show (aD nm (bs++[40]) [32,124,32] x.op x.args (k+1)).length+3+110*(x.args.getD (k+1) aH).size≤_;omega⟩ (by show (x.args.getD (k+1) aH).size≤n;omega)) ?_
      have eN:aD nm (bs++[40]) [32,124,32] x.op x.args (k+1)++[32,124,32]++bZ nm (x.args.getD (k+1) aH) x.op=aD nm (bs++[40]) [32,124,32] x.op x.args (k+1+1):=by
       rw[eO nm _ ho.1,iV h5]
      refine ei ((k+1)+1) (ai (ai rfl rfl) (ai (ai (ai rfl (ai (ai rfl rfl) (ai (ai rfl rfl) (ai (ai (ai (fun _=>rfl) (aM (by omega))) rfl) (ai (ai (ai (ai rfl rfl) rfl) (ai (ai rfl (ai rfl (ai ?_ ?_))) (ai (ai nof (ai rfl (fun _ _=>rfl))) rfl))) trivial))))) rfl) (ai (ai (iL (by omega)) trivial) (iM (by omega)))))
      ·exact congrArg List.length eN
      ·exact fun j _=>congrArg (fun l=>[cP (l.getD j 0)]) eN
     ·exact absurd (ark k) h6
    ·have hke:k+1=x.args.length:=by omega
     have eT:aD nm (bs++[40]) [32,124,32] x.op x.args (k+1)=bs++[40]++bB nm x:=by
      rw[hke,jv,hA];unfold lV;rw[if_pos h4]
     rw[if_neg (by omega)] at hpl
     have hst:=dX x.args (k+1)
     refine aS (mH) ((true,nm,aD nm (bs++[40]) [32,124,32] x.op x.args (k+1),41)) [0,4] (a4 (ai rfl rfl)) (Or.inl rfl) (by exact (ai (ai rfl rfl) (iE (by simp only[zz,reduceCtorEq];rfl)))) (by exact (ai (ai rfl (ai (ai rfl rfl) (ai rfl (ai rfl (fun _ _=>rfl))))) (ai rfl (ai rfl (ai rfl (fun _ _=>rfl)))))) ((by show (aD nm (bs++[40]) [32,124,32] x.op x.args (k+1)).length≤1000000;rw[aaH,aoW] at hpl;omega)) ?_
     have eW:aD nm (bs++[40]) [32,124,32] x.op x.args (k+1)++[41]=bs++bZ nm x out:=by
      rw[eT,hW,anr,anr];rfl
     refine ei [0,5] (ai (ai rfl (ai rfl rfl)) (ai (by exact trivial) ?_))
     refine (ai (ai rfl (ai (ai rfl rfl) (ai rfl (ai rfl (fun _ _=>rfl))))) (ai rfl (ai rfl (ai ?_ ?_))))
     ·exact congrArg List.length (eW)
     ·exact fun k _=>congrArg (fun l=>[cP (l.getD k 0)]) (eW)
  ·exact absurd hQ.1 h4
 ·exact absurd hQ.2 h3
theorem aqz (n:Nat) (ih:bV Tryz.prog 141 (pW n)):bV Tryz.prog 141 (zf (n+1) fun a=>a.st=true∧(a.x.op=3∧0≤a.out∧a.out≠4)):=by
 refine gP (Tb:=tab) mixed ay Tryz.func141 rfl rfl ?_
 rintro ⟨st,nm,bs,x,out⟩ hpre
 refine ai (ai rfl (ai rfl rfl)) ?_
 obtain ⟨hpre,hst,hQ⟩:=hpre
 obtain rfl:st=true:=hst
 obtain ⟨⟨hg,hs,hnm,hnl,hlen⟩,hn⟩:=hpre
 have hn:x.size≤n+1:=hn
 have hg:gU nm.length x:=hg
 have hs:x.size≤256:=hs
 have hnm:l7 nm:=hnm
 have hnl:nm.length≤256:=hnl
 have hlen:bs.length+110*x.size≤500000:=hlen
 have hsp:=size_pos x
 have hal:=gN x
 have hsz:=x.size_eq
 obtain ⟨hn0,hga⟩:=(fV _ _).1 hg
 obtain ⟨ho,hle,hi⟩:=dW hn0
 have hA:=fJ nm x
 have hQ:x.op=3∧0≤out∧out≠4:=hQ
 refine ah (p:=x.op=0) (bC (by omega)) (fun h0=>?_) (fun h0=>?_)
 ·exact absurd h0 (by omega)
 rw[if_neg h0] at hA
 refine ah (p:=x.op=1) (bC (by omega)) (fun h1=>?_) (fun h1=>?_)
 ·exact absurd h1 (by omega)
 rw[if_neg h1] at hA
 refine ah (p:=x.op=2) (bC (by omega)) (fun h2=>?_) (fun h2=>?_)
 ·exact absurd h2 (by omega)
 rw[if_neg h2] at hA
 have h34:¬x.op=4→x.op=3:=fun h=>by omega
 have hl2:2≤x.args.length:=by
  have:dS x.op=2:=by unfold dS;rw[if_neg h2,if_pos (by omega)]
  omega
 have hW:bZ nm x out=40 :: (bB nm x++[41]):=by
  unfold bZ ni;rw[decide_eq_true hQ.2.1,decide_eq_true hQ.1,decide_eq_true hQ.2.2];simp[nk]
 refine ah (p:=0≤out) (bX (by omega)) (fun h3=>?_) (fun h3=>?_)
 ·refine ah (p:=x.op=4) (bC (by omega)) (fun h4=>?_) (fun h4=>?_)
  ·exact absurd h4 (by omega)
  ·refine bH (p:=out=4) (bU (by omega)) (fun h5=>?_) (fun h5=>?_)
   ·refine aS (mH) ((true,nm,bs,40)) [0,1] (a4 (ai rfl rfl)) (Or.inl rfl) (by exact (ai (ai rfl rfl) (iE (by simp only[zz,reduceCtorEq];rfl)))) (by exact (ai (ai rfl (ai (ai rfl rfl) (ai rfl (ai rfl (fun _ _=>rfl))))) (ai rfl (ai rfl (ai rfl (fun _ _=>rfl)))))) ((by show bs.length≤1000000;omega)) ?_
    refine aZ (b:=false) (by exact beq_eq_false_iff_ne.2 h4) (fun h=>absurd h (by decide)) (fun _=>?_)
    refine ei (bG.inv { X:=Nat,up:=fun k=>[(71,.s (iA k))],uo:=fun k=>[⟨0,202,[.s (tQ true k),.rw 5 1 (aD nm (bs++[40]) [32,38,32] x.op x.args k).length (fun j=>[cP ((aD nm (bs++[40]) [32,38,32] x.op x.args k).getD j 0)]),.s (nH nm)]⟩],inv:=fun k=>k≤x.args.length∧(True),meas:=fun k=>x.args.length-k,x0:=0 }) ?_
    refine ai (ai (ai (by exact (a4 (ai rfl rfl))) (ai ?_ ?_)) rfl) (ai (ai (ac7 _) ?_) ?_)
    ·exact (ai (ai (fun _=>rfl) (iE (by simp only[zz,reduceCtorEq];rfl))) rfl)
    ·refine (ai (ai (ai (ai rfl rfl) rfl) (ai (ai rfl (ai rfl (ai ?_ ?_))) (ai (ai nof (ai rfl (fun _ _=>rfl))) rfl))) trivial)
     ·exact congrArg List.length (bE nm (bs++[40]) [32,38,32] x.op x.args).symm
     ·exact fun j _=>congrArg (fun l=>[cP (l.getD j 0)]) (bE nm (bs++[40]) [32,38,32] x.op x.args).symm
    ·trivial
    intro (k:Nat) ⟨hk,_⟩
    have hpl:=jw (nm:=nm) (base:=bs++[40]) (sep:=[32,38,32]) (o:=x.op) hnm rfl hk
    cases k with
    | zero=>
     have hk0:0<x.args.length:=by omega
     refine ah (p:=0<x.args.length) (ak (by dsimp only;omega)) (fun h5=>?_) (fun h5=>?_)
     ·refine ai (ai (abr _) (iN (n:=x.args.length) (by omega))) (ai rfl ?_)
      have hy:x.args.getD 0 aH∈x.args:=abv (fF hk0)
      have hms:=bT hy
      have hb0:=congrArg List.length (bE nm (bs++[40]) [32,38,32] x.op x.args)
      have hB:(bs++[40]).length≤bs.length+1:=by simp
      refine aS (ih) (⟨true,nm,aD nm (bs++[40]) [32,38,32] x.op x.args 0,x.args.getD 0 aH,x.op⟩) [0,4] (a4 (ai rfl rfl)) (Or.inl rfl) (by exact (ai (ai rfl rfl) (ai (ai (iE (by simp only[zz,reduceCtorEq])) (ai (iE (by simp only[zz,reduceCtorEq])) (ai rfl (jm _)))) rfl))) (by exact (ai (ai rfl (ai (ai rfl rfl) (ai rfl (ai rfl (fun _ _=>rfl))))) (ai rfl (ai rfl (ai rfl (fun _ _=>rfl)))))) (ai ⟨hga _ hy,by show (x.args.getD 0 aH).size≤256;omega,hnm,hnl,by show (aD nm (bs++[40]) [32,38,32] x.op x.args 0).length+110*(x.args.getD 0 aH).size≤_;omega⟩ (by show (x.args.getD 0 aH).size≤n;omega)) ?_
      have eN:aD nm (bs++[40]) [32,38,32] x.op x.args 0++bZ nm (x.args.getD 0 aH) x.op=aD nm (bs++[40]) [32,38,32] x.op x.args (0+1):=by
       rw[eO nm _ ho.1,bE,jy hk0]
      refine ei (0+1) (ai (ai rfl rfl) (ai (ai (ai rfl (ai (ai rfl rfl) (ai (ai rfl rfl) (ai (ai (ai (fun _=>rfl) (aM (by omega))) rfl) (ai (ai (ai (ai rfl rfl) rfl) (ai (ai rfl (ai rfl (ai ?_ ?_))) (ai (ai nof (ai rfl (fun _ _=>rfl))) rfl))) trivial))))) rfl) (ai (ai (iL (by omega)) trivial) (iM (by omega)))))
      ·exact congrArg List.length eN
      ·exact fun j _=>congrArg (fun l=>[cP (l.getD j 0)]) eN
     ·exact absurd hk0 h5
    | succ k=>
     refine ah (p:=k+1<x.args.length) (ak (by dsimp only;omega)) (fun h5=>?_) (fun h5=>?_)
     ·refine ai (ai (abr _) (iN (n:=x.args.length) (by omega))) (ai rfl ?_)
      have hy:x.args.getD (k+1) aH∈x.args:=abv (fF h5)
      have hms:=bT hy
      have hss:=gV h5
      have hst:=dX x.args (k+1+1)
      have hB:(bs++[40]).length≤bs.length+1:=by simp
      rw[if_neg (by omega)] at hpl
      refine ah (p:=0<k+1) (ak (by omega)) (fun h6=>?_) (fun h6=>?_)
      ·refine aS (kC) ((true,nm,aD nm (bs++[40]) [32,38,32] x.op x.args (k+1),[32,38,32])) [0,4] (a4 (ai rfl rfl)) (Or.inl rfl) (by exact (ai (ai rfl rfl) rfl)) (by exact (ai (ai rfl (ai (ai rfl rfl) (ai rfl (ai rfl (fun _ _=>rfl))))) (ai rfl (ai rfl (ai rfl (fun _ _=>rfl)))))) (⟨by show (aD nm (bs++[40]) [32,38,32] x.op x.args (k+1)).length≤1000000;omega,by show ([32,38,32]:List UInt8).length≤1000000;simp⟩) ?_
       refine aS (ih) (⟨true,nm,aD nm (bs++[40]) [32,38,32] x.op x.args (k+1)++[32,38,32],x.args.getD (k+1) aH,x.op⟩) [0,6] (a4 (ai rfl rfl)) (Or.inl rfl) (by exact (ai (ai rfl rfl) (ai (ai (iE (by simp only[zz,reduceCtorEq])) (ai (iE (by simp only[zz,reduceCtorEq])) (ai rfl (jm _)))) rfl))) (by exact (ai (ai rfl (ai (ai rfl rfl) (ai rfl (ai rfl (fun _ _=>rfl))))) (ai rfl (ai rfl (ai rfl (fun _ _=>rfl)))))) (ai ⟨hga _ hy,by show (x.args.getD (k+1) aH).size≤256;omega,hnm,hnl,by show (aD nm (bs++[40]) [32,38,32] x.op x.args (k+1)++[32,38,32]).length+110*(x.args.getD (k+1) aH).size≤_;rw[aaH];show (aD nm (bs++[40]) [32,38,32] x.op x.args (k+1)).length+3+110*(x.args.getD (k+1) aH).size≤_;omega⟩ (by show (x.args.getD (k+1) aH).size≤n;omega)) ?_
       have eN:aD nm (bs++[40]) [32,38,32] x.op x.args (k+1)++[32,38,32]++bZ nm (x.args.getD (k+1) aH) x.op=aD nm (bs++[40]) [32,38,32] x.op x.args (k+1+1):=by
        rw[eO nm _ ho.1,iV h5]
       refine ei ((k+1)+1) (ai (ai rfl rfl) (ai (ai (ai rfl (ai (ai rfl rfl) (ai (ai rfl rfl) (ai (ai (ai (fun _=>rfl) (aM (by omega))) rfl) (ai (ai (ai (ai rfl rfl) rfl) (ai (ai rfl (ai rfl (ai ?_ ?_))) (ai (ai nof (ai rfl (fun _ _=>rfl))) rfl))) trivial))))) rfl) (ai (ai (iL (by omega)) trivial) (iM (by omega)))))
       ·exact congrArg List.length eN
       ·exact fun j _=>congrArg (fun l=>[cP (l.getD j 0)]) eN
      ·exact absurd (ark k) h6
     ·have hke:k+1=x.args.length:=by omega
      have eT:aD nm (bs++[40]) [32,38,32] x.op x.args (k+1)=bs++[40]++bB nm x:=by
       rw[hke,jv,hA];unfold lV;rw[if_neg h4]
      rw[if_neg (by omega)] at hpl
      refine aZ (b:=true) (by exact bne_iff_ne.2 hQ.2.2) (fun _=>?_) (fun h=>absurd h (by decide))
      have hst:=dX x.args (k+1)
      refine aS (mH) ((true,nm,aD nm (bs++[40]) [32,38,32] x.op x.args (k+1),41)) [0,4] (a4 (ai rfl rfl)) (Or.inl rfl) (by exact (ai (ai rfl rfl) (iE (by simp only[zz,reduceCtorEq];rfl)))) (by exact (ai (ai rfl (ai (ai rfl rfl) (ai rfl (ai rfl (fun _ _=>rfl))))) (ai rfl (ai rfl (ai rfl (fun _ _=>rfl)))))) ((by show (aD nm (bs++[40]) [32,38,32] x.op x.args (k+1)).length≤1000000;rw[aaH,aoW] at hpl;omega)) ?_
      have eW:aD nm (bs++[40]) [32,38,32] x.op x.args (k+1)++[41]=bs++bZ nm x out:=by
       rw[eT,hW,anr,anr];rfl
      refine ei [0,5] (ai (ai rfl (ai rfl rfl)) (ai (by exact trivial) ?_))
      refine (ai (ai rfl (ai (ai rfl rfl) (ai rfl (ai rfl (fun _ _=>rfl))))) (ai rfl (ai rfl (ai ?_ ?_))))
      ·exact congrArg List.length (eW)
      ·exact fun k _=>congrArg (fun l=>[cP (l.getD k 0)]) (eW)
   ·exact absurd h5 hQ.2.2
 ·exact absurd hQ.2.1 h3
theorem aqX (n:Nat) (ih:bV Tryz.prog 141 (pW n)):bV Tryz.prog 141 (zf (n+1) fun a=>a.st=true∧(a.x.op=4∧a.out<0)):=by
 refine gP (Tb:=tab) mixed ay Tryz.func141 rfl rfl ?_
 rintro ⟨st,nm,bs,x,out⟩ hpre
 refine ai (ai rfl (ai rfl rfl)) ?_
 obtain ⟨hpre,hst,hQ⟩:=hpre
 obtain rfl:st=true:=hst
 obtain ⟨⟨hg,hs,hnm,hnl,hlen⟩,hn⟩:=hpre
 have hn:x.size≤n+1:=hn
 have hg:gU nm.length x:=hg
 have hs:x.size≤256:=hs
 have hnm:l7 nm:=hnm
 have hnl:nm.length≤256:=hnl
 have hlen:bs.length+110*x.size≤500000:=hlen
 have hsp:=size_pos x
 have hal:=gN x
 have hsz:=x.size_eq
 obtain ⟨hn0,hga⟩:=(fV _ _).1 hg
 obtain ⟨ho,hle,hi⟩:=dW hn0
 have hA:=fJ nm x
 have hQ:x.op=4∧out<0:=hQ
 refine ah (p:=x.op=0) (bC (by omega)) (fun h0=>?_) (fun h0=>?_)
 ·exact absurd h0 (by omega)
 rw[if_neg h0] at hA
 refine ah (p:=x.op=1) (bC (by omega)) (fun h1=>?_) (fun h1=>?_)
 ·exact absurd h1 (by omega)
 rw[if_neg h1] at hA
 refine ah (p:=x.op=2) (bC (by omega)) (fun h2=>?_) (fun h2=>?_)
 ·exact absurd h2 (by omega)
 rw[if_neg h2] at hA
 have h34:¬x.op=4→x.op=3:=fun h=>by omega
 have hl2:2≤x.args.length:=by
  have:dS x.op=2:=by unfold dS;rw[if_neg h2,if_pos (by omega)]
  omega
 have hW:bZ nm x out=bB nm x:=by
  unfold bZ ni;rw[decide_eq_false (show ¬0≤out by omega)];simp[nk]
 refine ah (p:=0≤out) (bX (by omega)) (fun h3=>?_) (fun h3=>?_)
 ·exact absurd h3 (by omega)
 refine ah (p:=x.op=4) (bC (by omega)) (fun h4=>?_) (fun h4=>?_)
 ·refine ei (bG.inv { X:=Nat,up:=fun k=>[(71,.s (iA k))],uo:=fun k=>[⟨0,202,[.s (tQ true k),.rw 5 1 (aD nm (bs) [32,124,32] x.op x.args k).length (fun j=>[cP ((aD nm (bs) [32,124,32] x.op x.args k).getD j 0)]),.s (nH nm)]⟩],inv:=fun k=>k≤x.args.length∧(True),meas:=fun k=>x.args.length-k,x0:=0 }) ?_
  refine ai (ai (ai (by exact (a4 (ai rfl rfl))) (ai ?_ ?_)) rfl) (ai (ai (ac7 _) ?_) ?_)
  ·exact (ai (ai (fun _=>rfl) (iE (by simp only[zz,reduceCtorEq];rfl))) rfl)
  ·refine (ai (ai (ai (ai rfl rfl) rfl) (ai (ai rfl (ai rfl (ai ?_ ?_))) (ai (ai nof (ai rfl (fun _ _=>rfl))) rfl))) trivial)
   ·exact congrArg List.length (bE nm (bs) [32,124,32] x.op x.args).symm
   ·exact fun j _=>congrArg (fun l=>[cP (l.getD j 0)]) (bE nm (bs) [32,124,32] x.op x.args).symm
  ·trivial
  intro (k:Nat) ⟨hk,_⟩
  have hpl:=jw (nm:=nm) (base:=bs) (sep:=[32,124,32]) (o:=x.op) hnm rfl hk
  cases k with
  | zero=>
   have hk0:0<x.args.length:=by omega
   refine ah (p:=0<x.args.length) (ak (by dsimp only;omega)) (fun h5=>?_) (fun h5=>?_)
   ·refine ai (ai (abr _) (iN (n:=x.args.length) (by omega))) (ai rfl ?_)
    have hy:x.args.getD 0 aH∈x.args:=abv (fF hk0)
    have hms:=bT hy
    have hb0:=congrArg List.length (bE nm (bs) [32,124,32] x.op x.args)
    have hB:(bs).length≤bs.length+1:=by simp
    refine aS (ih) (⟨true,nm,aD nm (bs) [32,124,32] x.op x.args 0,x.args.getD 0 aH,x.op⟩) [0,3] (a4 (ai rfl rfl)) (Or.inl rfl) (by exact (ai (ai rfl rfl) (ai (ai (iE (by simp only[zz,reduceCtorEq])) (ai (iE (by simp only[zz,reduceCtorEq])) (ai rfl (jm _)))) rfl))) (by exact (ai (ai rfl (ai (ai rfl rfl) (ai rfl (ai rfl (fun _ _=>rfl))))) (ai rfl (ai rfl (ai rfl (fun _ _=>rfl)))))) (ai ⟨hga _ hy,by show (x.args.getD 0 aH).size≤256;omega,hnm,hnl,by show (aD nm (bs) [32,124,32] x.op x.args 0).length+110*(x.args.getD 0 aH).size≤_;omega⟩ (by show (x.args.getD 0 aH).size≤n;omega)) ?_
    have eN:aD nm (bs) [32,124,32] x.op x.args 0++bZ nm (x.args.getD 0 aH) x.op=aD nm (bs) [32,124,32] x.op x.args (0+1):=by
     rw[eO nm _ ho.1,bE,jy hk0]
    refine ei (0+1) (ai (ai rfl rfl) (ai (ai (ai rfl (ai (ai rfl rfl) (ai (ai rfl rfl) (ai (ai (ai (fun _=>rfl) (aM (by omega))) rfl) (ai (ai (ai (ai rfl rfl) rfl) (ai (ai rfl (ai rfl (ai ?_ ?_))) (ai (ai nof (ai rfl (fun _ _=>rfl))) rfl))) trivial))))) rfl) (ai (ai (iL (by omega)) trivial) (iM (by omega)))))
    ·exact congrArg List.length eN
    ·exact fun j _=>congrArg (fun l=>[cP (l.getD j 0)]) eN
   ·exact absurd hk0 h5
  | succ k=>
   refine ah (p:=k+1<x.args.length) (ak (by dsimp only;omega)) (fun h5=>?_) (fun h5=>?_)
   ·refine ai (ai (abr _) (iN (n:=x.args.length) (by omega))) (ai rfl ?_)
    have hy:x.args.getD (k+1) aH∈x.args:=abv (fF h5)
    have hms:=bT hy
    have hss:=gV h5
    have hst:=dX x.args (k+1+1)
    have hB:(bs).length≤bs.length+1:=by simp
    rw[if_neg (by omega)] at hpl
    refine ah (p:=0<k+1) (ak (by omega)) (fun h6=>?_) (fun h6=>?_)
    ·refine aS (kC) ((true,nm,aD nm (bs) [32,124,32] x.op x.args (k+1),[32,124,32])) [0,3] (a4 (ai rfl rfl)) (Or.inl rfl) (by exact (ai (ai rfl rfl) rfl)) (by exact (ai (ai rfl (ai (ai rfl rfl) (ai rfl (ai rfl (fun _ _=>rfl))))) (ai rfl (ai rfl (ai rfl (fun _ _=>rfl)))))) (⟨by show (aD nm (bs) [32,124,32] x.op x.args (k+1)).length≤1000000;omega,by show ([32,124,32]:List UInt8).length≤1000000;simp⟩) ?_
     refine aS (ih) (⟨true,nm,aD nm (bs) [32,124,32] x.op x.args (k+1)++[32,124,32],x.args.getD (k+1) aH,x.op⟩) [0,5] (a4 (ai rfl rfl)) (Or.inl rfl) (by exact (ai (ai rfl rfl) (ai (ai (iE (by simp only[zz,reduceCtorEq])) (ai (iE (by simp only[zz,reduceCtorEq])) (ai rfl (jm _)))) rfl))) (by exact (ai (ai rfl (ai (ai rfl rfl) (ai rfl (ai rfl (fun _ _=>rfl))))) (ai rfl (ai rfl (ai rfl (fun _ _=>rfl)))))) (ai ⟨hga _ hy,by show (x.args.getD (k+1) aH).size≤256;omega,hnm,hnl,by show (aD nm (bs) [32,124,32] x.op x.args (k+1)++[32,124,32]).length+110*(x.args.getD (k+1) aH).size≤_;rw[aaH];show (aD nm (bs) [32,124,32] x.op x.args (k+1)).length+3+110*(x.args.getD (k+1) aH).size≤_;omega⟩ (by show (x.args.getD (k+1) aH).size≤n;omega)) ?_
     have eN:aD nm (bs) [32,124,32] x.op x.args (k+1)++[32,124,32]++bZ nm (x.args.getD (k+1) aH) x.op=aD nm (bs) [32,124,32] x.op x.args (k+1+1):=by
      rw[eO nm _ ho.1,iV h5]
     refine ei ((k+1)+1) (ai (ai rfl rfl) (ai (ai (ai rfl (ai (ai rfl rfl) (ai (ai rfl rfl) (ai (ai (ai (fun _=>rfl) (aM (by omega))) rfl) (ai (ai (ai (ai rfl rfl) rfl) (ai (ai rfl (ai rfl (ai ?_ ?_))) (ai (ai nof (ai rfl (fun _ _=>rfl))) rfl))) trivial))))) rfl) (ai (ai (iL (by omega)) trivial) (iM (by omega)))))
     ·exact congrArg List.length eN
     ·exact fun j _=>congrArg (fun l=>[cP (l.getD j 0)]) eN
    ·exact absurd (ark k) h6
   ·have hke:k+1=x.args.length:=by omega
    have eT:aD nm (bs) [32,124,32] x.op x.args (k+1)=bs++bB nm x:=by
     rw[hke,jv,hA];unfold lV;rw[if_pos h4]
    refine ei [0,3] (ai (ai rfl (ai rfl rfl)) (ai (by exact trivial) ?_))
    refine (ai (ai rfl (ai (ai rfl rfl) (ai rfl (ai rfl (fun _ _=>rfl))))) (ai rfl (ai rfl (ai ?_ ?_))))
    ·exact congrArg List.length (eT.trans (congrArg (fun t=>bs++t) hW.symm))
    ·exact fun k _=>congrArg (fun l=>[cP (l.getD k 0)]) (eT.trans (congrArg (fun t=>bs++t) hW.symm))
 ·exact absurd hQ.1 h4
theorem aqU (n:Nat) (ih:bV Tryz.prog 141 (pW n)):bV Tryz.prog 141 (zf (n+1) fun a=>a.st=true∧(a.x.op=3∧a.out<0)):=by
 refine gP (Tb:=tab) mixed ay Tryz.func141 rfl rfl ?_
 rintro ⟨st,nm,bs,x,out⟩ hpre
 refine ai (ai rfl (ai rfl rfl)) ?_
 obtain ⟨hpre,hst,hQ⟩:=hpre
 obtain rfl:st=true:=hst
 obtain ⟨⟨hg,hs,hnm,hnl,hlen⟩,hn⟩:=hpre
 have hn:x.size≤n+1:=hn
 have hg:gU nm.length x:=hg
 have hs:x.size≤256:=hs
 have hnm:l7 nm:=hnm
 have hnl:nm.length≤256:=hnl
 have hlen:bs.length+110*x.size≤500000:=hlen
 have hsp:=size_pos x
 have hal:=gN x
 have hsz:=x.size_eq
 obtain ⟨hn0,hga⟩:=(fV _ _).1 hg
 obtain ⟨ho,hle,hi⟩:=dW hn0
 have hA:=fJ nm x
 have hQ:x.op=3∧out<0:=hQ
 refine ah (p:=x.op=0) (bC (by omega)) (fun h0=>?_) (fun h0=>?_)
 ·exact absurd h0 (by omega)
 rw[if_neg h0] at hA
 refine ah (p:=x.op=1) (bC (by omega)) (fun h1=>?_) (fun h1=>?_)
 ·exact absurd h1 (by omega)
 rw[if_neg h1] at hA
 refine ah (p:=x.op=2) (bC (by omega)) (fun h2=>?_) (fun h2=>?_)
 ·exact absurd h2 (by omega)
 rw[if_neg h2] at hA
 have h34:¬x.op=4→x.op=3:=fun h=>by omega
 have hl2:2≤x.args.length:=by
  have:dS x.op=2:=by unfold dS;rw[if_neg h2,if_pos (by omega)]
  omega
 have hW:bZ nm x out=bB nm x:=by
  unfold bZ ni;rw[decide_eq_false (show ¬0≤out by omega)];simp[nk]
 refine ah (p:=0≤out) (bX (by omega)) (fun h3=>?_) (fun h3=>?_)
 ·exact absurd h3 (by omega)
 refine ah (p:=x.op=4) (bC (by omega)) (fun h4=>?_) (fun h4=>?_)
 ·exact absurd h4 (by omega)
 ·refine ei (bG.inv { X:=Nat,up:=fun k=>[(71,.s (iA k))],uo:=fun k=>[⟨0,202,[.s (tQ true k),.rw 5 1 (aD nm (bs) [32,38,32] x.op x.args k).length (fun j=>[cP ((aD nm (bs) [32,38,32] x.op x.args k).getD j 0)]),.s (nH nm)]⟩],inv:=fun k=>k≤x.args.length∧(True),meas:=fun k=>x.args.length-k,x0:=0 }) ?_
  refine ai (ai (ai (by exact (a4 (ai rfl rfl))) (ai ?_ ?_)) rfl) (ai (ai (ac7 _) ?_) ?_)
  ·exact (ai (ai (fun _=>rfl) (iE (by simp only[zz,reduceCtorEq];rfl))) rfl)
  ·refine (ai (ai (ai (ai rfl rfl) rfl) (ai (ai rfl (ai rfl (ai ?_ ?_))) (ai (ai nof (ai rfl (fun _ _=>rfl))) rfl))) trivial)
   ·exact congrArg List.length (bE nm (bs) [32,38,32] x.op x.args).symm
   ·exact fun j _=>congrArg (fun l=>[cP (l.getD j 0)]) (bE nm (bs) [32,38,32] x.op x.args).symm
  ·trivial
  intro (k:Nat) ⟨hk,_⟩
  have hpl:=jw (nm:=nm) (base:=bs) (sep:=[32,38,32]) (o:=x.op) hnm rfl hk
  cases k with
  | zero=>
   have hk0:0<x.args.length:=by omega
   refine ah (p:=0<x.args.length) (ak (by dsimp only;omega)) (fun h5=>?_) (fun h5=>?_)
   ·refine ai (ai (abr _) (iN (n:=x.args.length) (by omega))) (ai rfl ?_)
    have hy:x.args.getD 0 aH∈x.args:=abv (fF hk0)
    have hms:=bT hy
    have hb0:=congrArg List.length (bE nm (bs) [32,38,32] x.op x.args)
    have hB:(bs).length≤bs.length+1:=by simp
    refine aS (ih) (⟨true,nm,aD nm (bs) [32,38,32] x.op x.args 0,x.args.getD 0 aH,x.op⟩) [0,3] (a4 (ai rfl rfl)) (Or.inl rfl) (by exact (ai (ai rfl rfl) (ai (ai (iE (by simp only[zz,reduceCtorEq])) (ai (iE (by simp only[zz,reduceCtorEq])) (ai rfl (jm _)))) rfl))) (by exact (ai (ai rfl (ai (ai rfl rfl) (ai rfl (ai rfl (fun _ _=>rfl))))) (ai rfl (ai rfl (ai rfl (fun _ _=>rfl)))))) (ai ⟨hga _ hy,by show (x.args.getD 0 aH).size≤256;omega,hnm,hnl,by show (aD nm (bs) [32,38,32] x.op x.args 0).length+110*(x.args.getD 0 aH).size≤_;omega⟩ (by show (x.args.getD 0 aH).size≤n;omega)) ?_
    have eN:aD nm (bs) [32,38,32] x.op x.args 0++bZ nm (x.args.getD 0 aH) x.op=aD nm (bs) [32,38,32] x.op x.args (0+1):=by
     rw[eO nm _ ho.1,bE,jy hk0]
    refine ei (0+1) (ai (ai rfl rfl) (ai (ai (ai rfl (ai (ai rfl rfl) (ai (ai rfl rfl) (ai (ai (ai (fun _=>rfl) (aM (by omega))) rfl) (ai (ai (ai (ai rfl rfl) rfl) (ai (ai rfl (ai rfl (ai ?_ ?_))) (ai (ai nof (ai rfl (fun _ _=>rfl))) rfl))) trivial))))) rfl) (ai (ai (iL (by omega)) trivial) (iM (by omega)))))
    ·exact congrArg List.length eN
    ·exact fun j _=>congrArg (fun l=>[cP (l.getD j 0)]) eN
   ·exact absurd hk0 h5
  | succ k=>
   refine ah (p:=k+1<x.args.length) (ak (by dsimp only;omega)) (fun h5=>?_) (fun h5=>?_)
   ·refine ai (ai (abr _) (iN (n:=x.args.length) (by omega))) (ai rfl ?_)
    have hy:x.args.getD (k+1) aH∈x.args:=abv (fF h5)
    have hms:=bT hy
    have hss:=gV h5
    have hst:=dX x.args (k+1+1)
    have hB:(bs).length≤bs.length+1:=by simp
    rw[if_neg (by omega)] at hpl
    refine ah (p:=0<k+1) (ak (by omega)) (fun h6=>?_) (fun h6=>?_)
    ·refine aS (kC) ((true,nm,aD nm (bs) [32,38,32] x.op x.args (k+1),[32,38,32])) [0,3] (a4 (ai rfl rfl)) (Or.inl rfl) (by exact (ai (ai rfl rfl) rfl)) (by exact (ai (ai rfl (ai (ai rfl rfl) (ai rfl (ai rfl (fun _ _=>rfl))))) (ai rfl (ai rfl (ai rfl (fun _ _=>rfl)))))) (⟨by show (aD nm (bs) [32,38,32] x.op x.args (k+1)).length≤1000000;omega,by show ([32,38,32]:List UInt8).length≤1000000;simp⟩) ?_
     refine aS (ih) (⟨true,nm,aD nm (bs) [32,38,32] x.op x.args (k+1)++[32,38,32],x.args.getD (k+1) aH,x.op⟩) [0,5] (a4 (ai rfl rfl)) (Or.inl rfl) (by exact (ai (ai rfl rfl) (ai (ai (iE (by simp only[zz,reduceCtorEq])) (ai (iE (by simp only[zz,reduceCtorEq])) (ai rfl (jm _)))) rfl))) (by exact (ai (ai rfl (ai (ai rfl rfl) (ai rfl (ai rfl (fun _ _=>rfl))))) (ai rfl (ai rfl (ai rfl (fun _ _=>rfl)))))) (ai ⟨hga _ hy,by show (x.args.getD (k+1) aH).size≤256;omega,hnm,hnl,by show (aD nm (bs) [32,38,32] x.op x.args (k+1)++[32,38,32]).length+110*(x.args.getD (k+1) aH).size≤_;rw[aaH];show (aD nm (bs) [32,38,32] x.op x.args (k+1)).length+3+110*(x.args.getD (k+1) aH).size≤_;omega⟩ (by show (x.args.getD (k+1) aH).size≤n;omega)) ?_
     have eN:aD nm (bs) [32,38,32] x.op x.args (k+1)++[32,38,32]++bZ nm (x.args.getD (k+1) aH) x.op=aD nm (bs) [32,38,32] x.op x.args (k+1+1):=by
      rw[eO nm _ ho.1,iV h5]
     refine ei ((k+1)+1) (ai (ai rfl rfl) (ai (ai (ai rfl (ai (ai rfl rfl) (ai (ai rfl rfl) (ai (ai (ai (fun _=>rfl) (aM (by omega))) rfl) (ai (ai (ai (ai rfl rfl) rfl) (ai (ai rfl (ai rfl (ai ?_ ?_))) (ai (ai nof (ai rfl (fun _ _=>rfl))) rfl))) trivial))))) rfl) (ai (ai (iL (by omega)) trivial) (iM (by omega)))))
     ·exact congrArg List.length eN
     ·exact fun j _=>congrArg (fun l=>[cP (l.getD j 0)]) eN
    ·exact absurd (ark k) h6
   ·have hke:k+1=x.args.length:=by omega
    have eT:aD nm (bs) [32,38,32] x.op x.args (k+1)=bs++bB nm x:=by
     rw[hke,jv,hA];unfold lV;rw[if_neg h4]
    refine ei [0,3] (ai (ai rfl (ai rfl rfl)) (ai (by exact trivial) ?_))
    refine (ai (ai rfl (ai (ai rfl rfl) (ai rfl (ai rfl (fun _ _=>rfl))))) (ai rfl (ai rfl (ai ?_ ?_))))
    ·exact congrArg List.length (eT.trans (congrArg (fun t=>bs++t) hW.symm))
    ·exact fun k _=>congrArg (fun l=>[cP (l.getD k 0)]) (eT.trans (congrArg (fun t=>bs++t) hW.symm))
theorem aqJ (n:Nat) (ih:bV Tryz.prog 141 (pW n)):bV Tryz.prog 141 (zf (n+1) fun a=>a.st=true∧(a.x.op=3∧a.out=4)):=by
 refine gP (Tb:=tab) mixed ay Tryz.func141 rfl rfl ?_
 rintro ⟨st,nm,bs,x,out⟩ hpre
 refine ai (ai rfl (ai rfl rfl)) ?_
 obtain ⟨hpre,hst,hQ⟩:=hpre
 obtain rfl:st=true:=hst
 obtain ⟨⟨hg,hs,hnm,hnl,hlen⟩,hn⟩:=hpre
 have hn:x.size≤n+1:=hn
 have hg:gU nm.length x:=hg
 have hs:x.size≤256:=hs
 have hnm:l7 nm:=hnm
 have hnl:nm.length≤256:=hnl
 have hlen:bs.length+110*x.size≤500000:=hlen
 have hsp:=size_pos x
 have hal:=gN x
 have hsz:=x.size_eq
 obtain ⟨hn0,hga⟩:=(fV _ _).1 hg
 obtain ⟨ho,hle,hi⟩:=dW hn0
 have hA:=fJ nm x
 have hQ:x.op=3∧out=4:=hQ
 refine ah (p:=x.op=0) (bC (by omega)) (fun h0=>?_) (fun h0=>?_)
 ·exact absurd h0 (by omega)
 rw[if_neg h0] at hA
 refine ah (p:=x.op=1) (bC (by omega)) (fun h1=>?_) (fun h1=>?_)
 ·exact absurd h1 (by omega)
 rw[if_neg h1] at hA
 refine ah (p:=x.op=2) (bC (by omega)) (fun h2=>?_) (fun h2=>?_)
 ·exact absurd h2 (by omega)
 rw[if_neg h2] at hA
 have h34:¬x.op=4→x.op=3:=fun h=>by omega
 have hl2:2≤x.args.length:=by
  have:dS x.op=2:=by unfold dS;rw[if_neg h2,if_pos (by omega)]
  omega
 have hW:bZ nm x out=bB nm x:=by
  unfold bZ ni;rw[hQ.1,hQ.2];simp[nk]
 refine ah (p:=0≤out) (bX (by omega)) (fun h3=>?_) (fun h3=>?_)
 ·refine ah (p:=x.op=4) (bC (by omega)) (fun h4=>?_) (fun h4=>?_)
  ·exact absurd h4 (by omega)
  ·refine bH (p:=out=4) (bU (by omega)) (fun h5=>?_) (fun h5=>?_)
   ·exact absurd hQ.2 h5
   ·refine aZ (b:=false) (by exact beq_eq_false_iff_ne.2 h4) (fun h=>absurd h (by decide)) (fun _=>?_)
    refine ei (bG.inv { X:=Nat,up:=fun k=>[(71,.s (iA k))],uo:=fun k=>[⟨0,202,[.s (tQ true k),.rw 5 1 (aD nm (bs) [32,38,32] x.op x.args k).length (fun j=>[cP ((aD nm (bs) [32,38,32] x.op x.args k).getD j 0)]),.s (nH nm)]⟩],inv:=fun k=>k≤x.args.length∧(True),meas:=fun k=>x.args.length-k,x0:=0 }) ?_
    refine ai (ai (ai (by exact (a4 (ai rfl rfl))) (ai ?_ ?_)) rfl) (ai (ai (ac7 _) ?_) ?_)
    ·exact (ai (ai (fun _=>rfl) (iE (by simp only[zz,reduceCtorEq];rfl))) rfl)
    ·refine (ai (ai (ai (ai rfl rfl) rfl) (ai (ai rfl (ai rfl (ai ?_ ?_))) (ai (ai nof (ai rfl (fun _ _=>rfl))) rfl))) trivial)
     ·exact congrArg List.length (bE nm (bs) [32,38,32] x.op x.args).symm
     ·exact fun j _=>congrArg (fun l=>[cP (l.getD j 0)]) (bE nm (bs) [32,38,32] x.op x.args).symm
    ·trivial
    intro (k:Nat) ⟨hk,_⟩
    have hpl:=jw (nm:=nm) (base:=bs) (sep:=[32,38,32]) (o:=x.op) hnm rfl hk
    cases k with
    | zero=>
     have hk0:0<x.args.length:=by omega
     refine ah (p:=0<x.args.length) (ak (by dsimp only;omega)) (fun h5=>?_) (fun h5=>?_)
     ·refine ai (ai (abr _) (iN (n:=x.args.length) (by omega))) (ai rfl ?_)
      have hy:x.args.getD 0 aH∈x.args:=abv (fF hk0)
      have hms:=bT hy
      have hb0:=congrArg List.length (bE nm (bs) [32,38,32] x.op x.args)
      have hB:(bs).length≤bs.length+1:=by simp
      refine aS (ih) (⟨true,nm,aD nm (bs) [32,38,32] x.op x.args 0,x.args.getD 0 aH,x.op⟩) [0,3] (a4 (ai rfl rfl)) (Or.inl rfl) (by exact (ai (ai rfl rfl) (ai (ai (iE (by simp only[zz,reduceCtorEq])) (ai (iE (by simp only[zz,reduceCtorEq])) (ai rfl (jm _)))) rfl))) (by exact (ai (ai rfl (ai (ai rfl rfl) (ai rfl (ai rfl (fun _ _=>rfl))))) (ai rfl (ai rfl (ai rfl (fun _ _=>rfl)))))) (ai ⟨hga _ hy,by show (x.args.getD 0 aH).size≤256;omega,hnm,hnl,by show (aD nm (bs) [32,38,32] x.op x.args 0).length+110*(x.args.getD 0 aH).size≤_;omega⟩ (by show (x.args.getD 0 aH).size≤n;omega)) ?_
      have eN:aD nm (bs) [32,38,32] x.op x.args 0++bZ nm (x.args.getD 0 aH) x.op=aD nm (bs) [32,38,32] x.op x.args (0+1):=by
       rw[eO nm _ ho.1,bE,jy hk0]
      refine ei (0+1) (ai (ai rfl rfl) (ai (ai (ai rfl (ai (ai rfl rfl) (ai (ai rfl rfl) (ai (ai (ai (fun _=>rfl) (aM (by omega))) rfl) (ai (ai (ai (ai rfl rfl) rfl) (ai (ai rfl (ai rfl (ai ?_ ?_))) (ai (ai nof (ai rfl (fun _ _=>rfl))) rfl))) trivial))))) rfl) (ai (ai (iL (by omega)) trivial) (iM (by omega)))))
      ·exact congrArg List.length eN
      ·exact fun j _=>congrArg (fun l=>[cP (l.getD j 0)]) eN
     ·exact absurd hk0 h5
    | succ k=>
     refine ah (p:=k+1<x.args.length) (ak (by dsimp only;omega)) (fun h5=>?_) (fun h5=>?_)
     ·refine ai (ai (abr _) (iN (n:=x.args.length) (by omega))) (ai rfl ?_)
      have hy:x.args.getD (k+1) aH∈x.args:=abv (fF h5)
      have hms:=bT hy
      have hss:=gV h5
      have hst:=dX x.args (k+1+1)
      have hB:(bs).length≤bs.length+1:=by simp
      rw[if_neg (by omega)] at hpl
      refine ah (p:=0<k+1) (ak (by omega)) (fun h6=>?_) (fun h6=>?_)
      ·refine aS (kC) ((true,nm,aD nm (bs) [32,38,32] x.op x.args (k+1),[32,38,32])) [0,3] (a4 (ai rfl rfl)) (Or.inl rfl) (by exact (ai (ai rfl rfl) rfl)) (by exact (ai (ai rfl (ai (ai rfl rfl) (ai rfl (ai rfl (fun _ _=>rfl))))) (ai rfl (ai rfl (ai rfl (fun _ _=>rfl)))))) (⟨by show (aD nm (bs) [32,38,32] x.op x.args (k+1)).length≤1000000;omega,by show ([32,38,32]:List UInt8).length≤1000000;simp⟩) ?_
       refine aS (ih) (⟨true,nm,aD nm (bs) [32,38,32] x.op x.args (k+1)++[32,38,32],x.args.getD (k+1) aH,x.op⟩) [0,5] (a4 (ai rfl rfl)) (Or.inl rfl) (by exact (ai (ai rfl rfl) (ai (ai (iE (by simp only[zz,reduceCtorEq])) (ai (iE (by simp only[zz,reduceCtorEq])) (ai rfl (jm _)))) rfl))) (by exact (ai (ai rfl (ai (ai rfl rfl) (ai rfl (ai rfl (fun _ _=>rfl))))) (ai rfl (ai rfl (ai rfl (fun _ _=>rfl)))))) (ai ⟨hga _ hy,by show (x.args.getD (k+1) aH).size≤256;omega,hnm,hnl,by show (aD nm (bs) [32,38,32] x.op x.args (k+1)++[32,38,32]).length+110*(x.args.getD (k+1) aH).size≤_;rw[aaH];show (aD nm (bs) [32,38,32] x.op x.args (k+1)).length+3+110*(x.args.getD (k+1) aH).size≤_;omega⟩ (by show (x.args.getD (k+1) aH).size≤n;omega)) ?_
       have eN:aD nm (bs) [32,38,32] x.op x.args (k+1)++[32,38,32]++bZ nm (x.args.getD (k+1) aH) x.op=aD nm (bs) [32,38,32] x.op x.args (k+1+1):=by
        rw[eO nm _ ho.1,iV h5]
       refine ei ((k+1)+1) (ai (ai rfl rfl) (ai (ai (ai rfl (ai (ai rfl rfl) (ai (ai rfl rfl) (ai (ai (ai (fun _=>rfl) (aM (by omega))) rfl) (ai (ai (ai (ai rfl rfl) rfl) (ai (ai rfl (ai rfl (ai ?_ ?_))) (ai (ai nof (ai rfl (fun _ _=>rfl))) rfl))) trivial))))) rfl) (ai (ai (iL (by omega)) trivial) (iM (by omega)))))
       ·exact congrArg List.length eN
       ·exact fun j _=>congrArg (fun l=>[cP (l.getD j 0)]) eN
      ·exact absurd (ark k) h6
     ·have hke:k+1=x.args.length:=by omega
      have eT:aD nm (bs) [32,38,32] x.op x.args (k+1)=bs++bB nm x:=by
       rw[hke,jv,hA];unfold lV;rw[if_neg h4]
      refine aZ (b:=false) (by exact bne_eq_false_iff_eq.2 hQ.2) (fun h=>absurd h (by decide)) (fun _=>?_)
      refine ei [0,3] (ai (ai rfl (ai rfl rfl)) (ai (by exact trivial) ?_))
      refine (ai (ai rfl (ai (ai rfl rfl) (ai rfl (ai rfl (fun _ _=>rfl))))) (ai rfl (ai rfl (ai ?_ ?_))))
      ·exact congrArg List.length (eT.trans (congrArg (fun t=>bs++t) hW.symm))
      ·exact fun k _=>congrArg (fun l=>[cP (l.getD k 0)]) (eT.trans (congrArg (fun t=>bs++t) hW.symm))
 ·exact absurd h3 (by omega)
theorem aro (n:Nat) (ih:bV Tryz.prog 141 (pW n)):bV Tryz.prog 141 (zf (n+1) fun a=>a.st=false∧a.x.op≤2):=by
 refine gP (Tb:=tab) mixed ay Tryz.func141 rfl rfl ?_
 rintro ⟨st,nm,bs,x,out⟩ hpre
 refine ai (ai rfl (ai rfl rfl)) ?_
 obtain ⟨hpre,hst,hQ⟩:=hpre
 obtain rfl:st=false:=hst
 obtain ⟨⟨hg,hs,hnm,hnl,hlen⟩,hn⟩:=hpre
 have hn:x.size≤n+1:=hn
 have hg:gU nm.length x:=hg
 have hs:x.size≤256:=hs
 have hnm:l7 nm:=hnm
 have hnl:nm.length≤256:=hnl
 have hlen:bs.length+110*x.size≤500000:=hlen
 have hsp:=size_pos x
 have hal:=gN x
 have hsz:=x.size_eq
 obtain ⟨hn0,hga⟩:=(fV _ _).1 hg
 obtain ⟨ho,hle,hi⟩:=dW hn0
 have hA:=fJ nm x
 refine ah (p:=x.op=0) (bC (by dsimp only;omega)) (fun h0=>?_) (fun h0=>?_)
 ·rw[if_pos h0] at hA
  have ht:oV x.op nm.length=1:=by rw[h0];rfl
  rw[ht] at hi
  have hW:bZ nm x out=[if x.idx=0 then 48 else 49]:=by
   unfold bZ ni;rw[hA,h0];rfl
  refine ei (.one 0 (.one 1 (.one 2 (.one 3 (.one 4 (.one 5 (.wr 6 .done))))))) (ai (by kernel_rfl) ?_)
  refine ei (if x.idx=0 then 48 else 49) (ai (ai hi.1 ?_) ?_)
  ·show (strOf [48,49])[x.idx.toNat]?=_
   rcases (show x.idx=0∨x.idx=1 by omega) with e | e<;>rw[e]<;>rfl
  refine aS (mH) ((false,nm,bs,if x.idx=0 then 48 else 49)) [0,1] (a4 (ai rfl rfl)) (Or.inl rfl) (by exact (ai (ai rfl rfl) rfl)) (by exact (ai (ai rfl (ai rfl (ai rfl (ai rfl (fun _ _=>rfl))))) (ai rfl (ai rfl (ai rfl (fun _ _=>rfl)))))) ((by show bs.length≤1000000;omega)) ?_
  refine ei [0,3] (ai (ai rfl (ai rfl rfl)) (ai (by exact trivial) ?_))
  refine (ai (ai rfl (ai (ai rfl rfl) (ai rfl (ai rfl (fun _ _=>rfl))))) (ai rfl (ai rfl (ai ?_ ?_))))
  ·exact congrArg List.length (congrArg (fun t=>bs++t) hW.symm)
  ·exact fun k _=>congrArg (fun l=>[cP (l.getD k 0)]) (congrArg (fun t=>bs++t) hW.symm)
 rw[if_neg h0] at hA
 refine ah (p:=x.op=1) (bC (by dsimp only;omega)) (fun h1=>?_) (fun h1=>?_)
 ·rw[if_pos h1] at hA
  have hnk:(nm.getD x.idx.toNat []).length≤100:=hnm _
  have ht:oV x.op nm.length=nm.length-1:=by rw[h1];rfl
  rw[ht] at hi
  have hW:bZ nm x out=nm.getD x.idx.toNat []:=by
   unfold bZ ni;rw[hA,h1];rfl
  refine ei (.one 0 (.one 1 (.one 2 (.one 3 (.one 4 (.one 5 (.one 6 (.one 7 (.one 8 (.one 9 (.one 10 (.wr 11 .done)))))))))))) (ai (by kernel_rfl) ?_)
  refine ai (ai hi.1 (by show x.idx<(nm.length:Int);omega)) ?_
  refine ai rfl ?_
  refine aS (kC) ((false,nm,bs,nm.getD x.idx.toNat [])) [0,1] (a4 (ai rfl rfl)) (Or.inl rfl) (by exact (ai (ai rfl rfl) rfl)) (by exact (ai (ai rfl (ai rfl (ai rfl (ai rfl (fun _ _=>rfl))))) (ai rfl (ai rfl (ai rfl (fun _ _=>rfl)))))) (⟨by show bs.length≤1000000;omega,by show (nm.getD x.idx.toNat []).length≤1000000;exact ald hnk (by decide)⟩) ?_
  refine ei [0,3] (ai (ai rfl (ai rfl rfl)) (ai (by exact trivial) ?_))
  refine (ai (ai rfl (ai (ai rfl rfl) (ai rfl (ai rfl (fun _ _=>rfl))))) (ai rfl (ai rfl (ai ?_ ?_))))
  ·exact congrArg List.length (congrArg (fun t=>bs++t) hW.symm)
  ·exact fun k _=>congrArg (fun l=>[cP (l.getD k 0)]) (congrArg (fun t=>bs++t) hW.symm)
 rw[if_neg h1] at hA
 refine ah (p:=x.op=2) (bC (by dsimp only;omega)) (fun h2=>?_) (fun h2=>?_)
 ·rw[if_pos h2] at hA
  have hl1:dS x.op=1:=by rw[h2];rfl
  have hl2:wV x.op=1:=by rw[h2];rfl
  rw[hl1,hl2] at hle
  have hk:0<x.args.length:=by omega
  have hy:x.args.getD 0 aH∈x.args:=abv (fF hk)
  have hms:=bT hy
  have hW:bZ nm x out=33 :: bZ nm (x.args.getD 0 aH) 2:=by
   rw[eO nm (x.args.getD 0 aH) (show (0:Int)≤2 by decide)]
   unfold bZ ni;rw[hA,h2]
   show 33 :: _=_
   cases hc:x.args with
   | nil=>rw[hc] at hk;simp at hk
   | cons y l=>rfl
  refine aS (mH) ((false,nm,bs,33)) [0,1] (a4 (ai rfl rfl)) (Or.inl rfl) (by exact (ai (ai rfl rfl) (iE (by simp only[zz,reduceCtorEq];rfl)))) (by exact (ai (ai rfl (ai rfl (ai rfl (ai rfl (fun _ _=>rfl))))) (ai rfl (ai rfl (ai rfl (fun _ _=>rfl)))))) ((by show bs.length≤1000000;omega)) ?_
  refine ei (.one 0 (.one 1 (.one 2 (.one 3 (.one 4 (.one 5 (.one 6 (.wr 7 .done)))))))) (ai (by kernel_rfl) ?_)
  refine ai (ai (by decide) (by show (0:Int)<(x.args.length:Int);omega)) ?_
  refine ai rfl ?_
  refine aS (ih) (⟨true,nm,bs++[33],x.args.getD 0 aH,2⟩) [0,3] (a4 (ai rfl rfl)) (Or.inl rfl) (by exact (ai (ai rfl rfl) (ai (ai (iE (by simp only[zz,reduceCtorEq];rfl)) (ai (iE (by simp only[zz,reduceCtorEq];rfl)) (ai rfl (jm _)))) (iE (by simp only[zz,reduceCtorEq];omega))))) (by exact (ai (ai rfl (ai (ai rfl rfl) (ai rfl (ai rfl (fun _ _=>rfl))))) (ai rfl (ai rfl (ai rfl (fun _ _=>rfl)))))) (ai ⟨hga _ hy,by show (x.args.getD 0 aH).size≤256;omega,hnm,hnl,by show (bs++[33]).length+_≤_;rw[aaH,aoW];show bs.length+1+110*(x.args.getD 0 aH).size≤_;omega⟩ (by show (x.args.getD 0 aH).size≤n;omega)) ?_
  have eW:bs++[33]++bZ nm (x.args.getD 0 aH) 2=bs++bZ nm x out:=by rw[hW,anr];rfl
  refine ei [0,4] (ai (ai rfl (ai rfl rfl)) (ai (by exact trivial) ?_))
  refine (ai (ai rfl (ai (ai rfl rfl) (ai rfl (ai rfl (fun _ _=>rfl))))) (ai rfl (ai rfl (ai ?_ ?_))))
  ·exact congrArg List.length (eW)
  ·exact fun k _=>congrArg (fun l=>[cP (l.getD k 0)]) (eW)
 exact absurd hQ (by show ¬x.op≤2;omega)
theorem aq1 (n:Nat) (ih:bV Tryz.prog 141 (pW n)):bV Tryz.prog 141 (zf (n+1) fun a=>a.st=false∧(a.x.op=4∧0≤a.out)):=by
 refine gP (Tb:=tab) mixed ay Tryz.func141 rfl rfl ?_
 rintro ⟨st,nm,bs,x,out⟩ hpre
 refine ai (ai rfl (ai rfl rfl)) ?_
 obtain ⟨hpre,hst,hQ⟩:=hpre
 obtain rfl:st=false:=hst
 obtain ⟨⟨hg,hs,hnm,hnl,hlen⟩,hn⟩:=hpre
 have hn:x.size≤n+1:=hn
 have hg:gU nm.length x:=hg
 have hs:x.size≤256:=hs
 have hnm:l7 nm:=hnm
 have hnl:nm.length≤256:=hnl
 have hlen:bs.length+110*x.size≤500000:=hlen
 have hsp:=size_pos x
 have hal:=gN x
 have hsz:=x.size_eq
 obtain ⟨hn0,hga⟩:=(fV _ _).1 hg
 obtain ⟨ho,hle,hi⟩:=dW hn0
 have hA:=fJ nm x
 have hQ:x.op=4∧0≤out:=hQ
 refine ah (p:=x.op=0) (bC (by omega)) (fun h0=>?_) (fun h0=>?_)
 ·exact absurd h0 (by omega)
 rw[if_neg h0] at hA
 refine ah (p:=x.op=1) (bC (by omega)) (fun h1=>?_) (fun h1=>?_)
 ·exact absurd h1 (by omega)
 rw[if_neg h1] at hA
 refine ah (p:=x.op=2) (bC (by omega)) (fun h2=>?_) (fun h2=>?_)
 ·exact absurd h2 (by omega)
 rw[if_neg h2] at hA
 have h34:¬x.op=4→x.op=3:=fun h=>by omega
 have hl2:2≤x.args.length:=by
  have:dS x.op=2:=by unfold dS;rw[if_neg h2,if_pos (by omega)]
  omega
 have hW:bZ nm x out=40 :: (bB nm x++[41]):=by
  unfold bZ ni;rw[decide_eq_true hQ.2,decide_eq_true hQ.1];simp[nk]
 refine ah (p:=0≤out) (bX (by omega)) (fun h3=>?_) (fun h3=>?_)
 ·refine ah (p:=x.op=4) (bC (by omega)) (fun h4=>?_) (fun h4=>?_)
  ·refine aS (mH) ((false,nm,bs,40)) [0,1] (a4 (ai rfl rfl)) (Or.inl rfl) (by exact (ai (ai rfl rfl) (iE (by simp only[zz,reduceCtorEq];rfl)))) (by exact (ai (ai rfl (ai rfl (ai rfl (ai rfl (fun _ _=>rfl))))) (ai rfl (ai rfl (ai rfl (fun _ _=>rfl)))))) ((by show bs.length≤1000000;omega)) ?_
   refine aZ (b:=true) (by rw[show x.op=4 from h4];rfl) (fun _=>?_) (fun h=>absurd h (by decide))
   refine ei (bG.inv { X:=Nat,up:=fun k=>[(71,.s (iA k))],uo:=fun k=>[⟨0,202,[.s (tQ true k),.rw 5 1 (aD nm (bs++[40]) [32,124,32] x.op x.args k).length (fun j=>[cP ((aD nm (bs++[40]) [32,124,32] x.op x.args k).getD j 0)]),.s (nH nm)]⟩],inv:=fun k=>k≤x.args.length∧(True),meas:=fun k=>x.args.length-k,x0:=0 }) ?_
   refine ai (ai (ai (by exact (a4 (ai rfl rfl))) (ai ?_ ?_)) rfl) (ai (ai (ac7 _) ?_) ?_)
   ·exact (ai (ai (fun _=>rfl) (iE (by simp only[zz,reduceCtorEq];rfl))) rfl)
   ·refine (ai (ai (ai (ai rfl rfl) rfl) (ai (ai rfl (ai rfl (ai ?_ ?_))) (ai (ai nof (ai rfl (fun _ _=>rfl))) rfl))) trivial)
    ·exact congrArg List.length (bE nm (bs++[40]) [32,124,32] x.op x.args).symm
    ·exact fun j _=>congrArg (fun l=>[cP (l.getD j 0)]) (bE nm (bs++[40]) [32,124,32] x.op x.args).symm
   ·trivial
   intro (k:Nat) ⟨hk,_⟩
   have hpl:=jw (nm:=nm) (base:=bs++[40]) (sep:=[32,124,32]) (o:=x.op) hnm rfl hk
   cases k with
   | zero=>
    have hk0:0<x.args.length:=by omega
    refine ah (p:=0<x.args.length) (ak (by dsimp only;omega)) (fun h5=>?_) (fun h5=>?_)
    ·refine ai (ai (abr _) (iN (n:=x.args.length) (by omega))) (ai rfl ?_)
     have hy:x.args.getD 0 aH∈x.args:=abv (fF hk0)
     have hms:=bT hy
     have hb0:=congrArg List.length (bE nm (bs++[40]) [32,124,32] x.op x.args)
     have hB:(bs++[40]).length≤bs.length+1:=by simp
     refine aS (ih) (⟨true,nm,aD nm (bs++[40]) [32,124,32] x.op x.args 0,x.args.getD 0 aH,x.op⟩) [0,4] (a4 (ai rfl rfl)) (Or.inl rfl) (by exact (ai (ai rfl rfl) (ai (ai (iE (by simp only[zz,reduceCtorEq])) (ai (iE (by simp only[zz,reduceCtorEq])) (ai rfl (jm _)))) rfl))) (by exact (ai (ai rfl (ai (ai rfl rfl) (ai rfl (ai rfl (fun _ _=>rfl))))) (ai rfl (ai rfl (ai rfl (fun _ _=>rfl)))))) (ai ⟨hga _ hy,by show (x.args.getD 0 aH).size≤256;omega,hnm,hnl,by show (aD nm (bs++[40]) [32,124,32] x.op x.args 0).length+110*(x.args.getD 0 aH).size≤_;omega⟩ (by show (x.args.getD 0 aH).size≤n;omega)) ?_
     have eN:aD nm (bs++[40]) [32,124,32] x.op x.args 0++bZ nm (x.args.getD 0 aH) x.op=aD nm (bs++[40]) [32,124,32] x.op x.args (0+1):=by
      rw[eO nm _ ho.1,bE,jy hk0]
     refine ei (0+1) (ai (ai rfl rfl) (ai (ai (ai rfl (ai (ai rfl rfl) (ai (ai rfl rfl) (ai (ai (ai (fun _=>rfl) (aM (by omega))) rfl) (ai (ai (ai (ai rfl rfl) rfl) (ai (ai rfl (ai rfl (ai ?_ ?_))) (ai (ai nof (ai rfl (fun _ _=>rfl))) rfl))) trivial))))) rfl) (ai (ai (iL (by omega)) trivial) (iM (by omega)))))
     ·exact congrArg List.length eN
     ·exact fun j _=>congrArg (fun l=>[cP (l.getD j 0)]) eN
    ·exact absurd hk0 h5
   | succ k=>
    refine ah (p:=k+1<x.args.length) (ak (by dsimp only;omega)) (fun h5=>?_) (fun h5=>?_)
    ·refine ai (ai (abr _) (iN (n:=x.args.length) (by omega))) (ai rfl ?_)
     have hy:x.args.getD (k+1) aH∈x.args:=abv (fF h5)
     have hms:=bT hy
     have hss:=gV h5
     have hst:=dX x.args (k+1+1)
     have hB:(bs++[40]).length≤bs.length+1:=by simp
     rw[if_neg (by omega)] at hpl
     refine ah (p:=0<k+1) (ak (by omega)) (fun h6=>?_) (fun h6=>?_)
     ·refine aS (kC) ((true,nm,aD nm (bs++[40]) [32,124,32] x.op x.args (k+1),[32,124,32])) [0,4] (a4 (ai rfl rfl)) (Or.inl rfl) (by exact (ai (ai rfl rfl) rfl)) (by exact (ai (ai rfl (ai (ai rfl rfl) (ai rfl (ai rfl (fun _ _=>rfl))))) (ai rfl (ai rfl (ai rfl (fun _ _=>rfl)))))) (⟨by show (aD nm (bs++[40]) [32,124,32] x.op x.args (k+1)).length≤1000000;omega,by show ([32,124,32]:List UInt8).length≤1000000;simp⟩) ?_
      refine aS (ih) (⟨true,nm,aD nm (bs++[40]) [32,124,32] x.op x.args (k+1)++[32,124,32],x.args.getD (k+1) aH,x.op⟩) [0,6] (a4 (ai rfl rfl)) (Or.inl rfl) (by exact (ai (ai rfl rfl) (ai (ai (iE (by simp only[zz,reduceCtorEq])) (ai (iE (by simp only[zz,reduceCtorEq])) (ai rfl (jm _)))) rfl))) (by exact (ai (ai rfl (ai (ai rfl rfl) (ai rfl (ai rfl (fun _ _=>rfl))))) (ai rfl (ai rfl (ai rfl (fun _ _=>rfl)))))) (ai ⟨hga _ hy,by show (x.args.getD (k+1) aH).size≤256;omega,hnm,hnl,by show (aD nm (bs++[40]) [32,124,32] x.op x.args (k+1)++[32,124,32]).length+110*(x.args.getD (k+1) aH).size≤_;rw[aaH];show (aD nm (bs++[40]) [32,124,32] x.op x.args (k+1)).length+3+110*(x.args.getD (k+1) aH).size≤_;omega⟩ (by show (x.args.getD (k+1) aH).size≤n;omega)) ?_
      have eN:aD nm (bs++[40]) [32,124,32] x.op x.args (k+1)++[32,124,32]++bZ nm (x.args.getD (k+1) aH) x.op=aD nm (bs++[40]) [32,124,32] x.op x.args (k+1+1):=by
       rw[eO nm _ ho.1,iV h5]
      refine ei ((k+1)+1) (ai (ai rfl rfl) (ai (ai (ai rfl (ai (ai rfl rfl) (ai (ai rfl rfl) (ai (ai (ai (fun _=>rfl) (aM (by omega))) rfl) (ai (ai (ai (ai rfl rfl) rfl) (ai (ai rfl (ai rfl (ai ?_ ?_))) (ai (ai nof (ai rfl (fun _ _=>rfl))) rfl))) trivial))))) rfl) (ai (ai (iL (by omega)) trivial) (iM (by omega)))))
      ·exact congrArg List.length eN
      ·exact fun j _=>congrArg (fun l=>[cP (l.getD j 0)]) eN
     ·exact absurd (ark k) h6
    ·have hke:k+1=x.args.length:=by omega
     have eT:aD nm (bs++[40]) [32,124,32] x.op x.args (k+1)=bs++[40]++bB nm x:=by
      rw[hke,jv,hA];unfold lV;rw[if_pos h4]
     rw[if_neg (by omega)] at hpl
     have hst:=dX x.args (k+1)
     refine aS (mH) ((true,nm,aD nm (bs++[40]) [32,124,32] x.op x.args (k+1),41)) [0,4] (a4 (ai rfl rfl)) (Or.inl rfl) (by exact (ai (ai rfl rfl) (iE (by simp only[zz,reduceCtorEq];rfl)))) (by exact (ai (ai rfl (ai (ai rfl rfl) (ai rfl (ai rfl (fun _ _=>rfl))))) (ai rfl (ai rfl (ai rfl (fun _ _=>rfl)))))) ((by show (aD nm (bs++[40]) [32,124,32] x.op x.args (k+1)).length≤1000000;rw[aaH,aoW] at hpl;omega)) ?_
     have eW:aD nm (bs++[40]) [32,124,32] x.op x.args (k+1)++[41]=bs++bZ nm x out:=by
      rw[eT,hW,anr,anr];rfl
     refine ei [0,5] (ai (ai rfl (ai rfl rfl)) (ai (by exact trivial) ?_))
     refine (ai (ai rfl (ai (ai rfl rfl) (ai rfl (ai rfl (fun _ _=>rfl))))) (ai rfl (ai rfl (ai ?_ ?_))))
     ·exact congrArg List.length (eW)
     ·exact fun k _=>congrArg (fun l=>[cP (l.getD k 0)]) (eW)
  ·exact absurd hQ.1 h4
 ·exact absurd hQ.2 h3
theorem aq3 (n:Nat) (ih:bV Tryz.prog 141 (pW n)):bV Tryz.prog 141 (zf (n+1) fun a=>a.st=false∧(a.x.op=3∧0≤a.out∧a.out≠4)):=by
 refine gP (Tb:=tab) mixed ay Tryz.func141 rfl rfl ?_
 rintro ⟨st,nm,bs,x,out⟩ hpre
 refine ai (ai rfl (ai rfl rfl)) ?_
 obtain ⟨hpre,hst,hQ⟩:=hpre
 obtain rfl:st=false:=hst
 obtain ⟨⟨hg,hs,hnm,hnl,hlen⟩,hn⟩:=hpre
 have hn:x.size≤n+1:=hn
 have hg:gU nm.length x:=hg
 have hs:x.size≤256:=hs
 have hnm:l7 nm:=hnm
 have hnl:nm.length≤256:=hnl
 have hlen:bs.length+110*x.size≤500000:=hlen
 have hsp:=size_pos x
 have hal:=gN x
 have hsz:=x.size_eq
 obtain ⟨hn0,hga⟩:=(fV _ _).1 hg
 obtain ⟨ho,hle,hi⟩:=dW hn0
 have hA:=fJ nm x
 have hQ:x.op=3∧0≤out∧out≠4:=hQ
 refine ah (p:=x.op=0) (bC (by omega)) (fun h0=>?_) (fun h0=>?_)
 ·exact absurd h0 (by omega)
 rw[if_neg h0] at hA
 refine ah (p:=x.op=1) (bC (by omega)) (fun h1=>?_) (fun h1=>?_)
 ·exact absurd h1 (by omega)
 rw[if_neg h1] at hA
 refine ah (p:=x.op=2) (bC (by omega)) (fun h2=>?_) (fun h2=>?_)
 ·exact absurd h2 (by omega)
 rw[if_neg h2] at hA
 have h34:¬x.op=4→x.op=3:=fun h=>by omega
 have hl2:2≤x.args.length:=by
  have:dS x.op=2:=by unfold dS;rw[if_neg h2,if_pos (by omega)]
  omega
 have hW:bZ nm x out=40 :: (bB nm x++[41]):=by
  unfold bZ ni;rw[decide_eq_true hQ.2.1,decide_eq_true hQ.1,decide_eq_true hQ.2.2];simp[nk]
 refine ah (p:=0≤out) (bX (by omega)) (fun h3=>?_) (fun h3=>?_)
 ·refine ah (p:=x.op=4) (bC (by omega)) (fun h4=>?_) (fun h4=>?_)
  ·exact absurd h4 (by omega)
  ·refine bH (p:=out=4) (bU (by omega)) (fun h5=>?_) (fun h5=>?_)
   ·refine aS (mH) ((false,nm,bs,40)) [0,1] (a4 (ai rfl rfl)) (Or.inl rfl) (by exact (ai (ai rfl rfl) (iE (by simp only[zz,reduceCtorEq];rfl)))) (by exact (ai (ai rfl (ai rfl (ai rfl (ai rfl (fun _ _=>rfl))))) (ai rfl (ai rfl (ai rfl (fun _ _=>rfl)))))) ((by show bs.length≤1000000;omega)) ?_
    refine aZ (b:=false) (by exact beq_eq_false_iff_ne.2 h4) (fun h=>absurd h (by decide)) (fun _=>?_)
    refine ei (bG.inv { X:=Nat,up:=fun k=>[(71,.s (iA k))],uo:=fun k=>[⟨0,202,[.s (tQ true k),.rw 5 1 (aD nm (bs++[40]) [32,38,32] x.op x.args k).length (fun j=>[cP ((aD nm (bs++[40]) [32,38,32] x.op x.args k).getD j 0)]),.s (nH nm)]⟩],inv:=fun k=>k≤x.args.length∧(True),meas:=fun k=>x.args.length-k,x0:=0 }) ?_
    refine ai (ai (ai (by exact (a4 (ai rfl rfl))) (ai ?_ ?_)) rfl) (ai (ai (ac7 _) ?_) ?_)
    ·exact (ai (ai (fun _=>rfl) (iE (by simp only[zz,reduceCtorEq];rfl))) rfl)
    ·refine (ai (ai (ai (ai rfl rfl) rfl) (ai (ai rfl (ai rfl (ai ?_ ?_))) (ai (ai nof (ai rfl (fun _ _=>rfl))) rfl))) trivial)
     ·exact congrArg List.length (bE nm (bs++[40]) [32,38,32] x.op x.args).symm
     ·exact fun j _=>congrArg (fun l=>[cP (l.getD j 0)]) (bE nm (bs++[40]) [32,38,32] x.op x.args).symm
    ·trivial
    intro (k:Nat) ⟨hk,_⟩
    have hpl:=jw (nm:=nm) (base:=bs++[40]) (sep:=[32,38,32]) (o:=x.op) hnm rfl hk
    cases k with
    | zero=>
     have hk0:0<x.args.length:=by omega
     refine ah (p:=0<x.args.length) (ak (by dsimp only;omega)) (fun h5=>?_) (fun h5=>?_)
     ·refine ai (ai (abr _) (iN (n:=x.args.length) (by omega))) (ai rfl ?_)
      have hy:x.args.getD 0 aH∈x.args:=abv (fF hk0)
      have hms:=bT hy
      have hb0:=congrArg List.length (bE nm (bs++[40]) [32,38,32] x.op x.args)
      have hB:(bs++[40]).length≤bs.length+1:=by simp
      refine aS (ih) (⟨true,nm,aD nm (bs++[40]) [32,38,32] x.op x.args 0,x.args.getD 0 aH,x.op⟩) [0,4] (a4 (ai rfl rfl)) (Or.inl rfl) (by exact (ai (ai rfl rfl) (ai (ai (iE (by simp only[zz,reduceCtorEq])) (ai (iE (by simp only[zz,reduceCtorEq])) (ai rfl (jm _)))) rfl))) (by exact (ai (ai rfl (ai (ai rfl rfl) (ai rfl (ai rfl (fun _ _=>rfl))))) (ai rfl (ai rfl (ai rfl (fun _ _=>rfl)))))) (ai ⟨hga _ hy,by show (x.args.getD 0 aH).size≤256;omega,hnm,hnl,by show (aD nm (bs++[40]) [32,38,32] x.op x.args 0).length+110*(x.args.getD 0 aH).size≤_;omega⟩ (by show (x.args.getD 0 aH).size≤n;omega)) ?_
      have eN:aD nm (bs++[40]) [32,38,32] x.op x.args 0++bZ nm (x.args.getD 0 aH) x.op=aD nm (bs++[40]) [32,38,32] x.op x.args (0+1):=by
       rw[eO nm _ ho.1,bE,jy hk0]
      refine ei (0+1) (ai (ai rfl rfl) (ai (ai (ai rfl (ai (ai rfl rfl) (ai (ai rfl rfl) (ai (ai (ai (fun _=>rfl) (aM (by omega))) rfl) (ai (ai (ai (ai rfl rfl) rfl) (ai (ai rfl (ai rfl (ai ?_ ?_))) (ai (ai nof (ai rfl (fun _ _=>rfl))) rfl))) trivial))))) rfl) (ai (ai (iL (by omega)) trivial) (iM (by omega)))))
      ·exact congrArg List.length eN
      ·exact fun j _=>congrArg (fun l=>[cP (l.getD j 0)]) eN
     ·exact absurd hk0 h5
    | succ k=>
     refine ah (p:=k+1<x.args.length) (ak (by dsimp only;omega)) (fun h5=>?_) (fun h5=>?_)
     ·refine ai (ai (abr _) (iN (n:=x.args.length) (by omega))) (ai rfl ?_)
      have hy:x.args.getD (k+1) aH∈x.args:=abv (fF h5)
      have hms:=bT hy
      have hss:=gV h5
      have hst:=dX x.args (k+1+1)
      have hB:(bs++[40]).length≤bs.length+1:=by simp
      rw[if_neg (by omega)] at hpl
      refine ah (p:=0<k+1) (ak (by omega)) (fun h6=>?_) (fun h6=>?_)
      ·refine aS (kC) ((true,nm,aD nm (bs++[40]) [32,38,32] x.op x.args (k+1),[32,38,32])) [0,4] (a4 (ai rfl rfl)) (Or.inl rfl) (by exact (ai (ai rfl rfl) rfl)) (by exact (ai (ai rfl (ai (ai rfl rfl) (ai rfl (ai rfl (fun _ _=>rfl))))) (ai rfl (ai rfl (ai rfl (fun _ _=>rfl)))))) (⟨by show (aD nm (bs++[40]) [32,38,32] x.op x.args (k+1)).length≤1000000;omega,by show ([32,38,32]:List UInt8).length≤1000000;simp⟩) ?_
       refine aS (ih) (⟨true,nm,aD nm (bs++[40]) [32,38,32] x.op x.args (k+1)++[32,38,32],x.args.getD (k+1) aH,x.op⟩) [0,6] (a4 (ai rfl rfl)) (Or.inl rfl) (by exact (ai (ai rfl rfl) (ai (ai (iE (by simp only[zz,reduceCtorEq])) (ai (iE (by simp only[zz,reduceCtorEq])) (ai rfl (jm _)))) rfl))) (by exact (ai (ai rfl (ai (ai rfl rfl) (ai rfl (ai rfl (fun _ _=>rfl))))) (ai rfl (ai rfl (ai rfl (fun _ _=>rfl)))))) (ai ⟨hga _ hy,by show (x.args.getD (k+1) aH).size≤256;omega,hnm,hnl,by show (aD nm (bs++[40]) [32,38,32] x.op x.args (k+1)++[32,38,32]).length+110*(x.args.getD (k+1) aH).size≤_;rw[aaH];show (aD nm (bs++[40]) [32,38,32] x.op x.args (k+1)).length+3+110*(x.args.getD (k+1) aH).size≤_;omega⟩ (by show (x.args.getD (k+1) aH).size≤n;omega)) ?_
       have eN:aD nm (bs++[40]) [32,38,32] x.op x.args (k+1)++[32,38,32]++bZ nm (x.args.getD (k+1) aH) x.op=aD nm (bs++[40]) [32,38,32] x.op x.args (k+1+1):=by
        rw[eO nm _ ho.1,iV h5]
       refine ei ((k+1)+1) (ai (ai rfl rfl) (ai (ai (ai rfl (ai (ai rfl rfl) (ai (ai rfl rfl) (ai (ai (ai (fun _=>rfl) (aM (by omega))) rfl) (ai (ai (ai (ai rfl rfl) rfl) (ai (ai rfl (ai rfl (ai ?_ ?_))) (ai (ai nof (ai rfl (fun _ _=>rfl))) rfl))) trivial))))) rfl) (ai (ai (iL (by omega)) trivial) (iM (by omega)))))
       ·exact congrArg List.length eN
       ·exact fun j _=>congrArg (fun l=>[cP (l.getD j 0)]) eN
      ·exact absurd (ark k) h6
     ·have hke:k+1=x.args.length:=by omega
      have eT:aD nm (bs++[40]) [32,38,32] x.op x.args (k+1)=bs++[40]++bB nm x:=by
       rw[hke,jv,hA];unfold lV;rw[if_neg h4]
      rw[if_neg (by omega)] at hpl
      refine aZ (b:=true) (by exact bne_iff_ne.2 hQ.2.2) (fun _=>?_) (fun h=>absurd h (by decide))
      have hst:=dX x.args (k+1)
      refine aS (mH) ((true,nm,aD nm (bs++[40]) [32,38,32] x.op x.args (k+1),41)) [0,4] (a4 (ai rfl rfl)) (Or.inl rfl) (by exact (ai (ai rfl rfl) (iE (by simp only[zz,reduceCtorEq];rfl)))) (by exact (ai (ai rfl (ai (ai rfl rfl) (ai rfl (ai rfl (fun _ _=>rfl))))) (ai rfl (ai rfl (ai rfl (fun _ _=>rfl)))))) ((by show (aD nm (bs++[40]) [32,38,32] x.op x.args (k+1)).length≤1000000;rw[aaH,aoW] at hpl;omega)) ?_
      have eW:aD nm (bs++[40]) [32,38,32] x.op x.args (k+1)++[41]=bs++bZ nm x out:=by
       rw[eT,hW,anr,anr];rfl
      refine ei [0,5] (ai (ai rfl (ai rfl rfl)) (ai (by exact trivial) ?_))
      refine (ai (ai rfl (ai (ai rfl rfl) (ai rfl (ai rfl (fun _ _=>rfl))))) (ai rfl (ai rfl (ai ?_ ?_))))
      ·exact congrArg List.length (eW)
      ·exact fun k _=>congrArg (fun l=>[cP (l.getD k 0)]) (eW)
   ·exact absurd h5 hQ.2.2
 ·exact absurd hQ.2.1 h3
theorem aqB (n:Nat) (ih:bV Tryz.prog 141 (pW n)):bV Tryz.prog 141 (zf (n+1) fun a=>a.st=false∧(a.x.op=4∧a.out<0)):=by
 refine gP (Tb:=tab) mixed ay Tryz.func141 rfl rfl ?_
 rintro ⟨st,nm,bs,x,out⟩ hpre
 refine ai (ai rfl (ai rfl rfl)) ?_
 obtain ⟨hpre,hst,hQ⟩:=hpre
 obtain rfl:st=false:=hst
 obtain ⟨⟨hg,hs,hnm,hnl,hlen⟩,hn⟩:=hpre
 have hn:x.size≤n+1:=hn
 have hg:gU nm.length x:=hg
 have hs:x.size≤256:=hs
 have hnm:l7 nm:=hnm
 have hnl:nm.length≤256:=hnl
 have hlen:bs.length+110*x.size≤500000:=hlen
 have hsp:=size_pos x
 have hal:=gN x
 have hsz:=x.size_eq
 obtain ⟨hn0,hga⟩:=(fV _ _).1 hg
 obtain ⟨ho,hle,hi⟩:=dW hn0
 have hA:=fJ nm x
 have hQ:x.op=4∧out<0:=hQ
 refine ah (p:=x.op=0) (bC (by omega)) (fun h0=>?_) (fun h0=>?_)
 ·exact absurd h0 (by omega)
 rw[if_neg h0] at hA
 refine ah (p:=x.op=1) (bC (by omega)) (fun h1=>?_) (fun h1=>?_)
 ·exact absurd h1 (by omega)
 rw[if_neg h1] at hA
 refine ah (p:=x.op=2) (bC (by omega)) (fun h2=>?_) (fun h2=>?_)
 ·exact absurd h2 (by omega)
 rw[if_neg h2] at hA
 have h34:¬x.op=4→x.op=3:=fun h=>by omega
 have hl2:2≤x.args.length:=by
  have:dS x.op=2:=by unfold dS;rw[if_neg h2,if_pos (by omega)]
  omega
 have hW:bZ nm x out=bB nm x:=by
  unfold bZ ni;rw[decide_eq_false (show ¬0≤out by omega)];simp[nk]
 refine ah (p:=0≤out) (bX (by omega)) (fun h3=>?_) (fun h3=>?_)
 ·exact absurd h3 (by omega)
 refine ah (p:=x.op=4) (bC (by omega)) (fun h4=>?_) (fun h4=>?_)
 ·refine ei (bG.inv { X:=Nat,up:=fun k=>[(71,.s (iA k))],uo:=fun k=>[⟨0,202,[.s (tQ false k),.rw 5 1 (aD nm (bs) [32,124,32] x.op x.args k).length (fun j=>[cP ((aD nm (bs) [32,124,32] x.op x.args k).getD j 0)]),.s (nH nm)]⟩],inv:=fun k=>k≤x.args.length∧(True),meas:=fun k=>x.args.length-k,x0:=0 }) ?_
  refine ai (ai (ai (by exact (a4 (ai rfl rfl))) (ai ?_ ?_)) rfl) (ai (ai (ac7 _) ?_) ?_)
  ·exact (ai (ai (fun _=>rfl) (iE (by simp only[zz,reduceCtorEq];rfl))) rfl)
  ·refine (ai (ai (ai (ai nof rfl) rfl) (ai (ai rfl (ai rfl (ai ?_ ?_))) (ai (ai nof (ai rfl (fun _ _=>rfl))) rfl))) trivial)
   ·exact congrArg List.length (bE nm (bs) [32,124,32] x.op x.args).symm
   ·exact fun j _=>congrArg (fun l=>[cP (l.getD j 0)]) (bE nm (bs) [32,124,32] x.op x.args).symm
  ·trivial
  intro (k:Nat) ⟨hk,_⟩
  have hpl:=jw (nm:=nm) (base:=bs) (sep:=[32,124,32]) (o:=x.op) hnm rfl hk
  cases k with
  | zero=>
   have hk0:0<x.args.length:=by omega
   refine ah (p:=0<x.args.length) (ak (by dsimp only;omega)) (fun h5=>?_) (fun h5=>?_)
   ·refine ai (ai (abr _) (iN (n:=x.args.length) (by omega))) (ai rfl ?_)
    have hy:x.args.getD 0 aH∈x.args:=abv (fF hk0)
    have hms:=bT hy
    have hb0:=congrArg List.length (bE nm (bs) [32,124,32] x.op x.args)
    have hB:(bs).length≤bs.length+1:=by simp
    refine aS (ih) (⟨false,nm,aD nm (bs) [32,124,32] x.op x.args 0,x.args.getD 0 aH,x.op⟩) [0,3] (a4 (ai rfl rfl)) (Or.inl rfl) (by exact (ai (ai rfl rfl) (ai (ai (iE (by simp only[zz,reduceCtorEq])) (ai (iE (by simp only[zz,reduceCtorEq])) (ai rfl (jm _)))) rfl))) (by exact (ai (ai rfl (ai rfl (ai rfl (ai rfl (fun _ _=>rfl))))) (ai rfl (ai rfl (ai rfl (fun _ _=>rfl)))))) (ai ⟨hga _ hy,by show (x.args.getD 0 aH).size≤256;omega,hnm,hnl,by show (aD nm (bs) [32,124,32] x.op x.args 0).length+110*(x.args.getD 0 aH).size≤_;omega⟩ (by show (x.args.getD 0 aH).size≤n;omega)) ?_
    have eN:aD nm (bs) [32,124,32] x.op x.args 0++bZ nm (x.args.getD 0 aH) x.op=aD nm (bs) [32,124,32] x.op x.args (0+1):=by
     rw[eO nm _ ho.1,bE,jy hk0]
    refine ei (0+1) (ai (ai rfl rfl) (ai (ai (ai rfl (ai (ai rfl rfl) (ai (ai rfl rfl) (ai (ai (ai (fun _=>rfl) (aM (by omega))) rfl) (ai (ai (ai (ai rfl rfl) rfl) (ai (ai rfl (ai rfl (ai ?_ ?_))) (ai (ai nof (ai rfl (fun _ _=>rfl))) rfl))) trivial))))) rfl) (ai (ai (iL (by omega)) trivial) (iM (by omega)))))
    ·exact congrArg List.length eN
    ·exact fun j _=>congrArg (fun l=>[cP (l.getD j 0)]) eN
   ·exact absurd hk0 h5
  | succ k=>
   refine ah (p:=k+1<x.args.length) (ak (by dsimp only;omega)) (fun h5=>?_) (fun h5=>?_)
   ·refine ai (ai (abr _) (iN (n:=x.args.length) (by omega))) (ai rfl ?_)
    have hy:x.args.getD (k+1) aH∈x.args:=abv (fF h5)
    have hms:=bT hy
    have hss:=gV h5
    have hst:=dX x.args (k+1+1)
    have hB:(bs).length≤bs.length+1:=by simp
    rw[if_neg (by omega)] at hpl
    refine ah (p:=0<k+1) (ak (by omega)) (fun h6=>?_) (fun h6=>?_)
    ·refine aS (kC) ((true,nm,aD nm (bs) [32,124,32] x.op x.args (k+1),[32,124,32])) [0,3] (a4 (ai rfl rfl)) (Or.inl rfl) (by exact (ai (ai rfl rfl) rfl)) (by exact (ai (ai rfl (ai (ai rfl rfl) (ai rfl (ai rfl (fun _ _=>rfl))))) (ai rfl (ai rfl (ai rfl (fun _ _=>rfl)))))) (⟨by show (aD nm (bs) [32,124,32] x.op x.args (k+1)).length≤1000000;omega,by show ([32,124,32]:List UInt8).length≤1000000;simp⟩) ?_
     refine aS (ih) (⟨true,nm,aD nm (bs) [32,124,32] x.op x.args (k+1)++[32,124,32],x.args.getD (k+1) aH,x.op⟩) [0,5] (a4 (ai rfl rfl)) (Or.inl rfl) (by exact (ai (ai rfl rfl) (ai (ai (iE (by simp only[zz,reduceCtorEq])) (ai (iE (by simp only[zz,reduceCtorEq])) (ai rfl (jm _)))) rfl))) (by exact (ai (ai rfl (ai (ai rfl rfl) (ai rfl (ai rfl (fun _ _=>rfl))))) (ai rfl (ai rfl (ai rfl (fun _ _=>rfl)))))) (ai ⟨hga _ hy,by show (x.args.getD (k+1) aH).size≤256;omega,hnm,hnl,by show (aD nm (bs) [32,124,32] x.op x.args (k+1)++[32,124,32]).length+110*(x.args.getD (k+1) aH).size≤_;rw[aaH];show (aD nm (bs) [32,124,32] x.op x.args (k+1)).length+3+110*(x.args.getD (k+1) aH).size≤_;omega⟩ (by show (x.args.getD (k+1) aH).size≤n;omega)) ?_
     have eN:aD nm (bs) [32,124,32] x.op x.args (k+1)++[32,124,32]++bZ nm (x.args.getD (k+1) aH) x.op=aD nm (bs) [32,124,32] x.op x.args (k+1+1):=by
      rw[eO nm _ ho.1,iV h5]
     refine ei ((k+1)+1) (ai (ai rfl rfl) (ai (ai (ai rfl (ai (ai rfl rfl) (ai (ai rfl rfl) (ai (ai (ai (fun _=>rfl) (aM (by omega))) rfl) (ai (ai (ai (ai rfl rfl) rfl) (ai (ai rfl (ai rfl (ai ?_ ?_))) (ai (ai nof (ai rfl (fun _ _=>rfl))) rfl))) trivial))))) rfl) (ai (ai (iL (by omega)) trivial) (iM (by omega)))))
     ·exact congrArg List.length eN
     ·exact fun j _=>congrArg (fun l=>[cP (l.getD j 0)]) eN
    ·exact absurd (ark k) h6
   ·have hke:k+1=x.args.length:=by omega
    have eT:aD nm (bs) [32,124,32] x.op x.args (k+1)=bs++bB nm x:=by
     rw[hke,jv,hA];unfold lV;rw[if_pos h4]
    refine ei [0,3] (ai (ai rfl (ai rfl rfl)) (ai (by exact trivial) ?_))
    refine (ai (ai rfl (ai (ai rfl rfl) (ai rfl (ai rfl (fun _ _=>rfl))))) (ai rfl (ai rfl (ai ?_ ?_))))
    ·exact congrArg List.length (eT.trans (congrArg (fun t=>bs++t) hW.symm))
    ·exact fun k _=>congrArg (fun l=>[cP (l.getD k 0)]) (eT.trans (congrArg (fun t=>bs++t) hW.symm))
 ·exact absurd hQ.1 h4
theorem aqx (n:Nat) (ih:bV Tryz.prog 141 (pW n)):bV Tryz.prog 141 (zf (n+1) fun a=>a.st=false∧(a.x.op=3∧a.out<0)):=by
 refine gP (Tb:=tab) mixed ay Tryz.func141 rfl rfl ?_
 rintro ⟨st,nm,bs,x,out⟩ hpre
 refine ai (ai rfl (ai rfl rfl)) ?_
 obtain ⟨hpre,hst,hQ⟩:=hpre
 obtain rfl:st=false:=hst
 obtain ⟨⟨hg,hs,hnm,hnl,hlen⟩,hn⟩:=hpre
 have hn:x.size≤n+1:=hn
 have hg:gU nm.length x:=hg
 have hs:x.size≤256:=hs
 have hnm:l7 nm:=hnm
 have hnl:nm.length≤256:=hnl
 have hlen:bs.length+110*x.size≤500000:=hlen
 have hsp:=size_pos x
 have hal:=gN x
 have hsz:=x.size_eq
 obtain ⟨hn0,hga⟩:=(fV _ _).1 hg
 obtain ⟨ho,hle,hi⟩:=dW hn0
 have hA:=fJ nm x
 have hQ:x.op=3∧out<0:=hQ
 refine ah (p:=x.op=0) (bC (by omega)) (fun h0=>?_) (fun h0=>?_)
 ·exact absurd h0 (by omega)
 rw[if_neg h0] at hA
 refine ah (p:=x.op=1) (bC (by omega)) (fun h1=>?_) (fun h1=>?_)
 ·exact absurd h1 (by omega)
 rw[if_neg h1] at hA
 refine ah (p:=x.op=2) (bC (by omega)) (fun h2=>?_) (fun h2=>?_)
 ·exact absurd h2 (by omega)
 rw[if_neg h2] at hA
 have h34:¬x.op=4→x.op=3:=fun h=>by omega
 have hl2:2≤x.args.length:=by
  have:dS x.op=2:=by unfold dS;rw[if_neg h2,if_pos (by omega)]
  omega
 have hW:bZ nm x out=bB nm x:=by
  unfold bZ ni;rw[decide_eq_false (show ¬0≤out by omega)];simp[nk]
 refine ah (p:=0≤out) (bX (by omega)) (fun h3=>?_) (fun h3=>?_)
 ·exact absurd h3 (by omega)
 refine ah (p:=x.op=4) (bC (by omega)) (fun h4=>?_) (fun h4=>?_)
 ·exact absurd h4 (by omega)
 ·refine ei (bG.inv { X:=Nat,up:=fun k=>[(71,.s (iA k))],uo:=fun k=>[⟨0,202,[.s (tQ false k),.rw 5 1 (aD nm (bs) [32,38,32] x.op x.args k).length (fun j=>[cP ((aD nm (bs) [32,38,32] x.op x.args k).getD j 0)]),.s (nH nm)]⟩],inv:=fun k=>k≤x.args.length∧(True),meas:=fun k=>x.args.length-k,x0:=0 }) ?_
  refine ai (ai (ai (by exact (a4 (ai rfl rfl))) (ai ?_ ?_)) rfl) (ai (ai (ac7 _) ?_) ?_)
  ·exact (ai (ai (fun _=>rfl) (iE (by simp only[zz,reduceCtorEq];rfl))) rfl)
  ·refine (ai (ai (ai (ai nof rfl) rfl) (ai (ai rfl (ai rfl (ai ?_ ?_))) (ai (ai nof (ai rfl (fun _ _=>rfl))) rfl))) trivial)
   ·exact congrArg List.length (bE nm (bs) [32,38,32] x.op x.args).symm
   ·exact fun j _=>congrArg (fun l=>[cP (l.getD j 0)]) (bE nm (bs) [32,38,32] x.op x.args).symm
  ·trivial
  intro (k:Nat) ⟨hk,_⟩
  have hpl:=jw (nm:=nm) (base:=bs) (sep:=[32,38,32]) (o:=x.op) hnm rfl hk
  cases k with
  | zero=>
   have hk0:0<x.args.length:=by omega
   refine ah (p:=0<x.args.length) (ak (by dsimp only;omega)) (fun h5=>?_) (fun h5=>?_)
   ·refine ai (ai (abr _) (iN (n:=x.args.length) (by omega))) (ai rfl ?_)
    have hy:x.args.getD 0 aH∈x.args:=abv (fF hk0)
    have hms:=bT hy
    have hb0:=congrArg List.length (bE nm (bs) [32,38,32] x.op x.args)
    have hB:(bs).length≤bs.length+1:=by simp
    refine aS (ih) (⟨false,nm,aD nm (bs) [32,38,32] x.op x.args 0,x.args.getD 0 aH,x.op⟩) [0,3] (a4 (ai rfl rfl)) (Or.inl rfl) (by exact (ai (ai rfl rfl) (ai (ai (iE (by simp only[zz,reduceCtorEq])) (ai (iE (by simp only[zz,reduceCtorEq])) (ai rfl (jm _)))) rfl))) (by exact (ai (ai rfl (ai rfl (ai rfl (ai rfl (fun _ _=>rfl))))) (ai rfl (ai rfl (ai rfl (fun _ _=>rfl)))))) (ai ⟨hga _ hy,by show (x.args.getD 0 aH).size≤256;omega,hnm,hnl,by show (aD nm (bs) [32,38,32] x.op x.args 0).length+110*(x.args.getD 0 aH).size≤_;omega⟩ (by show (x.args.getD 0 aH).size≤n;omega)) ?_
    have eN:aD nm (bs) [32,38,32] x.op x.args 0++bZ nm (x.args.getD 0 aH) x.op=aD nm (bs) [32,38,32] x.op x.args (0+1):=by
     rw[eO nm _ ho.1,bE,jy hk0]
    refine ei (0+1) (ai (ai rfl rfl) (ai (ai (ai rfl (ai (ai rfl rfl) (ai (ai rfl rfl) (ai (ai (ai (fun _=>rfl) (aM (by omega))) rfl) (ai (ai (ai (ai rfl rfl) rfl) (ai (ai rfl (ai rfl (ai ?_ ?_))) (ai (ai nof (ai rfl (fun _ _=>rfl))) rfl))) trivial))))) rfl) (ai (ai (iL (by omega)) trivial) (iM (by omega)))))
    ·exact congrArg List.length eN
    ·exact fun j _=>congrArg (fun l=>[cP (l.getD j 0)]) eN
   ·exact absurd hk0 h5
  | succ k=>
   refine ah (p:=k+1<x.args.length) (ak (by dsimp only;omega)) (fun h5=>?_) (fun h5=>?_)
   ·refine ai (ai (abr _) (iN (n:=x.args.length) (by omega))) (ai rfl ?_)
    have hy:x.args.getD (k+1) aH∈x.args:=abv (fF h5)
    have hms:=bT hy
    have hss:=gV h5
    have hst:=dX x.args (k+1+1)
    have hB:(bs).length≤bs.length+1:=by simp
    rw[if_neg (by omega)] at hpl
    refine ah (p:=0<k+1) (ak (by omega)) (fun h6=>?_) (fun h6=>?_)
    ·refine aS (kC) ((true,nm,aD nm (bs) [32,38,32] x.op x.args (k+1),[32,38,32])) [0,3] (a4 (ai rfl rfl)) (Or.inl rfl) (by exact (ai (ai rfl rfl) rfl)) (by exact (ai (ai rfl (ai (ai rfl rfl) (ai rfl (ai rfl (fun _ _=>rfl))))) (ai rfl (ai rfl (ai rfl (fun _ _=>rfl)))))) (⟨by show (aD nm (bs) [32,38,32] x.op x.args (k+1)).length≤1000000;omega,by show ([32,38,32]:List UInt8).length≤1000000;simp⟩) ?_
     refine aS (ih) (⟨true,nm,aD nm (bs) [32,38,32] x.op x.args (k+1)++[32,38,32],x.args.getD (k+1) aH,x.op⟩) [0,5] (a4 (ai rfl rfl)) (Or.inl rfl) (by exact (ai (ai rfl rfl) (ai (ai (iE (by simp only[zz,reduceCtorEq])) (ai (iE (by simp only[zz,reduceCtorEq])) (ai rfl (jm _)))) rfl))) (by exact (ai (ai rfl (ai (ai rfl rfl) (ai rfl (ai rfl (fun _ _=>rfl))))) (ai rfl (ai rfl (ai rfl (fun _ _=>rfl)))))) (ai ⟨hga _ hy,by show (x.args.getD (k+1) aH).size≤256;omega,hnm,hnl,by show (aD nm (bs) [32,38,32] x.op x.args (k+1)++[32,38,32]).length+110*(x.args.getD (k+1) aH).size≤_;rw[aaH];show (aD nm (bs) [32,38,32] x.op x.args (k+1)).length+3+110*(x.args.getD (k+1) aH).size≤_;omega⟩ (by show (x.args.getD (k+1) aH).size≤n;omega)) ?_
     have eN:aD nm (bs) [32,38,32] x.op x.args (k+1)++[32,38,32]++bZ nm (x.args.getD (k+1) aH) x.op=aD nm (bs) [32,38,32] x.op x.args (k+1+1):=by
      rw[eO nm _ ho.1,iV h5]
     refine ei ((k+1)+1) (ai (ai rfl rfl) (ai (ai (ai rfl (ai (ai rfl rfl) (ai (ai rfl rfl) (ai (ai (ai (fun _=>rfl) (aM (by omega))) rfl) (ai (ai (ai (ai rfl rfl) rfl) (ai (ai rfl (ai rfl (ai ?_ ?_))) (ai (ai nof (ai rfl (fun _ _=>rfl))) rfl))) trivial))))) rfl) (ai (ai (iL (by omega)) trivial) (iM (by omega)))))
     ·exact congrArg List.length eN
     ·exact fun j _=>congrArg (fun l=>[cP (l.getD j 0)]) eN
    ·exact absurd (ark k) h6
   ·have hke:k+1=x.args.length:=by omega
    have eT:aD nm (bs) [32,38,32] x.op x.args (k+1)=bs++bB nm x:=by
     rw[hke,jv,hA];unfold lV;rw[if_neg h4]
    refine ei [0,3] (ai (ai rfl (ai rfl rfl)) (ai (by exact trivial) ?_))
    refine (ai (ai rfl (ai (ai rfl rfl) (ai rfl (ai rfl (fun _ _=>rfl))))) (ai rfl (ai rfl (ai ?_ ?_))))
    ·exact congrArg List.length (eT.trans (congrArg (fun t=>bs++t) hW.symm))
    ·exact fun k _=>congrArg (fun l=>[cP (l.getD k 0)]) (eT.trans (congrArg (fun t=>bs++t) hW.symm))
theorem aq0 (n:Nat) (ih:bV Tryz.prog 141 (pW n)):bV Tryz.prog 141 (zf (n+1) fun a=>a.st=false∧(a.x.op=3∧a.out=4)):=by
 refine gP (Tb:=tab) mixed ay Tryz.func141 rfl rfl ?_
 rintro ⟨st,nm,bs,x,out⟩ hpre
 refine ai (ai rfl (ai rfl rfl)) ?_
 obtain ⟨hpre,hst,hQ⟩:=hpre
 obtain rfl:st=false:=hst
 obtain ⟨⟨hg,hs,hnm,hnl,hlen⟩,hn⟩:=hpre
 have hn:x.size≤n+1:=hn
 have hg:gU nm.length x:=hg
 have hs:x.size≤256:=hs
 have hnm:l7 nm:=hnm
 have hnl:nm.length≤256:=hnl
 have hlen:bs.length+110*x.size≤500000:=hlen
 have hsp:=size_pos x
 have hal:=gN x
 have hsz:=x.size_eq
 obtain ⟨hn0,hga⟩:=(fV _ _).1 hg
 obtain ⟨ho,hle,hi⟩:=dW hn0
 have hA:=fJ nm x
 have hQ:x.op=3∧out=4:=hQ
 refine ah (p:=x.op=0) (bC (by omega)) (fun h0=>?_) (fun h0=>?_)
 ·exact absurd h0 (by omega)
 rw[if_neg h0] at hA
 refine ah (p:=x.op=1) (bC (by omega)) (fun h1=>?_) (fun h1=>?_)
 ·exact absurd h1 (by omega)
 rw[if_neg h1] at hA
 refine ah (p:=x.op=2) (bC (by omega)) (fun h2=>?_) (fun h2=>?_)
 ·exact absurd h2 (by omega)
 rw[if_neg h2] at hA
 have h34:¬x.op=4→x.op=3:=fun h=>by omega
 have hl2:2≤x.args.length:=by
  have:dS x.op=2:=by unfold dS;rw[if_neg h2,if_pos (by omega)]
  omega
 have hW:bZ nm x out=bB nm x:=by
  unfold bZ ni;rw[hQ.1,hQ.2];simp[nk]
 refine ah (p:=0≤out) (bX (by omega)) (fun h3=>?_) (fun h3=>?_)
 ·refine ah (p:=x.op=4) (bC (by omega)) (fun h4=>?_) (fun h4=>?_)
  ·exact absurd h4 (by omega)
  ·refine bH (p:=out=4) (bU (by omega)) (fun h5=>?_) (fun h5=>?_)
   ·exact absurd hQ.2 h5
   ·refine aZ (b:=false) (by exact beq_eq_false_iff_ne.2 h4) (fun h=>absurd h (by decide)) (fun _=>?_)
    refine ei (bG.inv { X:=Nat,up:=fun k=>[(71,.s (iA k))],uo:=fun k=>[⟨0,202,[.s (tQ false k),.rw 5 1 (aD nm (bs) [32,38,32] x.op x.args k).length (fun j=>[cP ((aD nm (bs) [32,38,32] x.op x.args k).getD j 0)]),.s (nH nm)]⟩],inv:=fun k=>k≤x.args.length∧(True),meas:=fun k=>x.args.length-k,x0:=0 }) ?_
    refine ai (ai (ai (by exact (a4 (ai rfl rfl))) (ai ?_ ?_)) rfl) (ai (ai (ac7 _) ?_) ?_)
    ·exact (ai (ai (fun _=>rfl) (iE (by simp only[zz,reduceCtorEq];rfl))) rfl)
    ·refine (ai (ai (ai (ai nof rfl) rfl) (ai (ai rfl (ai rfl (ai ?_ ?_))) (ai (ai nof (ai rfl (fun _ _=>rfl))) rfl))) trivial)
     ·exact congrArg List.length (bE nm (bs) [32,38,32] x.op x.args).symm
     ·exact fun j _=>congrArg (fun l=>[cP (l.getD j 0)]) (bE nm (bs) [32,38,32] x.op x.args).symm
    ·trivial
    intro (k:Nat) ⟨hk,_⟩
    have hpl:=jw (nm:=nm) (base:=bs) (sep:=[32,38,32]) (o:=x.op) hnm rfl hk
    cases k with
    | zero=>
     have hk0:0<x.args.length:=by omega
     refine ah (p:=0<x.args.length) (ak (by dsimp only;omega)) (fun h5=>?_) (fun h5=>?_)
     ·refine ai (ai (abr _) (iN (n:=x.args.length) (by omega))) (ai rfl ?_)
      have hy:x.args.getD 0 aH∈x.args:=abv (fF hk0)
      have hms:=bT hy
      have hb0:=congrArg List.length (bE nm (bs) [32,38,32] x.op x.args)
      have hB:(bs).length≤bs.length+1:=by simp
      refine aS (ih) (⟨false,nm,aD nm (bs) [32,38,32] x.op x.args 0,x.args.getD 0 aH,x.op⟩) [0,3] (a4 (ai rfl rfl)) (Or.inl rfl) (by exact (ai (ai rfl rfl) (ai (ai (iE (by simp only[zz,reduceCtorEq])) (ai (iE (by simp only[zz,reduceCtorEq])) (ai rfl (jm _)))) rfl))) (by exact (ai (ai rfl (ai rfl (ai rfl (ai rfl (fun _ _=>rfl))))) (ai rfl (ai rfl (ai rfl (fun _ _=>rfl)))))) (ai ⟨hga _ hy,by show (x.args.getD 0 aH).size≤256;omega,hnm,hnl,by show (aD nm (bs) [32,38,32] x.op x.args 0).length+110*(x.args.getD 0 aH).size≤_;omega⟩ (by show (x.args.getD 0 aH).size≤n;omega)) ?_
      have eN:aD nm (bs) [32,38,32] x.op x.args 0++bZ nm (x.args.getD 0 aH) x.op=aD nm (bs) [32,38,32] x.op x.args (0+1):=by
       rw[eO nm _ ho.1,bE,jy hk0]
      refine ei (0+1) (ai (ai rfl rfl) (ai (ai (ai rfl (ai (ai rfl rfl) (ai (ai rfl rfl) (ai (ai (ai (fun _=>rfl) (aM (by omega))) rfl) (ai (ai (ai (ai rfl rfl) rfl) (ai (ai rfl (ai rfl (ai ?_ ?_))) (ai (ai nof (ai rfl (fun _ _=>rfl))) rfl))) trivial))))) rfl) (ai (ai (iL (by omega)) trivial) (iM (by omega)))))
      ·exact congrArg List.length eN
      ·exact fun j _=>congrArg (fun l=>[cP (l.getD j 0)]) eN
     ·exact absurd hk0 h5
    | succ k=>
     refine ah (p:=k+1<x.args.length) (ak (by dsimp only;omega)) (fun h5=>?_) (fun h5=>?_)
     ·refine ai (ai (abr _) (iN (n:=x.args.length) (by omega))) (ai rfl ?_)
      have hy:x.args.getD (k+1) aH∈x.args:=abv (fF h5)
      have hms:=bT hy
      have hss:=gV h5
      have hst:=dX x.args (k+1+1)
      have hB:(bs).length≤bs.length+1:=by simp
      rw[if_neg (by omega)] at hpl
      refine ah (p:=0<k+1) (ak (by omega)) (fun h6=>?_) (fun h6=>?_)
      ·refine aS (kC) ((true,nm,aD nm (bs) [32,38,32] x.op x.args (k+1),[32,38,32])) [0,3] (a4 (ai rfl rfl)) (Or.inl rfl) (by exact (ai (ai rfl rfl) rfl)) (by exact (ai (ai rfl (ai (ai rfl rfl) (ai rfl (ai rfl (fun _ _=>rfl))))) (ai rfl (ai rfl (ai rfl (fun _ _=>rfl)))))) (⟨by show (aD nm (bs) [32,38,32] x.op x.args (k+1)).length≤1000000;omega,by show ([32,38,32]:List UInt8).length≤1000000;simp⟩) ?_
       refine aS (ih) (⟨true,nm,aD nm (bs) [32,38,32] x.op x.args (k+1)++[32,38,32],x.args.getD (k+1) aH,x.op⟩) [0,5] (a4 (ai rfl rfl)) (Or.inl rfl) (by exact (ai (ai rfl rfl) (ai (ai (iE (by simp only[zz,reduceCtorEq])) (ai (iE (by simp only[zz,reduceCtorEq])) (ai rfl (jm _)))) rfl))) (by exact (ai (ai rfl (ai (ai rfl rfl) (ai rfl (ai rfl (fun _ _=>rfl))))) (ai rfl (ai rfl (ai rfl (fun _ _=>rfl)))))) (ai ⟨hga _ hy,by show (x.args.getD (k+1) aH).size≤256;omega,hnm,hnl,by show (aD nm (bs) [32,38,32] x.op x.args (k+1)++[32,38,32]).length+110*(x.args.getD (k+1) aH).size≤_;rw[aaH];show (aD nm (bs) [32,38,32] x.op x.args (k+1)).length+3+110*(x.args.getD (k+1) aH).size≤_;omega⟩ (by show (x.args.getD (k+1) aH).size≤n;omega)) ?_
       have eN:aD nm (bs) [32,38,32] x.op x.args (k+1)++[32,38,32]++bZ nm (x.args.getD (k+1) aH) x.op=aD nm (bs) [32,38,32] x.op x.args (k+1+1):=by
        rw[eO nm _ ho.1,iV h5]
       refine ei ((k+1)+1) (ai (ai rfl rfl) (ai (ai (ai rfl (ai (ai rfl rfl) (ai (ai rfl rfl) (ai (ai (ai (fun _=>rfl) (aM (by omega))) rfl) (ai (ai (ai (ai rfl rfl) rfl) (ai (ai rfl (ai rfl (ai ?_ ?_))) (ai (ai nof (ai rfl (fun _ _=>rfl))) rfl))) trivial))))) rfl) (ai (ai (iL (by omega)) trivial) (iM (by omega)))))
       ·exact congrArg List.length eN
       ·exact fun j _=>congrArg (fun l=>[cP (l.getD j 0)]) eN
      ·exact absurd (ark k) h6
     ·have hke:k+1=x.args.length:=by omega
      have eT:aD nm (bs) [32,38,32] x.op x.args (k+1)=bs++bB nm x:=by
       rw[hke,jv,hA];unfold lV;rw[if_neg h4]
      refine aZ (b:=false) (by exact bne_eq_false_iff_eq.2 hQ.2) (fun h=>absurd h (by decide)) (fun _=>?_)
      refine ei [0,3] (ai (ai rfl (ai rfl rfl)) (ai (by exact trivial) ?_))
      refine (ai (ai rfl (ai (ai rfl rfl) (ai rfl (ai rfl (fun _ _=>rfl))))) (ai rfl (ai rfl (ai ?_ ?_))))
      ·exact congrArg List.length (eT.trans (congrArg (fun t=>bs++t) hW.symm))
      ·exact fun k _=>congrArg (fun l=>[cP (l.getD k 0)]) (eT.trans (congrArg (fun t=>bs++t) hW.symm))
 ·exact absurd h3 (by omega)
theorem ajE (n:Nat) (ih:bV Tryz.prog 141 (pW n)):bV Tryz.prog 141 (pW (n+1)):=by
 refine ⟨(apP n ih).1,fun a hp base E vs w hg hh hA=>?_⟩
 have hop:a.x.op<5:=(dW ((fV _ _).1 hp.1.1).1).1.2
 by_cases h1:a.st=true
 ·by_cases h2:a.x.op≤2
  ·exact (apP n ih).2 a ⟨hp,h1,h2⟩ base E vs w hg hh hA
  by_cases h3:a.x.op=4
  ·by_cases h4:0≤a.out
   ·exact (aqA n ih).2 a ⟨hp,h1,h3,h4⟩ base E vs w hg hh hA
   ·exact (aqX n ih).2 a ⟨hp,h1,h3,by omega⟩ base E vs w hg hh hA
  ·by_cases h4:a.out<0
   ·exact (aqU n ih).2 a ⟨hp,h1,by omega,h4⟩ base E vs w hg hh hA
   ·by_cases h5:a.out=4
    ·exact (aqJ n ih).2 a ⟨hp,h1,by omega,h5⟩ base E vs w hg hh hA
    ·exact (aqz n ih).2 a ⟨hp,h1,by omega,by omega,h5⟩ base E vs w hg hh hA
 ·have h1:a.st=false:=by simpa using h1
  by_cases h2:a.x.op≤2
  ·exact (aro n ih).2 a ⟨hp,h1,h2⟩ base E vs w hg hh hA
  by_cases h3:a.x.op=4
  ·by_cases h4:0≤a.out
   ·exact (aq1 n ih).2 a ⟨hp,h1,h3,h4⟩ base E vs w hg hh hA
   ·exact (aqB n ih).2 a ⟨hp,h1,h3,by omega⟩ base E vs w hg hh hA
  ·by_cases h4:a.out<0
   ·exact (aqx n ih).2 a ⟨hp,h1,by omega,h4⟩ base E vs w hg hh hA
   ·by_cases h5:a.out=4
    ·exact (aq0 n ih).2 a ⟨hp,h1,by omega,h5⟩ base E vs w hg hh hA
    ·exact (aq3 n ih).2 a ⟨hp,h1,by omega,by omega,h5⟩ base E vs w hg hh hA
theorem aiP:∀n,bV Tryz.prog 141 (pW n)
 | 0=>by
  refine gP (Tb:=tab) mixed ay Tryz.func141 rfl rfl ?_
  rintro (a:WrA) hpre
  refine ai (ai rfl (ai rfl rfl)) ?_
  have:=size_pos a.x
  exact absurd hpre.2 (by show ¬a.x.size≤0;omega)
 | n+1=>ajE n (aiP n)
theorem agc:bV Tryz.prog 141 wrS:=ahs (fun a:WrA=>a.x.size) aiP
theorem ajD (c:UInt8) (h:jl c=true):iU c=true:=by
 unfold jl eH jO uI at h
 unfold iU gY
 simp only[aqo,ahX,decide_eq_true_eq] at h ⊢
 omega
theorem ahF (c:UInt8) (h:jO c=true):gY c=true:=by
 unfold jO at h
 unfold gY
 simp only[aqo,ahX,decide_eq_true_eq] at h ⊢
 omega
theorem ajQ {s:List UInt8} (h:eu s=0):s.length≤24∧resE s=false∧jU s=true:=by
 unfold eu at h
 split at h
 ·cases h
 rename_i h1
 split at h
 ·cases h
 rename_i h2
 split at h
 ·rename_i h3
  simp only[aqo,not_or,aq6,Bool.not_eq_true,Bool.not_eq_false'] at h2
  obtain ⟨⟨h4,h5⟩,h6⟩:=h2
  refine ⟨by omega,h6,?_⟩
  unfold jU
  rw[anu.2 fun c hc=>ajD c (anu.1 h3 c hc),h4,ahF _ (by simpa using h5)];rfl
 ·cases h
def aa7 (b:Bool) (s:List UInt8):Bool:=decide (s.length≤24)&&(jU s&&(resE s==b))
theorem aej {b:Bool} {s:List UInt8} (h:aa7 b s=true):s.length≤24∧jU s=true∧resE s=b:=by
 unfold aa7 at h
 simp only[ahX,decide_eq_true_eq,beq_iff_eq] at h
 exact ⟨h.1,h.2.1,h.2.2⟩
theorem alN {n:Nat} (h:n≤6):(eP n).all (aa7 true)=true∧(eP n).Nodup∧(eP n).all (fun s=>s.getD 0 0 != 121)=true:=by
 have:∀n:Fin 7,(eP n.1).all (aa7 true)=true∧(eP n.1).Nodup∧(eP n.1).all (fun s=>s.getD 0 0 != 121)=true:=by decide +kernel
 exact this ⟨n,by omega⟩
theorem alJ {n:Nat} (h:n≤24):(jS n).all (aa7 true)=true∧(jS n).Nodup∧(jS n).all (fun s=>s.getD 0 0==121)=true:=by
 have:∀n:Fin 25,(jS n.1).all (aa7 true)=true∧(jS n.1).Nodup∧(jS n.1).all (fun s=>s.getD 0 0==121)=true:=by decide +kernel
 exact this ⟨n,by omega⟩
theorem aiw {α:Type} [BEq α] [LawfulBEq α] {x:α} {l:List α}:l.any (fun y=>x==y)=false↔x∉l:=by
 rw[asE]
 constructor
 ·intro h hx;exact h x hx (by simp)
 ·intro h y hy e;exact h (by rw[beq_iff_eq.1 e];exact hy)
theorem ajT {α:Type} {l:List α} {k:Nat} {d:α} (hn:l.Nodup) (hk:k<l.length):l.getD k d∉l.take k:=by
 have h1:(l.take (k+1)).Nodup:=hn.sublist (List.take_sublist _ _)
 rw[aX d hk,asS] at h1
 intro hx
 exact h1.2.2 _ hx _ (akz.2 rfl) rfl
theorem ae6 {α:Type} {d:α}:∀{l:List α},(∀k,k<l.length→l.getD k d∉l.take k)→l.Nodup:=by
 intro l h
 rw[List.Nodup,asN]
 intro i j hi hj hij e
 refine h j hj ?_
 have e2:l.getD j d=l[j]:=by rw[abo,abm hj];rfl
 rw[e2,←e]
 exact List.mem_iff_getElem.2 ⟨i,by rw[ala];omega,by simp⟩
theorem ahI {l:List (List UInt8)} (h:dZ l=0):(∀s∈l,s.length≤24∧resE s=false∧jU s=true)∧l.Nodup:=by
 unfold dZ at h
 split at h
 ·cases h
 have h1:=pF h
 have key:∀k,k<l.length→eu (l.getD k [])=0∧l.getD k []∉l.take k:=fun k hk=>by
  have h2:=h1 k hk
  unfold sF at h2
  split at h2
  ·rename_i h3;exact absurd h2 h3
  rename_i h3
  split at h2
  ·cases h2
  rename_i h4
  exact ⟨arj.1 h3,aiw.1 (ar2.2 h4)⟩
 refine ⟨fun s hs=>?_,ae6 (d:=[]) fun k hk=>(key k hk).2⟩
 obtain ⟨k,hk,rfl⟩:=aqc hs
 have:=(key k hk).1
 rw[abo,abm hk] at this
 exact ajQ this
theorem kX {c:bD} (h:bJ c=0):(∀s∈bQ c,s.length≤24∧jU s=true)∧(bQ c).Nodup∧((bQ c).length:Int)=oJ c∧(bQ c).length≤52:=by
 obtain ⟨h1,h2,h3,_⟩:=jN h
 have hi:=ahI h2
 have hil:=sG h2
 obtain ⟨a1,a2,a3⟩:=alN (n:=c.act.toNat) (by omega)
 obtain ⟨b1,b2,b3⟩:=alJ (n:=c.sts.length) (by omega)
 have A:∀s∈eP c.act.toNat,s.length≤24∧jU s=true∧resE s=true:=fun s hs=>aej (anu.1 a1 s hs)
 have B:∀s∈jS c.sts.length,s.length≤24∧jU s=true∧resE s=true:=fun s hs=>aej (anu.1 b1 s hs)
 refine ⟨fun s hs=>?_,?_,?_,?_⟩
 ·unfold bQ at hs
  simp only[akI] at hs
  rcases hs with (hs | hs) | hs
  ·exact ⟨(A s hs).1,(A s hs).2.1⟩
  ·exact ⟨(hi.1 s hs).1,(hi.1 s hs).2.2⟩
  ·exact ⟨(B s hs).1,(B s hs).2.1⟩
 ·unfold bQ
  rw[asS,asS]
  refine ⟨⟨a2,hi.2,fun x hx y hy e=>?_⟩,b2,fun x hx y hy e=>?_⟩
  ·subst e;have:=(A x hx).2.2;rw[(hi.1 x hy).2.1] at this;cases this
  ·subst e
   rcases akI.1 hx with hx | hx
   ·have p:=anu.1 a3 x hx
    have q:=anu.1 b3 x hy
    rw[beq_iff_eq] at q
    rw[q] at p;cases p
   ·have:=(B x hy).2.2;rw[(hi.1 x hx).2.1] at this;cases this
 ·unfold bQ oJ
  rw[aaH,aaH,wO,wQ];omega
 ·unfold bQ
  rw[aaH,aaH,wO,wQ];omega
theorem adu {c:bD} (h:bJ c=0):jH (bQ c)=0:=by
 obtain ⟨h1,h2,_,h3⟩:=kX h
 unfold jH
 rw[if_neg (by omega)]
 refine gK fun k hk=>?_
 have hm:(bQ c).getD k []∈bQ c:=abv (bY [] hk)
 have:=h1 _ hm
 unfold qc
 rw[if_neg (by rw[this.2];decide),if_neg (by omega),if_neg]
 rw[aiw.2 (ajT h2 hk)];decide
theorem acM {nm:NM} {o:Int}:∀(l:List Ex),(∀x∈l,(bB nm x).length+5≤34*x.size)→((l.map (eF nm o)).map fun t=>t.length+3).sum≤34*sizes l
 | [],_=>by simp
 | x :: l,h=>by
  have h1:=h x (by simp)
  have h2:=acM (nm:=nm) (o:=o) l fun y hy=>h y (by simp[hy])
  have h3:=uf (wN o x.op) (bB nm x)
  rw[sizes]
  simp only[apI,atb] at h2 ⊢
  unfold eF at h2 ⊢
  omega
theorem xL {nm:NM} (hnm:∀k,(nm.getD k []).length≤24):∀(n:Nat) (x:Ex),x.size≤n→(bB nm x).length+5≤34*x.size
 | 0,x,h=>by have:=size_pos x;omega
 | n+1,x,h=>by
  have hsz:=x.size_eq
  have ih:∀y∈x.args,(bB nm y).length+5≤34*y.size:=fun y hy=>xL hnm n y (by have:=bT hy;omega)
  have h4:=acM (nm:=nm) (o:=x.op) x.args ih
  rw[fJ]
  split
  ·simp;omega
  ·split
   ·have:=hnm x.idx.toNat;omega
   ·split
    ·cases hc:x.args with
     | nil=>simp;omega
     | cons y l=>
      rw[hc,sizes] at hsz
      have h1:=ih y (by rw[hc];simp)
      have h3:=uf (wN x.op y.op) (bB nm y)
      simp only[apI,List.headD_cons,aio]
      unfold eF
      omega
    ·have h5:=aam (lV x.op) (x.args.map (eF nm x.op))
     rw[afp] at h5
     omega
theorem abM {c:bD} (h:bJ c=0) (k:Nat):((bQ c).getD k []).length≤24:=by
 rcases arf k (bQ c).length with hk | hk
 ·exact ((kX h).1 _ (abv (bY [] hk))).1
 ·rw[abo,arR hk];simp
theorem fE {a b:ByteArray} {l m:List UInt8} (ha:a=strOf l) (hb:b=strOf m) (h:l.length+m.length≤9223372036854775807):(((a.size+b.size:Nat)):Int)≤9223372036854775807:=by
 subst ha hb;rw[aV,aV];omega
theorem arx (a b c:List UInt8):strOf a++(strOf b++strOf c)=strOf (a++(b++c)):=by rw[aC,aC]
def stepW:List UInt8:=[115,116,101,112,32]
def dh (l:List Sk):List UInt8:=l.flatMap fun y=>32 :: iI y
def ku (w:Int):List UInt8:=if 0<w then 32 :: dec w.toNat else []
def bW (k:Nat):List UInt8:=(stepW++dec k)++[58]
def lnK (k:Nat) (x:Stp):List UInt8:=((bW k++dh x.st)++ku x.wt)++[10]
def aQ (l:List Stp):Nat→List UInt8
 | 0=>[]
 | k+1=>aQ l k++lnK k (l.getD k st0)
def vF (nm:NM) (t:kD):List UInt8:=(((((inT t.fr++[32,62,32])++inT t.to)++[58,32])++bB nm t.wh)++[10])
def iw (nm:NM) (l:List kD):Nat→List UInt8
 | 0=>[]
 | k+1=>iw nm l k++vF nm (l.getD k aG)
def abN (c:bD):List UInt8:=aQ c.sts c.sts.length++iw (bQ c) c.trs c.trs.length
def jL (c:bD):PV:=.tup [sP (if bJ c=0 then abN c else []),iP (bJ c)]
theorem afw:∀(j n:Nat),n<10 ^ j→(qF n).length≤j
 | 0,n,h=>by
  have:n=0:=by rw[Nat.pow_zero] at h;omega
  subst this;simp[qF]
 | j+1,n,h=>by
  rw[zw]
  split
  ·simp
  ·have:=afw j (n / 10) (by rw[Nat.div_lt_iff_lt_mul (by decide)];rw[asF] at h;exact h)
   rw[aaH,aoW];omega
theorem qN {n:Nat} (h:n≤1000000):(dec n).length≤7:=by
 by_cases h0:n=0
 ·subst h0;have:=nU (n:=0) (by decide);omega
 ·have:=afw 7 n (by show n<10 ^ 7;omega)
  unfold qF at this
  rw[if_neg h0] at this;exact this
theorem tK (l:List Sk):(dh l).length=3*l.length:=by
 induction l with
 | nil=>rfl
 | cons x l ih=>
  show ((32 :: iI x)++dh l).length=_
  rw[aaH,ih]
  simp[iI];omega
theorem aol {w:Int} (h:w≤1000000):(ku w).length≤8:=by
 unfold ku
 split
 ·have:=qN (n:=w.toNat) (by omega)
  rw[aio];omega
 ·simp
theorem aj3 {n:Int} {l:List Int} (h0:∀x∈l,0≤x∧x<n) (h1:∀k,0<k→k<l.length→l.getD (k-1) 0<l.getD k 0):(l.length:Int)≤max n 0:=by
 have key:∀k,k<l.length→(k:Int)≤l.getD k 0:=by
  intro k
  induction k with
  | zero=>intro hk;exact (h0 _ (abv (bY 0 hk))).1
  | succ k ih=>
   intro hk
   have:=h1 (k+1) (by omega) hk
   have:=ih (by omega)
   simp only[Nat.add_sub_cancel] at *
   omega
 rcases aq9 l.length with h | h
 ·omega
 ·have h2:=key (l.length-1) (by omega)
  have h3:=(h0 _ (abv (bY 0 (show l.length-1<l.length by omega)))).2
  omega
theorem aft {n:Nat} {l:List Int} (h:iB n l=0) (hn:n≤24):l.length≤24:=by
 have h0:=(aaR h hn).2.1
 unfold iB at h
 split at h
 ·cases h
 have h1:=pF h
 have:=aj3 (n:=(n:Int)) (l:=l) h0 fun k hk hl=>by
  have h2:=h1 k hl
  unfold nG at h2
  split at h2
  ·cases h2
  split at h2
  ·cases h2
  ·rename_i h3;omega
 omega
theorem aoe {act:Int} {x:Stp} (ha:1≤act∧act≤6) (h:fG act x=0):x.st.length≤6∧okS 6 x.st∧0≤x.wt∧x.wt≤1000000:=by
 unfold fG at h
 split at h
 ·rename_i h1;exact absurd h h1
 rename_i h1
 split at h
 ·cases h
 rename_i h2
 have h3:=pF (arj.1 h1)
 have hk:∀k,k<x.st.length→(0≤(x.st.getD k bO).1∧(x.st.getD k bO).1<act)∧(0<k→(x.st.getD (k-1) bO).1<(x.st.getD k bO).1):=fun k hk=>by
  have h4:=h3 k hk
  unfold jG at h4
  split at h4
  ·cases h4
  split at h4
  ·cases h4
  ·rename_i h5 h6;exact ⟨by omega,fun h7=>by omega⟩
 have hs:okS 6 x.st:=fun y hy=>by
  obtain ⟨k,hk1,rfl⟩:=aqc hy
  have:=(hk k hk1).1
  rw[abo,abm hk1] at this
  have this:0≤x.st[k].1∧x.st[k].1<act:=this
  omega
 refine ⟨?_,hs,by omega,by omega⟩
 have gm:∀k,k<x.st.length→(x.st.map (·.1)).getD k 0=(x.st.getD k bO).1:=fun k hk1=>by
  rw[abo,abo,ane,abm hk1];rfl
 have:=aj3 (n:=6) (l:=x.st.map (·.1)) (fun y hy=>by
  obtain ⟨z,hz,rfl⟩:=ar4.1 hy
  exact hs z hz) fun k hk0 hkl=>by
   rw[apg] at hkl
   rw[gm k hkl,gm (k-1) (by omega)]
   exact (hk k hkl).2 hk0
 rw[apg] at this
 omega
theorem wI {c:bD} (h:bJ c=0) {k:Nat} (hk:k<c.sts.length):(c.sts.getD k st0).st.length≤6∧okS 6 (c.sts.getD k st0).st∧0≤(c.sts.getD k st0).wt∧(c.sts.getD k st0).wt≤1000000:=by
 obtain ⟨h1,_,_,_,h5,_⟩:=jN h
 exact aoe h1 (h5 k hk)
theorem sV {k:Nat} (h:k<100):(bW k).length≤8:=by
 have:=nU h
 unfold bW stepW
 simp only[aaH,aio,akY];omega
theorem anY {k:Nat} {x:Stp} (h:k<100) (h1:x.st.length≤6) (h2:x.wt≤1000000):(lnK k x).length≤35:=by
 have h3:=sV h
 have h4:=tK x.st
 have h5:=aol h2
 unfold lnK
 simp only[aaH,aio,akY];omega
theorem xO {c:bD} (h:bJ c=0):∀{k:Nat},k≤c.sts.length→(aQ c.sts k).length≤35*k
 | 0,_=>by simp[aQ]
 | k+1,hk=>by
  have h1:=wI h (k:=k) (by omega)
  have h2:=(jN h).2.2.1
  have h3:=anY (k:=k) (by omega) h1.1 h1.2.2.2
  have h4:=xO h (k:=k) (by omega)
  rw[aQ,aaH];omega
theorem wH {c:bD} (h:bJ c=0) {k:Nat} (hk:k<c.trs.length):((c.trs.getD k aG).fr.length≤24∧(c.trs.getD k aG).to.length≤24)∧(c.trs.getD k aG).to≠[]∧(c.trs.getD k aG).wh.size≤256∧gU (bQ c).length (c.trs.getD k aG).wh:=by
 obtain ⟨_,_,h3,_,_,h6⟩:=jN h
 have h7:=h6 k hk
 have hw:=(kV h hk).2.2
 unfold jd at h7
 split at h7
 ·rename_i h8;exact absurd h7 h8
 rename_i h8
 split at h7
 ·rename_i h9;exact absurd h7 h9
 rename_i h9
 have h9:=arj.1 h9
 have hn:=(kX h).2.2.1
 obtain ⟨_,h10,h11⟩:=vS.1 hw
 refine ⟨⟨aft (arj.1 h8) h3.2,aft h9 h3.2⟩,?_,h10.1,by rw[hn];exact h11⟩
 have:=(aaR h9 h3.2).2.2
 intro e
 rw[e] at this;simp at this
theorem afk {c:bD} (h:bJ c=0):l7 (bQ c):=fun k=>ald (abM h k) (by decide)
theorem ng {n:Nat} {l:List Int} (h:jk n l) (hn:n≤24):jk 100 l:=fun x hx=>by have:=h x hx;omega
theorem aaX {c:bD} (h:bJ c=0) {k:Nat} (hk:k<c.trs.length):((inT (c.trs.getD k aG).fr).length≤72∧(inT (c.trs.getD k aG).to).length≤72)∧(bB (bQ c) (c.trs.getD k aG).wh).length≤28160∧(vF (bQ c) (c.trs.getD k aG)).length≤28310:=by
 obtain ⟨h1,h2,h3,h4⟩:=wH h hk
 have h5:=kV h hk
 have h6:=aea (ng h5.1.1 (by decide))
 have h7:=aea (ng h5.2.1.1 (by decide))
 have h8:=ug (afk h) _ _ (aic (c.trs.getD k aG).wh.size)
 refine ⟨⟨by omega,by omega⟩,by omega,?_⟩
 unfold vF
 simp only[aaH,aio,akY];omega
theorem yu {c:bD} (h:bJ c=0):∀{k:Nat},k≤c.trs.length→(iw (bQ c) c.trs k).length≤28310*k
 | 0,_=>by simp[iw]
 | k+1,hk=>by
  have h1:=aaX h (k:=k) (by omega)
  have h2:=yu h (k:=k) (by omega)
  rw[iw,aaH];omega
def aqw:SV:=.p false (.val (.pointer none))
def apH:Nat→SV
 | 0=>aqw
 | _+1=>.own 1 0
def vT (l:List UInt8) (k:Nat):List PV:=[cP (l.getD k 0)]
theorem gH {l m:List UInt8} (h:l=m) {n:Nat}:∀j,j<n→vT l j=vT m j:=fun j _=>by rw[h]
def qd:SV:=.p false (.val (.pointer none))
def xA:SV:=.p false (.val (.slice none 0 0))
theorem aat {P:Program} {f T:Nat} {A:Type} {args:A→List SV} {rest:A→List SV} {pre:A→Prop} {res:A→SV} {objs':A→List Ob}
  (h:bV P f { A:=A,fix:=1,args:=args,objs:=fun a=>[.cells T (qd :: .row 1 :: rest a),nZ []],pre:=pre,res:=res,objs':=objs' }) :
  bV P f { A:=A,fix:=1,args:=args,objs:=fun a=>[.cells T (qd :: xA :: rest a)],pre:=pre,res:=res,objs':=objs' }:=by
 refine ⟨h.1,fun a hp base E vs w hg H hA=>?_⟩
 have H:bL (aaE w E [.cells T (qd :: xA :: rest a)] base 1) E (iZ [.cells T (qd :: xA :: rest a)]) w:=H
 have hA:kN E vs (args a):=hA
 have hn1:∀i,1≤i→E.hd i=none:=fun i hi=>H.new i hi
 obtain ⟨E2,hE2⟩:∃E2:Env,E2={ E with hd:=fun i=>if i=1 then some (.slice none 0 0) else E.hd i }:=⟨_,rfl⟩
 have hd1:E2.hd 1=some (.slice none 0 0):=by rw[hE2];rfl
 have hdn:∀i,i≠1→E2.hd i=E.hd i:=fun i hi=>by rw[hE2];exact if_neg hi
 have hm:E2.mem=E.mem:=by rw[hE2]
 have ht:E2.tm=E.tm:=by rw[hE2]
 have hws:E2.ws=E.ws:=by rw[hE2]
 have hI:E2.I=E.I:=by rw[hE2]
 have hk:E2.k=E.k:=by rw[hE2]
 have hle:E.Le E2:=⟨fun i v hv=>by
  by_cases hi:i=1
  ·subst hi;rw[hn1 1 (aic _)] at hv;cases hv
  ·rw[hdn i hi];exact hv,fun b cs hb=>by rw[hm];exact hb,ht⟩
 have hbl:∀i,i≠1→E2.blk i=E.blk i:=fun i hi=>by unfold Env.blk;rw[hdn i hi]
 have hb1:E2.blk 1=none:=by unfold Env.blk;rw[hd1];rfl
 have hbor:lD E2.hd [.cells T (qd :: .row 1 :: rest a),nZ []] 0=lD E.hd [.cells T (qd :: xA :: rest a)] 0:=by
  funext b
  refine propext ⟨fun ⟨k,o,_,hk,hb⟩=>?_,fun ⟨k,o,_,hk,hb⟩=>?_⟩
  ·match k with
   | 0=>exact ⟨0,_,aic _,rfl,by rw[←hdn 0 (by decide)];exact hb⟩
   | 1=>rw[hd1] at hb;cases hb
   | k+2=>simp at hk
  ·match k with
   | 0=>exact ⟨0,_,aic _,rfl,by rw[hdn 0 (by decide)];exact hb⟩
   | k+1=>simp at hk
 have hobj:∀i o,(iZ [.cells T (qd :: .row 1 :: rest a),nZ []]).obj i=some o→i=0∧o=.cells T (qd :: .row 1 :: rest a)∨i=1∧o=nZ []:=fun i o ho=>by
  rw[eD] at ho
  match i with
  | 0=>cases ho;exact .inl ⟨rfl,rfl⟩
  | 1=>cases ho;exact .inr ⟨rfl,rfl⟩
  | i+2=>simp at ho
 have ob0:(iZ [.cells T (qd :: xA :: rest a)]).obj 0=some (.cells T (qd :: xA :: rest a)):=by rw[eD];rfl
 have HR:bL (aaE w E2 [.cells T (qd :: .row 1 :: rest a),nZ []] base 1) E2 (iZ [.cells T (qd :: .row 1 :: rest a),nZ []]) w:=by
  refine ⟨fun i o ho=>?_,fun i j o o' b ho ho' hb hb'=>?_,fun i o b ho hb=>?_,fun b cs hb=>H.mem b cs (by rw[←hm];exact hb),fun b cs hb=>hb,fun b cs hb=>.inl hb,fun i hi=>?_,?_,?_,fun k _=>rfl,by show 1≤2;decide,ac7 _,by rw[hk];exact H.kk⟩
  ·rcases hobj i o ho with ⟨rfl,rfl⟩ | ⟨rfl,rfl⟩
   ·cases (H.ob 0 _ ob0).mono hle with
    | cells b T vs cs hh hw hl h1 he=>
     refine .cells b T vs _ hh hw hl h1 fun k u s hu hs=>?_
     match k with
     | 0=>exact he 0 u s hu hs
     | 1=>
      cases hs
      have:=he 1 u xA hu rfl
      cases this with
      | p _ _ _ hp=>cases hp;exact .row 1 _ hd1 rfl
     | k+2=>exact he (k+2) u s hu hs
   ·exact .row 5 1 0 _ _ [] (fun _ _=>undef) hd1 ⟨rfl,.inl ⟨rfl,rfl⟩⟩ (ac7 _) (fun j hj=>absurd hj (ani _)) (fun j _ _ hj=>absurd hj (ani _)) (fun j _ _ hj=>absurd hj (ani _))
  ·rcases hobj i o ho with ⟨rfl,rfl⟩ | ⟨rfl,rfl⟩
   ·rcases hobj j o' ho' with ⟨rfl,rfl⟩ | ⟨rfl,rfl⟩
    ·rfl
    ·rw[hb1] at hb';cases hb'
   ·rw[hb1] at hb;cases hb
  ·rcases hobj i o ho with ⟨rfl,rfl⟩ | ⟨rfl,rfl⟩
   ·have:=H.own 0 _ b ob0 (by rw[←hbl 0 (by decide)];exact hb)
    unfold Env.mine at this ⊢
    rw[hm,hws,hI];exact this
   ·rw[hb1] at hb;cases hb
  ·have hi:2≤i:=hi
   rw[hdn i (by omega)];exact hn1 i (by omega)
  ·rw[ht];exact H.base
  ·obtain ⟨f1,f2,f3,f4,f5,f6,f7,f8,f9⟩:=H.fr
   refine ⟨f1,f2,f3,by rw[hws];exact f4,by rw[hws];exact f5,by rw[hws];exact f6,by rw[hws,hI];exact f7,by rw[hws,hI];exact f8,?_⟩
   obtain ⟨g1,g2,g3⟩:=f9
   exact ⟨by rw[hk];exact g1,by rw[hI];exact g2.trans hbor.symm,by rw[hws];exact g3⟩
 refine (h.2 a hp base E2 vs w (fun p hp=>by rw[hm];exact hg p hp) HR ⟨hA.1,fun k u s hu hs=>(hA.2 k u s hu hs).mono hle⟩).mono fun e w' ⟨v,E',he,hv,R⟩=>⟨v,E',he,hv,?_⟩
 obtain ⟨r1,r2,r3,r4,r5,r6,r7,r8,⟨f1,f2,f3,f4,f5,f6,f7,f8,g1,g2,g3⟩,r10,r11,r12,r13⟩:=R
 refine ⟨r1,r2,r3,r4,fun b cs hb=>r5 b cs (by show E2.mem b=some cs;rw[hm];exact hb),fun b cs hb=>(r6 b cs hb).imp (fun hb=>by show E.mem b=some cs;rw[←hm];exact hb) id,r7,r8,⟨f1,f2,f3,f4,f5,f6,f7,f8,g1,g2.trans hbor,g3⟩,fun k hk=>(r10 k hk).trans (hdn k (by have hk:k<1:=hk;omega)),r11,r12,r13⟩
theorem alU {sep:List UInt8} {l:List (List UInt8)} (hs:sep≠[]) (h:2≤l.length):jE sep l≠[]:=by
 match l with
 | x :: y :: l=>
  intro e
  have:(jE sep (x :: y :: l)).length=0:=by rw[e];rfl
  simp only[jE,aaH] at this
  have:sep.length=0:=by omega
  exact hs (aqm.1 this)
theorem afA {nm:NM} {x:Ex} (hg:gU nm.length x) (hn:∀s∈nm,s≠[]):bB nm x≠[]:=by
 obtain ⟨hn0,_⟩:=(fV _ _).1 hg
 obtain ⟨ho,hle,hi⟩:=dW hn0
 rw[fJ]
 split
 ·simp
 rename_i h0
 split
 ·rename_i h1
  have ht:oV x.op nm.length=nm.length-1:=by unfold oV;rw[if_neg h0,if_pos h1]
  rw[ht] at hi
  exact hn _ (abv (bY [] (show x.idx.toNat<nm.length by omega)))
 rename_i h1
 split
 ·simp
 ·rename_i h2
  have:dS x.op=2:=by unfold dS;rw[if_neg h2,if_pos (by omega)]
  exact alU (by unfold lV;split<;>simp) (by rw[apg];omega)
theorem ah4 {nm:NM} {x:Ex} {out:Int} (h:out<0):bZ nm x out=bB nm x:=by
 unfold bZ ni
 rw[decide_eq_false (show ¬0≤out by omega),aqd,ara];rfl
def wrC (Q:WrA→Prop):nN:={ pW 0 with pre:=fun a=>ac5 a∧Q a }
theorem arG:bV Tryz.prog 141 (wrC fun a=>a.st=true∧a.x.op=1):=by
 refine gP (Tb:=tab) mixed ay Tryz.func141 rfl rfl ?_
 rintro ⟨st,nm,bs,x,out⟩ hpre
 refine ai (ai rfl (ai rfl rfl)) ?_
 obtain ⟨⟨hg,hs,hnm,hnl,hlen⟩,hst,hQ⟩:=hpre
 obtain rfl:st=true:=hst
 have hg:gU nm.length x:=hg
 have hnm:l7 nm:=hnm
 have hlen:bs.length+110*x.size≤500000:=hlen
 obtain ⟨hn0,hga⟩:=(fV _ _).1 hg
 obtain ⟨ho,hle,hi⟩:=dW hn0
 have hA:=fJ nm x
 have hQ:x.op=1:=hQ
 refine ah (p:=x.op=0) (bC (by omega)) (fun h0=>?_) (fun h0=>?_)
 ·exact absurd h0 (by omega)
 rw[if_neg h0] at hA
 refine ah (p:=x.op=1) (bC (by omega)) (fun h1=>?_) (fun h1=>?_)
 ·rw[if_pos h1] at hA
  have hnk:(nm.getD x.idx.toNat []).length≤100:=hnm _
  have ht:oV x.op nm.length=nm.length-1:=by rw[h1];rfl
  rw[ht] at hi
  have hW:bZ nm x out=nm.getD x.idx.toNat []:=by
   unfold bZ ni;rw[hA,h1];rfl
  refine ei (.one 0 (.one 1 (.one 2 (.one 3 (.one 4 (.one 5 (.one 6 (.one 7 (.one 8 (.one 9 (.one 10 (.wr 11 .done)))))))))))) (ai (by kernel_rfl) ?_)
  refine ai (ai hi.1 (by show x.idx<(nm.length:Int);omega)) ?_
  refine ai rfl ?_
  refine aS (kC) ((true,nm,bs,nm.getD x.idx.toNat [])) [0,1] (a4 (ai rfl rfl)) (Or.inl rfl) (by exact (ai (ai rfl rfl) rfl)) (by exact (ai (ai rfl (ai (ai rfl rfl) (ai rfl (ai rfl (fun _ _=>rfl))))) (ai rfl (ai rfl (ai rfl (fun _ _=>rfl)))))) (⟨by show bs.length≤1000000;omega,by show (nm.getD x.idx.toNat []).length≤1000000;exact ald hnk (by decide)⟩) ?_
  refine ei [0,3] (ai (ai rfl (ai rfl rfl)) (ai (by exact trivial) ?_))
  refine (ai (ai rfl (ai (ai rfl rfl) (ai rfl (ai rfl (fun _ _=>rfl))))) (ai rfl (ai rfl (ai ?_ ?_))))
  ·exact congrArg List.length (congrArg (fun t=>bs++t) hW.symm)
  ·exact fun k _=>congrArg (fun l=>[cP (l.getD k 0)]) (congrArg (fun t=>bs++t) hW.symm)
 exact absurd hQ h1
theorem alR:bV Tryz.prog 141 (wrC fun a=>a.st=false∧a.x.op=1):=by
 refine gP (Tb:=tab) mixed ay Tryz.func141 rfl rfl ?_
 rintro ⟨st,nm,bs,x,out⟩ hpre
 refine ai (ai rfl (ai rfl rfl)) ?_
 obtain ⟨⟨hg,hs,hnm,hnl,hlen⟩,hst,hQ⟩:=hpre
 obtain rfl:st=false:=hst
 have hg:gU nm.length x:=hg
 have hnm:l7 nm:=hnm
 have hlen:bs.length+110*x.size≤500000:=hlen
 obtain ⟨hn0,hga⟩:=(fV _ _).1 hg
 obtain ⟨ho,hle,hi⟩:=dW hn0
 have hA:=fJ nm x
 have hQ:x.op=1:=hQ
 refine ah (p:=x.op=0) (bC (by omega)) (fun h0=>?_) (fun h0=>?_)
 ·exact absurd h0 (by omega)
 rw[if_neg h0] at hA
 refine ah (p:=x.op=1) (bC (by omega)) (fun h1=>?_) (fun h1=>?_)
 ·rw[if_pos h1] at hA
  have hnk:(nm.getD x.idx.toNat []).length≤100:=hnm _
  have ht:oV x.op nm.length=nm.length-1:=by rw[h1];rfl
  rw[ht] at hi
  have hW:bZ nm x out=nm.getD x.idx.toNat []:=by
   unfold bZ ni;rw[hA,h1];rfl
  refine ei (.one 0 (.one 1 (.one 2 (.one 3 (.one 4 (.one 5 (.one 6 (.one 7 (.one 8 (.one 9 (.one 10 (.wr 11 .done)))))))))))) (ai (by kernel_rfl) ?_)
  refine ai (ai hi.1 (by show x.idx<(nm.length:Int);omega)) ?_
  refine ai rfl ?_
  refine aS (kC) ((false,nm,bs,nm.getD x.idx.toNat [])) [0,1] (a4 (ai rfl rfl)) (Or.inl rfl) (by exact (ai (ai rfl rfl) rfl)) (by exact (ai (ai rfl (ai rfl (ai rfl (ai rfl (fun _ _=>rfl))))) (ai rfl (ai rfl (ai rfl (fun _ _=>rfl)))))) (⟨by show bs.length≤1000000;omega,by show (nm.getD x.idx.toNat []).length≤1000000;exact ald hnk (by decide)⟩) ?_
  refine ei [0,3] (ai (ai rfl (ai rfl rfl)) (ai (by exact trivial) ?_))
  refine (ai (ai rfl (ai (ai rfl rfl) (ai rfl (ai rfl (fun _ _=>rfl))))) (ai rfl (ai rfl (ai ?_ ?_))))
  ·exact congrArg List.length (congrArg (fun t=>bs++t) hW.symm)
  ·exact fun k _=>congrArg (fun l=>[cP (l.getD k 0)]) (congrArg (fun t=>bs++t) hW.symm)
 exact absurd hQ h1
end Go.Sx.Pe
