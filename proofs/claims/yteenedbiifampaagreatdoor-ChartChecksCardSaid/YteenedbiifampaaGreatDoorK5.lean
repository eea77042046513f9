/- ChartChecks, part 5 of its proof: declarations that the last part uses. -/
import Derived.Test.YteenedbiifampaaGreatDoorK4
set_option maxHeartbeats 1000000
set_option maxRecDepth 4000
set_option linter.unusedSimpArgs false
set_option linter.unusedVariables false
set_option linter.unusedSectionVars false
namespace Go.Sx.Pe
open Go Go.Proofs Go.Sx.Pn
def apR:Spec:=cu (fun c:bD=>[kF c]) jP (fun c=>iP (bJ c))
theorem aav:aL Tryz.prog 26 apR:=by
 refine bg (Tb:=tab) mixed ay Tryz.func26 rfl rfl ?_
 rintro (c:bD) hpre
 refine ai (ai rfl (ai rfl rfl)) ?_
 obtain ⟨hst,htr⟩:=hpre
 refine ah (p:=c.act<1) (ak (by omega)) (fun h1=>?_) (fun h1=>?_)
 ·refine ai (ai (fun _=>trivial) ?_) trivial
  show au _ (iP (bJ c))
  rw[bJ,if_pos (.inl h1)]
  exact rfl
 refine ah (p:=6<c.act) (ak (by omega)) (fun h2=>?_) (fun h2=>?_)
 ·refine ai (ai (fun _=>trivial) ?_) trivial
  show au _ (iP (bJ c))
  rw[bJ,if_pos (.inr h2)]
  exact rfl
 have e0:¬(c.act<1∨6<c.act):=fun h=>h.elim h1 h2
 refine ei _ (ai (akr) (ei (c.ins) (ei [] (ai (a4 (ai (fun _=>Or.inl rfl) (ai nof (Or.inl rfl)))) (ai (by exact (ai rfl (fun _ _=>rfl))) (ai trivial (ai (trivial) ?_)))))))
 refine bH (p:=dZ c.ins=0) (bU (by omega)) (fun h3=>?_) (fun h3=>?_)
 ·refine ai (ai (fun _=>trivial) ?_) trivial
  show au _ (iP (bJ c))
  rw[bJ,if_neg e0,if_pos h3]
  exact rfl
 have h16:=sG h3
 have e1:¬¬dZ c.ins=0:=fun h=>h h3
 refine ah (p:=c.sts.length=0) (bC (by omega)) (fun h4=>?_) (fun h4=>?_)
 ·refine ai (ai (fun _=>trivial) ?_) trivial
  show au _ (iP (bJ c))
  rw[bJ,if_neg e0,if_neg e1,if_pos h4]
  exact rfl
 refine ah (p:=24<c.sts.length) (ak (by omega)) (fun h5=>?_) (fun h5=>?_)
 ·refine ai (ai (fun _=>trivial) ?_) trivial
  show au _ (iP (bJ c))
  rw[bJ,if_neg e0,if_neg e1,if_neg h4,if_pos (.inl h5)]
  exact rfl
 refine ah (p:=32<c.trs.length) (ak (by omega)) (fun h6=>?_) (fun h6=>?_)
 ·refine ai (ai (fun _=>trivial) ?_) trivial
  show au _ (iP (bJ c))
  rw[bJ,if_neg e0,if_neg e1,if_neg h4,if_pos (.inr h6)]
  exact rfl
 have e2:¬(24<c.sts.length∨32<c.trs.length):=fun h=>h.elim h5 h6
 refine ei (.seq [0,1,2,3,4,5]) (ai (by kernel_rfl) ?_)
 refine ei _ (ai (ajk) (ei ((c,c.sts)) (ei [] (ai (a4 (ai (fun _=>Or.inl rfl) (ai nof (Or.inl rfl)))) (ai (by exact (ai (ai rfl (fun _ _=>rfl)) (ai rfl rfl))) (ai trivial (ai (⟨by show c.sts.length≤1000000;omega,hst⟩) ?_)))))))
 refine bH (p:=dN (fun k=>fG c.act (c.sts.getD k st0)) c.sts.length=0) (bU (by dsimp only;omega)) (fun h7=>?_) (fun h7=>?_)
 ·refine ai (ai (fun _=>trivial) ?_) trivial
  show au _ (iP (bJ c))
  rw[bJ,if_neg e0,if_neg e1,if_neg h4,if_neg e2,if_pos h7]
  exact rfl
 have hsm:aah c:=⟨by omega,by omega,by omega,by omega⟩
 refine ei _ (ai (ajf) (ei ((c,c.trs)) (ei [] (ai (a4 (ai (fun _=>Or.inl rfl) (ai nof (Or.inl rfl)))) (ai (by exact (ai (ai rfl (fun _ _=>rfl)) (ai rfl rfl))) (ai trivial (ai (⟨by show c.trs.length≤1000000;omega,hsm,htr⟩) ?_)))))))
 refine ai (ai (fun _=>trivial) ?_) trivial
 show au _ (iP (bJ c))
 rw[bJ,if_neg e0,if_neg e1,if_neg h4,if_neg e2,if_neg (fun h=>h h7)]
 exact rfl
theorem wC:aL Tryz.prog 27 apR:=by
 refine bg (Tb:=tab) mixed ay Tryz.func27 rfl rfl ?_
 rintro (c:bD) hpre
 refine ai (ai rfl (ai rfl rfl)) ?_
 obtain ⟨hst,htr⟩:=hpre
 refine ah (p:=c.act<1) (ak (by omega)) (fun h1=>?_) (fun h1=>?_)
 ·refine ai (ai (fun _=>trivial) ?_) trivial
  show au _ (iP (bJ c))
  rw[bJ,if_pos (.inl h1)]
  exact rfl
 refine ah (p:=6<c.act) (ak (by omega)) (fun h2=>?_) (fun h2=>?_)
 ·refine ai (ai (fun _=>trivial) ?_) trivial
  show au _ (iP (bJ c))
  rw[bJ,if_pos (.inr h2)]
  exact rfl
 have e0:¬(c.act<1∨6<c.act):=fun h=>h.elim h1 h2
 refine ei _ (ai (aiV) (ei (c.ins) (ei [] (ai (a4 (ai (fun _=>Or.inl rfl) (ai nof (Or.inl rfl)))) (ai (by exact (ai rfl (fun _ _=>rfl))) (ai trivial (ai (trivial) ?_)))))))
 refine bH (p:=dZ c.ins=0) (bU (by omega)) (fun h3=>?_) (fun h3=>?_)
 ·refine ai (ai (fun _=>trivial) ?_) trivial
  show au _ (iP (bJ c))
  rw[bJ,if_neg e0,if_pos h3]
  exact rfl
 have h16:=sG h3
 have e1:¬¬dZ c.ins=0:=fun h=>h h3
 refine ah (p:=c.sts.length=0) (bC (by omega)) (fun h4=>?_) (fun h4=>?_)
 ·refine ai (ai (fun _=>trivial) ?_) trivial
  show au _ (iP (bJ c))
  rw[bJ,if_neg e0,if_neg e1,if_pos h4]
  exact rfl
 refine ah (p:=24<c.sts.length) (ak (by omega)) (fun h5=>?_) (fun h5=>?_)
 ·refine ai (ai (fun _=>trivial) ?_) trivial
  show au _ (iP (bJ c))
  rw[bJ,if_neg e0,if_neg e1,if_neg h4,if_pos (.inl h5)]
  exact rfl
 refine ah (p:=32<c.trs.length) (ak (by omega)) (fun h6=>?_) (fun h6=>?_)
 ·refine ai (ai (fun _=>trivial) ?_) trivial
  show au _ (iP (bJ c))
  rw[bJ,if_neg e0,if_neg e1,if_neg h4,if_pos (.inr h6)]
  exact rfl
 have e2:¬(24<c.sts.length∨32<c.trs.length):=fun h=>h.elim h5 h6
 have hA:bJ c=if ¬dN (fun k=>fG c.act (c.sts.getD k st0)) c.sts.length=0 then dN (fun k=>fG c.act (c.sts.getD k st0)) c.sts.length else dN (fun k=>jd c (c.trs.getD k aG)) c.trs.length:=by
  unfold bJ;rw[if_neg e0,if_neg e1,if_neg h4,if_neg e2]
 refine ei (bG.inv { X:=Nat,up:=fun k=>[(4,.s (iA k))],uo:=fun k=>[],inv:=fun k=>k≤c.sts.length∧(∀j,j<k→fG c.act (c.sts.getD j st0)=0),meas:=fun k=>c.sts.length-k,x0:=0 }) ?_
 refine ai (ai (ai (by exact (a4 (ai rfl rfl))) (ai (by exact (ai (ai (fun _=>rfl) (iE (by simp only[zz,reduceCtorEq];rfl))) rfl)) (by exact trivial))) rfl) (ai (ai (ac7 _) ?_) ?_)
 ·exact fun j hj=>absurd hj (ani _)
 intro (k:Nat) ⟨hk,hall⟩
 refine ah (p:=k<c.sts.length) (ak (by omega)) (fun g1=>?_) (fun g1=>?_)
 ·refine ei (.seq [0,1,2,3,4,5,6,7]) (ai (by kernel_rfl) ?_)
  refine ai (ai (abr _) (iN (n:=c.sts.length) (by omega))) (ai rfl ?_)
  refine ei _ (ai (amO) (ei ((c,c.sts.getD k st0)) (ei [] (ai (a4 (ai (fun _=>Or.inl rfl) (ai nof (Or.inl rfl)))) (ai (by exact (ai (ai rfl (ai (ai rfl (fun _ _=>rfl)) (ai (ai rfl (fun _ _=>rfl)) (ai rfl (fun _ _=>rfl))))) (ai (ai rfl (fun _ _=>rfl)) (iE (by simp only[zz,reduceCtorEq]))))) (ai trivial (ai (hst _ (abv (bY st0 g1))) ?_)))))))
  refine bH (p:=fG c.act (c.sts.getD k st0)=0) (bU (by dsimp only;omega)) (fun g2=>?_) (fun g2=>?_)
  ·have e:=dG (f:=fun k=>fG c.act (c.sts.getD k st0)) g1 hall g2
   refine ai (ai (fun _=>trivial) ?_) trivial
   show au _ (iP (bJ c))
   rw[hA,if_pos (show ¬dN (fun k=>fG c.act (c.sts.getD k st0)) c.sts.length=0 by rw[e];exact g2),e]
   exact rfl
  refine ei (k+1) (ai (ai rfl rfl) (ai (ai (ai rfl (ai (ai rfl rfl) (ai (ai rfl rfl) (ai (ai (ai (fun _=>rfl) (aM (by omega))) rfl) trivial)))) rfl) (ai (ai (iL (by omega)) ?_) (iM (by omega)))))
  intro j hj
  by_cases hjk:j=k
  ·subst hjk;exact g2
  ·exact hall j (by omega)
 ·obtain rfl:k=c.sts.length:=by omega
  rw[if_neg (fun h=>h (gK hall))] at hA
  refine ei (bG.inv { X:=Nat,up:=fun j=>[(6,.s (iA j))],uo:=fun j=>[],inv:=fun j=>j≤c.trs.length∧(∀i,i<j→jd c (c.trs.getD i aG)=0),meas:=fun j=>c.trs.length-j,x0:=0 }) ?_
  refine ai (ai (ai (by exact (a4 (ai rfl rfl))) (ai (by exact (ai (ai (fun _=>rfl) (iE (by simp only[zz,reduceCtorEq];rfl))) rfl)) (by exact trivial))) rfl) (ai (ai (ac7 _) ?_) ?_)
  ·exact fun i hi=>absurd hi (ani _)
  intro (j:Nat) ⟨hj,hallt⟩
  refine ah (p:=j<c.trs.length) (ak (by omega)) (fun g3=>?_) (fun g3=>?_)
  ·refine ai (ai (abr _) (iN (n:=c.trs.length) (by omega))) (ai rfl ?_)
   have hto:=htr _ (abv (bY aG g3))
   refine ei _ (ai (agk) (ei ((c,(c.trs.getD j aG).fr)) (ei [] (ai (a4 (ai (fun _=>Or.inl rfl) (ai nof (Or.inl rfl)))) (ai (by exact (ai (ai rfl (ai (ai rfl (fun _ _=>rfl)) (ai (ai rfl (fun _ _=>rfl)) (ai rfl (fun _ _=>rfl))))) (ai rfl (fun _ _=>rfl)))) (ai trivial (ai (hto.1) ?_)))))))
   refine bH (p:=iB c.sts.length (c.trs.getD j aG).fr=0) (bU (by dsimp only;omega)) (fun g4=>?_) (fun g4=>?_)
   ·have e:jd c (c.trs.getD j aG)=iB c.sts.length (c.trs.getD j aG).fr:=by unfold jd;rw[if_pos g4]
    refine ai (ai (fun _=>trivial) ?_) trivial
    show au _ (iP (bJ c))
    rw[hA,dG (f:=fun k=>jd c (c.trs.getD k aG)) g3 hallt (by rw[e];exact g4),e]
    exact rfl
   refine ei _ (ai (agk) (ei ((c,(c.trs.getD j aG).to)) (ei [] (ai (a4 (ai (fun _=>Or.inl rfl) (ai nof (Or.inl rfl)))) (ai (by exact (ai (ai rfl (ai (ai rfl (fun _ _=>rfl)) (ai (ai rfl (fun _ _=>rfl)) (ai rfl (fun _ _=>rfl))))) (ai rfl (fun _ _=>rfl)))) (ai trivial (ai (hto.2.1) ?_)))))))
   refine bH (p:=iB c.sts.length (c.trs.getD j aG).to=0) (bU (by dsimp only;omega)) (fun g5=>?_) (fun g5=>?_)
   ·have e:jd c (c.trs.getD j aG)=iB c.sts.length (c.trs.getD j aG).to:=by unfold jd;rw[if_neg (fun h=>h g4),if_pos g5]
    refine ai (ai (fun _=>trivial) ?_) trivial
    show au _ (iP (bJ c))
    rw[hA,dG (f:=fun k=>jd c (c.trs.getD k aG)) g3 hallt (by rw[e];exact g5),e]
    exact rfl
   refine ei (.seq [0,1,2,3,4,5]) (ai (by kernel_rfl) ?_)
   have hsm:aah c:=⟨by omega,by omega,by omega,by omega⟩
   refine ei _ (ai (alX) (ei (c) (ei [] (ai (a4 (ai (fun _=>Or.inl rfl) (ai nof (Or.inl rfl)))) (ai (by exact (ai rfl (ai (ai rfl (fun _ _=>rfl)) (ai (ai rfl (fun _ _=>rfl)) (ai rfl (fun _ _=>rfl)))))) (ai trivial (ai (hsm) ?_)))))))
   refine ei _ (ai (aj7) (ei (((c.trs.getD j aG).wh,oJ c)) (ei [] (ai (a4 (ai (fun _=>Or.inl rfl) (ai nof (Or.inl rfl)))) (ai (by exact (ai (ai (iE (by simp only[zz,reduceCtorEq])) (ai (iE (by simp only[zz,reduceCtorEq])) (ai rfl (fun _ _=>rfl)))) rfl)) (ai trivial (ai (trivial) ?_)))))))
   have e:jd c (c.trs.getD j aG)=dL (c.trs.getD j aG).wh (oJ c):=by unfold jd;rw[if_neg (fun h=>h g4),if_neg (fun h=>h g5)]
   refine bH (p:=dL (c.trs.getD j aG).wh (oJ c)=0) (bU (by dsimp only;omega)) (fun g6=>?_) (fun g6=>?_)
   ·refine ai (ai (fun _=>trivial) ?_) trivial
    show au _ (iP (bJ c))
    rw[hA,dG (f:=fun k=>jd c (c.trs.getD k aG)) g3 hallt (by rw[e];exact g6),e]
    exact rfl
   refine ei (j+1) (ai (ai rfl rfl) (ai (ai (ai rfl (ai (ai rfl rfl) (ai (ai rfl rfl) (ai (ai (ai (fun _=>rfl) (aM (by omega))) rfl) trivial)))) rfl) (ai (ai (iL (by omega)) ?_) (iM (by omega)))))
   intro i hi
   by_cases hij:i=j
   ·subst hij;rw[e];exact g6
   ·exact hallt i (by omega)
  ·obtain rfl:j=c.trs.length:=by omega
   refine ai (ai (fun _=>trivial) ?_) trivial
   show au _ (iP (bJ c))
   rw[hA,gK hallt]
   exact rfl
abbrev dec (n : Nat) : List UInt8 := Lib.decDigits n
def qF (n:Nat):List UInt8:=if n=0 then [] else dec n
theorem zw (n:Nat):qF n=if n=0 then [] else qF (n / 10)++[UInt8.ofNat (48+n % 10)]:=by
 unfold qF
 by_cases h:n=0
 ·rw[if_pos h,if_pos h]
 ·rw[if_neg h,if_neg h]
  unfold dec
  rw[Lib.decDigits]
  by_cases h2:n<10
  ·rw[dif_pos h2,if_pos (by omega),ar3 h2];rfl
  ·rw[dif_neg h2,if_neg (by omega)]
def fA:Nat→Nat→List UInt8
 | 0,_=>[]
 | j+1,x=>fA j (x / 10)++[UInt8.ofNat (48+x % 10)]
theorem xE:∀(j n:Nat),n / 10 ^ j≠0→qF n=qF (n / 10 ^ j)++fA j n
 | 0,n,_=>by simp[fA]
 | j+1,n,h=>by
  have hn:n≠0:=by rintro rfl;simp at h
  have hd:n / 10 / 10 ^ j=n / 10 ^ (j+1):=by rw[arW,asF,asw]
  rw[zw,if_neg hn,xE j (n / 10) (by rw[hd];exact h),hd,fA,anr]
def limbs (n:Nat):List Int:=if n=0 then [] else if n<1000000 then [(n:Int)] else [((n % 1000000:Nat):Int),((n / 1000000:Nat):Int)]
def aqF:Spec:=jF (fun n:Nat=>[iA n]) (fun n=>n<1000000000000) (fun n=>mW (limbs n))
theorem wq (n:Nat) (h:n<1000000000000):IntKind.i64.wrap ((n:Int).tdiv 1000000)=((n / 1000000:Nat):Int):=by
 rw[show ((n:Int).tdiv 1000000)=((n / 1000000:Nat):Int) from rfl];exact ada (by omega)
theorem aiJ {x:PV} {g:Nat→List PV} (hg:g 0=[x]):∀k,k<1→(g k).length=1:=fun k hk=>by
 obtain rfl:k=0:=by omega
 rw[hg];rfl
theorem aoI:aL Tryz.prog 176 aqF:=by
 refine bg (Tb:=tab) mixed ay Tryz.func176 rfl rfl ?_
 rintro (n:Nat) hpre
 refine ai (ai rfl (ai rfl rfl)) ?_
 have hn:n<1000000000000:=hpre
 have hq:=wq n hn
 have hq2:n / 1000000<1000000000000:=by omega
 have hq3:=wq (n / 1000000) hq2
 refine ei (bG.unroll 3) ?_
 refine ah (p:=0<n) (ak (by omega)) (fun h1=>?_) (fun h1=>?_)
 ·refine ai (by decide) ?_
  refine ai (ai (by decide) (by decide)) (ai (aiJ rfl) ?_)
  refine ai (by decide) ?_
  refine ah (p:=0<n / 1000000) (by exact ak (by rw[hq];omega)) (fun h2=>?_) (fun h2=>?_)
  ·refine ai (by decide) ?_
   refine ai (ai (by decide) (by decide)) (ai (aiJ rfl) ?_)
   refine ai (by decide) ?_
   refine aZ (b:=false) (by exact decide_eq_false (by rw[hq,hq3];omega)) (fun h=>absurd h (by decide)) (fun _=>?_)
   have e:limbs n=[((n % 1000000:Nat):Int),((n / 1000000:Nat):Int)]:=by unfold limbs;rw[if_neg (by omega),if_neg (by omega)]
   refine ai (ai (fun h=>absurd (show false=true from h) (by decide)) ?_) trivial
   show au _ (mW (limbs n))
   rw[e]
   refine (ai rfl ?_)
   intro k hk
   have hk:k<2:=hk
   match k,hk with
   | 0,_=>rfl
   | 1,_=>
    show [PV.val (.int .i64 ((IntKind.i64.wrap ((n:Int).tdiv 1000000)).tmod 1000000))]=[iP ((n / 1000000:Nat):Int)]
    rw[hq]
    show [PV.val (.int .i64 ((n / 1000000 % 1000000:Nat):Int))]=_
    rw[ar3 (by omega)];rfl
  ·have e:limbs n=[(n:Int)]:=by unfold limbs;rw[if_neg (by omega),if_pos (by omega)]
   refine ai (ai (fun h=>absurd (show false=true from h) (by decide)) ?_) trivial
   show au _ (mW (limbs n))
   rw[e]
   refine (ai rfl ?_)
   intro k hk
   have hk:k<1:=hk
   obtain rfl:k=0:=by omega
   show [PV.val (.int .i64 ((n % 1000000:Nat):Int))]=[iP (n:Int)]
   rw[ar3 (by omega)];rfl
 ·have e:limbs n=[]:=by unfold limbs;rw[if_pos (by omega)]
  refine ai (ai (fun h=>absurd (show false=true from h) (by decide)) ?_) trivial
  show au _ (mW (limbs n))
  rw[e]
  exact rfl
theorem aa2 (s:List UInt8) (l h:Nat):(strOf s).extract l h=strOf ((s.take h).drop l):=by
 apply ByteArray.ext
 simp only[strOf,ByteArray.data_extract]
 apply Array.ext'
 simp[List.drop_take]
theorem apm {d:Nat} (h:d<10):(lM.take (d+1)).drop d=[UInt8.ofNat (48+d)]:=by
 have:∀d:Fin 10,(lM.take (d.1+1)).drop d.1=[UInt8.ofNat (48+d.1)]:=by decide
 exact this ⟨d,h⟩
theorem o8:∀(j x:Nat),fA (j+1) x=UInt8.ofNat (48+x / 10 ^ j % 10) :: fA j x
 | 0,x=>by simp[fA]
 | j+1,x=>by
  rw[fA,o8 j (x / 10),arW,show 10*10 ^ j=10 ^ (j+1) by rw[asF,asw]]
  conv=>rhs;rw[fA]
  rfl
theorem tT:∀(j x:Nat),(fA j x).length=j
 | 0,_=>rfl
 | j+1,x=>by rw[o8];simp[tT j x]
theorem sS {j x:Nat} (h0:x / 10 ^ j=0) (h1:j=0∨x / 10 ^ (j-1)≠0):qF x=fA j x:=by
 cases j with
 | zero=>
  have:x=0:=by simpa using h0
  subst this;rfl
 | succ j=>
  have h1:x / 10 ^ j≠0:=by rcases h1 with h | h;omega;simpa using h
  rw[xE j x h1,o8]
  have hlt:x / 10 ^ j<10:=by
   rw[asF,asw,←arW,arW,asw,←arW] at h0
   omega
  rw[zw,if_neg h1,asx hlt]
  rfl
def qB:List Int→Nat
 | []=>0
 | [x]=>x.toNat
 | x :: y :: _=>x.toNat+1000000*y.toNat
def okL (l:List Int):Prop:=l=[]∨(∃x:Nat,0<x∧x<1000000∧l=[(x:Int)])∨∃x y:Nat,x<1000000∧0<y∧y<1000000∧l=[(x:Int),(y:Int)]
theorem amW {n:Nat} (h:n<1000000000000):okL (limbs n)∧qB (limbs n)=n:=by
 unfold limbs okL
 by_cases h0:n=0
 ·rw[if_pos h0];exact ⟨.inl rfl,h0.symm⟩
 ·rw[if_neg h0]
  by_cases h1:n<1000000
  ·rw[if_pos h1];exact ⟨.inr (.inl ⟨n,by omega,h1,rfl⟩),rfl⟩
  ·rw[if_neg h1]
   refine ⟨.inr (.inr ⟨n % 1000000,n / 1000000,by omega,by omega,by omega,rfl⟩),?_⟩
   show (((n % 1000000:Nat):Int)).toNat+1000000*(((n / 1000000:Nat):Int)).toNat=n
   rw[aq7,aq7];omega
def aom:Spec:=cu (fun l:List Int=>[isA l]) okL (fun l=>sP (dec (qB l)))
theorem ahz:aL Tryz.prog 174 aom:=by
 refine bg (Tb:=tab) mixed ay Tryz.func174 rfl rfl ?_
 rintro (l:List Int) hpre
 refine ai (ai rfl (ai rfl rfl)) ?_
 have hq:∀a:Nat,a<1000000→IntKind.i64.wrap ((a:Int).tdiv 10)=((a / 10:Nat):Int):=fun a h=>by
  rw[show ((a:Int).tdiv 10)=((a / 10:Nat):Int) from rfl];exact ada (by omega)
 have hr:∀a:Nat,IntKind.i64.wrap ((a:Int).tmod 10+1)=((a % 10+1:Nat):Int):=fun a=>by
  rw[show ((a:Int).tmod 10)=((a % 10:Nat):Int) from rfl];exact iQ (by omega) (by omega)
 have hx:∀a:Nat,(strOf lM).extract ((a:Int).tmod 10).toNat (IntKind.i64.wrap ((a:Int).tmod 10+1)).toNat=strOf [UInt8.ofNat (48+a % 10)]:=fun a=>by
  rw[hr,show ((a:Int).tmod 10)=((a % 10:Nat):Int) from rfl,aq7,aq7,aa2,apm (by omega)]
 have hlt:∀x j:Nat,x<1000000→x / 10 ^ j<1000000:=fun x j h=>Nat.lt_of_le_of_lt (Nat.div_le_self _ _) h
 rcases hpre with rfl | ⟨x,hx0,hx1,rfl⟩ | ⟨x',x,hx1',hx0,hx1,rfl⟩
 ·refine ai (ai (fun _=>trivial) ?_) trivial
  show au _ (sP (dec (qB [])))
  rw[show dec (qB [])=[48] by show Lib.decDigits 0=_;rw[Lib.decDigits];rfl]
  exact rfl
 ·refine ei (bG.unroll 2) ?_
  refine ai (ai (by decide) (by show (0:Int)<1;decide)) ?_
  refine ai rfl ?_
  have hs0:([]:List UInt8).length≤1000:=by decide
  refine ei (bG.inv { X:=Nat,up:=fun j=>[(6,.s (iA j)),(5,.s (iA (((x) / 10 ^ j:Nat)))),(3,.s (sA (fA j (x)++[])))],uo:=fun _=>[],inv:=fun j=>j≤6∧(j=0∨(x) / 10 ^ (j-1)≠0),meas:=fun j=>6-j,x0:=0 }) ?_
  refine ai (ai (ai (by exact (a4 (ai rfl rfl))) (ai ?_ ?_)) ?_) (ai ?_ ?_)
  ·refine (ai (ai (ai (fun _=>rfl) (iE (by simp only[zz,reduceCtorEq];rfl))) rfl) (ai (ai (ai nof ?_) rfl) (ai (ai (fun _=>rfl) rfl) rfl)))
   show ((x:Nat):Int)=(((x) / 10 ^ 0:Nat):Int)
   simp
  ·exact trivial
  ·rfl
  ·exact ⟨ac7 _,.inl rfl⟩
  intro (j:Nat) ⟨hj,hd⟩
  refine ah (p:=j<6) (ak (by omega)) (fun h5=>?_) (fun h5=>?_)
  ·refine ah (p:=0<(x) / 10 ^ j) (ak (by omega)) (fun h6=>?_) (fun h6=>?_)
   ·have hpj:=hlt (x) j hx1
    generalize hz:(x) / 10 ^ j=z at *
    refine ai (by decide) (ai (by decide) ?_)
    refine ai (ai (by show (0:Int)≤((z:Int).tmod 10);exact abr _) (ai (by rw[hr];show ((z % 10:Nat):Int)≤_;omega) (by rw[hr];show ((z % 10+1:Nat):Int)≤10;omega))) ?_
    refine ai (by show (((((strOf lM).extract ((z:Int).tmod 10).toNat (IntKind.i64.wrap ((z:Int).tmod 10+1)).toNat).size+(strOf (fA j (x)++[])).size:Nat)):Int)≤9223372036854775807;rw[hx,aV,aV,aaH,tT,aoW];show ((1+(j+([]:List UInt8).length):Nat):Int)≤_;omega) ?_
    refine ai (by decide) ?_
    refine ei ((j+1)) (ai (ai rfl rfl) (ai (ai ?_ ?_) (ai ?_ ?_)))
    ·refine (ai rfl (ai (ai rfl rfl) (ai (ai rfl rfl) (ai (ai (ai (ai (fun _=>rfl) (aM (by omega))) rfl) (ai (ai (ai (fun _=>rfl) ?_) rfl) (ai (ai (fun _=>rfl) ?_) rfl))) trivial))))
     ·show IntKind.i64.wrap ((z:Int).tdiv 10)=((((x) / 10 ^ (j+1):Nat)):Int)
      rw[hq z (by omega),←hz,arW,asF]
     ·show (strOf lM).extract ((z:Int).tmod 10).toNat (IntKind.i64.wrap ((z:Int).tmod 10+1)).toNat++strOf (fA j (x)++[])=strOf (fA (j+1) (x)++[])
      rw[hx,aC,o8 j (x),hz];rfl
    ·rfl
    ·exact ⟨h5,.inr (by show (x) / 10 ^ j≠0;rw[hz];omega)⟩
    ·show 6-(j+1)<6-j;omega
   ·have e:=sS (x:=x) (j:=j) (Nat.eq_zero_of_not_pos h6) hd
    refine ai (ai (fun _=>trivial) ?_) trivial
    show au _ (sP (dec (qB [(x:Int)])))
    rw[show dec (qB [(x:Int)])=fA _ x++[] by rw[anp,←e];unfold qF;rw[if_neg (by omega)];rfl]
    exact rfl
  ·obtain rfl:j=6:=by omega
   have e:=sS (x:=x) (j:=6) (asx hx1) hd
   refine ai (ai (fun _=>trivial) ?_) trivial
   show au _ (sP (dec (qB [(x:Int)])))
   rw[show dec (qB [(x:Int)])=fA _ x++[] by rw[anp,←e];unfold qF;rw[if_neg (by omega)];rfl]
   exact rfl
 ·refine ei (bG.unroll 3) ?_
  refine ai (ai (by decide) (by show (0:Int)<2;decide)) ?_
  refine ai rfl ?_
  refine ei (bG.inv { X:=Nat,up:=fun j=>[(6,.s (iA j)),(5,.s (iA ((x' / 10 ^ j:Nat)))),(3,.s (sA (fA j x'++[])))],uo:=fun _=>[],inv:=fun j=>j≤6,meas:=fun j=>6-j,x0:=0 }) ?_
  refine ai (ai (ai (by exact (a4 (ai rfl rfl))) (ai ?_ ?_)) ?_) (ai ?_ ?_)
  ·refine (ai (ai (ai (fun _=>rfl) (iE (by simp only[zz,reduceCtorEq];rfl))) rfl) (ai (ai (ai nof ?_) rfl) (ai (ai (fun _=>rfl) rfl) rfl)))
   show ((x':Nat):Int)=((x' / 10 ^ 0:Nat):Int)
   simp
  ·exact trivial
  ·rfl
  ·exact ac7 _
  intro (j:Nat) (hj:j≤6)
  refine ah (p:=j<6) (ak (by omega)) (fun h5=>?_) (fun h5=>?_)
  ·have hs0:([]:List UInt8).length≤1000:=by decide
   have hxx:=hx1
   have hx1:=hx1'
   have hpj:=hlt (x') j hx1
   generalize hz:(x') / 10 ^ j=z at *
   refine ai (by decide) (ai (by decide) ?_)
   refine ai (ai (by show (0:Int)≤((z:Int).tmod 10);exact abr _) (ai (by rw[hr];show ((z % 10:Nat):Int)≤_;omega) (by rw[hr];show ((z % 10+1:Nat):Int)≤10;omega))) ?_
   refine ai (by show (((((strOf lM).extract ((z:Int).tmod 10).toNat (IntKind.i64.wrap ((z:Int).tmod 10+1)).toNat).size+(strOf (fA j (x')++[])).size:Nat)):Int)≤9223372036854775807;rw[hx,aV,aV,aaH,tT,aoW];show ((1+(j+([]:List UInt8).length):Nat):Int)≤_;omega) ?_
   refine ai (by decide) ?_
   refine ei ((j+1)) (ai (ai rfl rfl) (ai (ai ?_ ?_) (ai ?_ ?_)))
   ·refine (ai rfl (ai (ai rfl rfl) (ai (ai rfl rfl) (ai (ai (ai (ai (fun _=>rfl) (aM (by omega))) rfl) (ai (ai (ai (fun _=>rfl) ?_) rfl) (ai (ai (fun _=>rfl) ?_) rfl))) trivial))))
    ·show IntKind.i64.wrap ((z:Int).tdiv 10)=((((x') / 10 ^ (j+1):Nat)):Int)
     rw[hq z (by omega),←hz,arW,asF]
    ·show (strOf lM).extract ((z:Int).tmod 10).toNat (IntKind.i64.wrap ((z:Int).tmod 10+1)).toNat++strOf (fA j (x')++[])=strOf (fA (j+1) (x')++[])
     rw[hx,aC,o8 j (x'),hz];rfl
   ·rfl
   ·exact h5
   ·show 6-(j+1)<6-j;omega
  ·obtain rfl:j=6:=by omega
   refine ai (ai (by decide) (by show (1:Int)<2;decide)) ?_
   refine ai rfl ?_
   have hs0:(fA 6 x'++[]).length≤1000:=by rw[anp,tT];decide
   refine ei (bG.inv { X:=Nat,up:=fun j=>[(6,.s (iA j)),(5,.s (iA (((x) / 10 ^ j:Nat)))),(3,.s (sA (fA j (x)++(fA 6 x'++[]))))],uo:=fun _=>[],inv:=fun j=>j≤6∧(j=0∨(x) / 10 ^ (j-1)≠0),meas:=fun j=>6-j,x0:=0 }) ?_
   refine ai (ai (ai (by exact (a4 (ai rfl rfl))) (ai ?_ ?_)) ?_) (ai ?_ ?_)
   ·refine (ai (ai (ai (fun _=>rfl) (iE (by simp only[zz,reduceCtorEq];rfl))) rfl) (ai (ai (ai nof ?_) rfl) (ai (ai nof rfl) rfl)))
    show ((x:Nat):Int)=(((x) / 10 ^ 0:Nat):Int)
    simp
   ·exact trivial
   ·rfl
   ·exact ⟨ac7 _,.inl rfl⟩
   intro (j:Nat) ⟨hj,hd⟩
   refine ah (p:=j<6) (ak (by omega)) (fun h5=>?_) (fun h5=>?_)
   ·refine ah (p:=0<(x) / 10 ^ j) (ak (by omega)) (fun h6=>?_) (fun h6=>?_)
    ·have hpj:=hlt (x) j hx1
     generalize hz:(x) / 10 ^ j=z at *
     refine ai (by decide) (ai (by decide) ?_)
     refine ai (ai (by show (0:Int)≤((z:Int).tmod 10);exact abr _) (ai (by rw[hr];show ((z % 10:Nat):Int)≤_;omega) (by rw[hr];show ((z % 10+1:Nat):Int)≤10;omega))) ?_
     refine ai (by show (((((strOf lM).extract ((z:Int).tmod 10).toNat (IntKind.i64.wrap ((z:Int).tmod 10+1)).toNat).size+(strOf (fA j (x)++(fA 6 x'++[]))).size:Nat)):Int)≤9223372036854775807;rw[hx,aV,aV,aaH,tT,aoW];show ((1+(j+((fA 6 x'++[]):List UInt8).length):Nat):Int)≤_;omega) ?_
     refine ai (by decide) ?_
     refine ei ((j+1)) (ai (ai rfl rfl) (ai (ai ?_ ?_) (ai ?_ ?_)))
     ·refine (ai rfl (ai (ai rfl rfl) (ai (ai rfl rfl) (ai (ai (ai (ai (fun _=>rfl) (aM (by omega))) rfl) (ai (ai (ai (fun _=>rfl) ?_) rfl) (ai (ai (fun _=>rfl) ?_) rfl))) trivial))))
      ·show IntKind.i64.wrap ((z:Int).tdiv 10)=((((x) / 10 ^ (j+1):Nat)):Int)
       rw[hq z (by omega),←hz,arW,asF]
      ·show (strOf lM).extract ((z:Int).tmod 10).toNat (IntKind.i64.wrap ((z:Int).tmod 10+1)).toNat++strOf (fA j (x)++(fA 6 x'++[]))=strOf (fA (j+1) (x)++(fA 6 x'++[]))
       rw[hx,aC,o8 j (x),hz];rfl
     ·rfl
     ·exact ⟨h5,.inr (by show (x) / 10 ^ j≠0;rw[hz];omega)⟩
     ·show 6-(j+1)<6-j;omega
    ·have e:=sS (x:=x) (j:=j) (Nat.eq_zero_of_not_pos h6) hd
     have hdiv:(x'+1000000*x) / 10 ^ 6=x:=by
      show (x'+1000000*x) / 1000000=x
      omega
     have hpad:fA 6 (x'+1000000*x)=fA 6 x':=by
      simp only[fA]
      have e0:(x'+1000000*x) % 10=x' % 10:=by omega
      have e1:(x'+1000000*x) / 10 % 10=x' / 10 % 10:=by omega
      have e2:(x'+1000000*x) / 10 / 10 % 10=x' / 10 / 10 % 10:=by omega
      have e3:(x'+1000000*x) / 10 / 10 / 10 % 10=x' / 10 / 10 / 10 % 10:=by omega
      have e4:(x'+1000000*x) / 10 / 10 / 10 / 10 % 10=x' / 10 / 10 / 10 / 10 % 10:=by omega
      have e5:(x'+1000000*x) / 10 / 10 / 10 / 10 / 10 % 10=x' / 10 / 10 / 10 / 10 / 10 % 10:=by omega
      rw[e0,e1,e2,e3,e4,e5]
     refine ai (ai (fun _=>trivial) ?_) trivial
     show au _ (sP (dec (qB [(x':Int),(x:Int)])))
     rw[show dec (qB [(x':Int),(x:Int)])=fA _ x++(fA 6 x'++[]) by rw[anp,←e];show dec (x'+1000000*x)=_;have h:=xE 6 (x'+1000000*x) (by rw[hdiv];omega);rw[hdiv,hpad] at h;rw[←h];unfold qF;rw[if_neg (by omega)]]
     exact rfl
   ·obtain rfl:j=6:=by omega
    have e:=sS (x:=x) (j:=6) (asx hx1) hd
    have hdiv:(x'+1000000*x) / 10 ^ 6=x:=by
     show (x'+1000000*x) / 1000000=x
     omega
    have hpad:fA 6 (x'+1000000*x)=fA 6 x':=by
     simp only[fA]
     have e0:(x'+1000000*x) % 10=x' % 10:=by omega
     have e1:(x'+1000000*x) / 10 % 10=x' / 10 % 10:=by omega
     have e2:(x'+1000000*x) / 10 / 10 % 10=x' / 10 / 10 % 10:=by omega
     have e3:(x'+1000000*x) / 10 / 10 / 10 % 10=x' / 10 / 10 / 10 % 10:=by omega
     have e4:(x'+1000000*x) / 10 / 10 / 10 / 10 % 10=x' / 10 / 10 / 10 / 10 % 10:=by omega
     have e5:(x'+1000000*x) / 10 / 10 / 10 / 10 / 10 % 10=x' / 10 / 10 / 10 / 10 / 10 % 10:=by omega
     rw[e0,e1,e2,e3,e4,e5]
    refine ai (ai (fun _=>trivial) ?_) trivial
    show au _ (sP (dec (qB [(x':Int),(x:Int)])))
    rw[show dec (qB [(x':Int),(x:Int)])=fA _ x++(fA 6 x'++[]) by rw[anp,←e];show dec (x'+1000000*x)=_;have h:=xE 6 (x'+1000000*x) (by rw[hdiv];omega);rw[hdiv,hpad] at h;rw[←h];unfold qF;rw[if_neg (by omega)]]
    exact rfl
theorem alc:aL Tryz.prog 144 (cu (fun n:Nat=>[iA n]) (fun n=>n<1000000000000) (fun n=>sP (dec n))):=by
 refine bg (Tb:=tab) mixed ay Tryz.func144 rfl rfl ?_
 rintro (n:Nat) hpre
 refine ai (ai rfl (ai rfl rfl)) ?_
 have hn:n<1000000000000:=hpre
 obtain ⟨h1,h2⟩:=amW hn
 refine ei _ (ai (aoI) (ei (n) (ei [] (ai (a4 (ai (fun _=>Or.inl rfl) (ai nof (Or.inl rfl)))) (ai (by exact rfl) (ai trivial (ai (hn) ?_)))))))
 refine ei _ (ai (ahz) (ei (limbs n) (ei [] (ai (a4 (ai (fun _=>Or.inl rfl) (ai nof (Or.inl rfl)))) (ai (by exact (ai rfl (fun _ _=>rfl))) (ai trivial (ai (h1) ?_)))))))
 refine ai (ai (fun _=>trivial) ?_) trivial
 show au _ (sP (dec n))
 rw[show dec n=dec (qB (limbs n)) by rw[h2]]
 exact rfl
theorem yt:aL Tryz.prog 85 (cu (fun n:Nat=>[iA n]) (fun n=>n<1000000000000) (fun n=>sP (dec n))):=by
 refine bg (Tb:=tab) mixed ay Tryz.func85 rfl rfl ?_
 rintro (n:Nat) hpre
 refine ai (ai rfl (ai rfl rfl)) ?_
 refine ei _ (ai (alc) (ei (n) (ei [] (ai (a4 (ai (fun _=>Or.inl rfl) (ai nof (Or.inl rfl)))) (ai (by exact rfl) (ai trivial (ai (hpre) ?_)))))))
 refine ai (ai (fun _=>trivial) ?_) trivial
 exact rfl
theorem qz:aL Tryz.prog 79 (cu (fun n:Nat=>[iA n]) (fun n=>n<100) (fun n=>sP (dec n))):=
 af3 (aen (α:=Nat) Tryz.func79 rfl rfl (vals:=fun n=>[.int .i64 n]) (pre:=fun n=>n<100) (ret:=fun n=>.string (strOf (dec n))) (fun _ _=>rfl)
  fun n hn w=>(Tryz.strconv_Itoa_small n hn w).mono fun e w' h=>by
   obtain ⟨h1,h2⟩:=h
   subst h2
   exact ⟨h1,RowKit.Below.refl _ _⟩) id
  (fun _ _=>rfl) (fun _ _=>rfl) (fun _ _=>rfl) (fun _ _=>rfl) (fun _ h=>h)
def vO (i:Nat) (d:UInt8):List UInt8:=[UInt8.ofNat (97+i),d]
def eP:Nat→List (List UInt8)
 | 0=>[]
 | n+1=>eP n++[vO n 48,vO n 49]
theorem wO:∀n,(eP n).length=2*n
 | 0=>rfl
 | n+1=>by rw[eP,aaH,wO n];simp;omega
def yN (k:Nat):List UInt8:=121 :: dec k
def jS:Nat→List (List UInt8)
 | 0=>[]
 | n+1=>jS n++[yN n]
theorem wQ:∀n,(jS n).length=n
 | 0=>rfl
 | n+1=>by rw[jS,aaH,wQ n];rfl
def bQ (c:bD):List (List UInt8):=eP c.act.toNat++c.ins++jS c.sts.length
theorem qD {a b:List (List UInt8)} {n:Nat} {f g:Nat→List PV} (hn:n=a.length) (hf:∀k,k<a.length→f k=[sP (a.getD k [])]) (hg:∀k,k<b.length→g k=[sP (b.getD k [])]):∀k,k<(a++b).length→dn n f g k=[sP ((a++b).getD k [])]:=by
 intro k hk
 subst hn
 unfold dn
 by_cases h:k<a.length
 ·rw[if_pos h,hf k h,abo,abo,agF h]
 ·have hb:k-a.length<b.length:=by rw[aaH] at hk;omega
  rw[if_neg h,hg _ hb,abo,abo,ah5 (by omega)]
def ssR (l:List (List UInt8)):LV:=.rw 9 1 l.length (fun k=>[sP (l.getD k [])])
def abc:List UInt8:=[97,98,99,100,101,102]
theorem akK {d:Nat} (h:d<6):(strOf abc).extract ((d:Int)).toNat (((d+1:Nat):Int)).toNat=strOf [UInt8.ofNat (97+d)]:=by
 rw[aq7,aq7,aa2]
 have:∀d:Fin 6,(abc.take (d.1+1)).drop d.1=[UInt8.ofNat (97+d.1)]:=by decide
 exact congrArg strOf (this ⟨d,h⟩)
def agp (c:bD):Prop:=1≤c.act∧c.act≤6∧c.ins.length≤1000∧c.sts.length≤99
def apd:Spec:=jF (fun c:bD=>[kF c]) agp (fun c=>vZ (bQ c))
theorem aiI {x y:List UInt8} {a b:ByteArray} (ha:a=strOf x) (hb:b=strOf y):∀k,k<[x,y].length→bK 1 [.val (.string a),.val (.string b)] k=[sP ([x,y].getD k [])]:=by
 intro k hk
 have hk:k<2:=hk
 subst ha;subst hb
 match k,hk with
 | 0,_=>rfl
 | 1,_=>rfl
theorem adO {x:List UInt8} {a:ByteArray} (ha:a=strOf x):∀k,k<[x].length→bK 1 [.val (.string a)] k=[sP ([x].getD k [])]:=by
 intro k hk
 have hk:k<1:=hk
 subst ha
 obtain rfl:k=0:=by omega
 rfl
theorem aN {l:List PV} (n:Nat) (h:l.length=n):∀k,k<n→(bK 1 l k).length=1:=by
 intro k hk
 subst h
 induction l generalizing k with
 | nil=>simp at hk
 | cons d l ih=>
  cases k with
  | zero=>rfl
  | succ k=>
   have h1:=ih k (by simpa using hk)
   show (bK 1 (d :: l) (k+1)).length=1
   have:bK 1 (d :: l) (k+1)=bK 1 l k:=by
    unfold bK
    rw[apT,apT];rfl
   rw[this];exact h1
theorem x9 {n:Nat} (h:n≤10000):n≤maxLen∧n*16≤140737488355328:=⟨by unfold maxLen;omega,by omega⟩
theorem agf:aL Tryz.prog 76 apd:=by
 refine bg (Tb:=tab) mixed ay Tryz.func76 rfl rfl ?_
 rintro (c:bD) hpre
 refine ai (ai rfl (ai rfl rfl)) ?_
 obtain ⟨h1,h2,h3,h4⟩:=hpre
 have h1:1≤c.act:=h1
 have h2:c.act≤6:=h2
 have h3:c.ins.length≤1000:=h3
 have h4:c.sts.length≤99:=h4
 refine ei (bG.inv { X:=Nat,up:=fun i=>[(9,.s (iA i)),(3,ssR (eP i))],uo:=fun i=>[],inv:=fun i=>i≤c.act.toNat∧(True),meas:=fun i=>c.act.toNat-i,x0:=0 }) ?_
 refine ai (ai (ai (by exact (a4 (ai rfl rfl))) (ai (by exact (ai (ai (ai (fun _=>rfl) (iE (by simp only[zz,reduceCtorEq];rfl))) rfl) rfl)) (by exact trivial))) rfl) (ai (ai (ac7 _) ?_) ?_)
 ·trivial
 intro (i:Nat) ⟨hi,_⟩
 have hln:=wO i
 refine ah (p:=i<c.act.toNat) (by exact ak (by omega)) (fun g1=>?_) (fun g1=>?_)
 ·have hw:IntKind.i64.wrap ((i:Int)+1)=((i+1:Nat):Int):=aM (by omega)
  have hx:(strOf abc).extract ((i:Int)).toNat (IntKind.i64.wrap ((i:Int)+1)).toNat=strOf [UInt8.ofNat (97+i)]:=by rw[hw];exact akK (by omega)
  have hxs:((((strOf abc).extract ((i:Int)).toNat (IntKind.i64.wrap ((i:Int)+1)).toNat).size+1:Nat):Int)≤9223372036854775807:=by rw[hx,aV];show ((1+1:Nat):Int)≤_;decide
  refine ai (ai (abr _) (ai (by rw[hw];omega) (by rw[hw];show ((i+1:Nat):Int)≤6;omega))) ?_
  refine ai hxs (ai hxs ?_)
  refine ai (x9 (by show (eP i).length+2≤10000;omega)) (ai (aN 2 rfl) ?_)
  refine ei (i+1) (ai (ai rfl rfl) (ai (ai (ai rfl (ai (ai rfl rfl) (ai (ai rfl rfl) (ai (ai (ai (ai (fun _=>rfl) (aM (by omega))) rfl) (ai rfl (ai rfl (ai ?_ ?_)))) trivial)))) rfl) (ai (ai (iL (by omega)) trivial) (iM (by omega)))))
  ·show (eP i).length+2=(eP (i+1)).length
   rw[eP,aaH];rfl
  ·exact fun k hk=>qD (a:=eP i) (b:=[vO i 48,vO i 49]) (n:=(eP i).length) (f:=fun k=>[sP ((eP i).getD k [])]) rfl (fun _ _=>rfl) (aiI (x:=vO i 48) (y:=vO i 49) (a:=(strOf abc).extract ((i:Int)).toNat (IntKind.i64.wrap ((i:Int)+1)).toNat++strOf [48]) (b:=(strOf abc).extract ((i:Int)).toNat (IntKind.i64.wrap ((i:Int)+1)).toNat++strOf [49]) (by rw[hx,aC];rfl) (by rw[hx,aC];rfl)) k (by rw[aaH];exact hk)
 ·obtain rfl:i=c.act.toNat:=by omega
  refine ai (x9 (by show (eP c.act.toNat).length+c.ins.length≤10000;omega)) (ai (fun _ _=>rfl) ?_)
  refine ei (bG.inv { X:=Nat,up:=fun j=>[(31,.s (iA j)),(3,ssR (eP c.act.toNat++c.ins++jS j))],uo:=fun j=>[],inv:=fun j=>j≤c.sts.length∧(True),meas:=fun j=>c.sts.length-j,x0:=0 }) ?_
  refine ai (ai (ai (by exact (a4 (ai rfl rfl))) (ai ?_ ?_)) rfl) (ai (ai (ac7 _) ?_) ?_)
  ·refine (ai (ai (ai (fun _=>rfl) (iE (by simp only[zz,reduceCtorEq];rfl))) rfl) (ai rfl (ai rfl (ai ?_ ?_))))
   ·show (eP c.act.toNat).length+c.ins.length=(eP c.act.toNat++c.ins++jS 0).length
    rw[aaH,aaH];rfl
   ·intro k hk
    have:=qD (a:=eP c.act.toNat) (b:=c.ins) (n:=(eP c.act.toNat).length) (f:=fun k=>[sP ((eP c.act.toNat).getD k [])]) (g:=fun k=>[sP (c.ins.getD k [])]) rfl (fun _ _=>rfl) (fun _ _=>rfl) k (by rw[aaH];exact hk)
    rw[this]
    show _=[sP ((eP c.act.toNat++c.ins++[]).getD k [])]
    rw[anp]
  ·exact trivial
  ·trivial
  intro (j:Nat) ⟨hj,_⟩
  have hlj:=wQ j
  have hla:(eP c.act.toNat++c.ins++jS j).length=2*c.act.toNat+c.ins.length+j:=by rw[aaH,aaH,hln,hlj]
  refine ah (p:=j<c.sts.length) (ak (by omega)) (fun g2=>?_) (fun g2=>?_)
  ·refine ei _ (ai (qz) (ei (j) (ei [] (ai (a4 (ai (fun _=>Or.inl rfl) (ai nof (Or.inl rfl)))) (ai (by exact rfl) (ai trivial (ai ((by show j<100;omega)) ?_)))))))
   have hd:(dec j).length≤2:=by
    have:∀j:Fin 100,(Lib.decDigits j.1).length≤2:=by decide +kernel
    exact this ⟨j,by omega⟩
   refine ai (by show (((strOf [121]).size+(strOf (dec j)).size:Nat):Int)≤9223372036854775807;rw[aV,aV,aoW];omega) ?_
   refine ai (x9 (by show (eP c.act.toNat++c.ins++jS j).length+1≤10000;omega)) (ai (aN 1 rfl) ?_)
   refine ei (j+1) (ai (ai rfl rfl) (ai (ai (ai rfl (ai (ai rfl rfl) (ai (ai rfl rfl) (ai (ai (ai (ai (fun _=>rfl) (aM (by omega))) rfl) (ai rfl (ai rfl (ai ?_ ?_)))) trivial)))) rfl) (ai (ai (iL (by omega)) trivial) (iM (by omega)))))
   ·show (eP c.act.toNat++c.ins++jS j).length+1=(eP c.act.toNat++c.ins++jS (j+1)).length
    rw[jS,aaH,aaH,aaH,aaH,aaH];rfl
   ·have e:eP c.act.toNat++c.ins++jS (j+1)=(eP c.act.toNat++c.ins++jS j)++[yN j]:=by rw[jS];simp
    have:=qD (a:=eP c.act.toNat++c.ins++jS j) (b:=[yN j]) rfl (fun _ _=>rfl) (adO (x:=yN j) (a:=strOf [121]++strOf (dec j)) (by rw[aC];rfl))
    rw[←e] at this
    intro k hk
    exact this k (by rw[e,aaH];exact hk)
  ·obtain rfl:j=c.sts.length:=by omega
   refine ai (ai (fun h=>absurd (show false=true from h) (by decide)) ?_) trivial
   show au _ (vZ (bQ c))
   rw[bQ]
   exact (ai rfl (fun _ _=>rfl))
theorem aiu:aL Tryz.prog 77 apd:=by
 refine bg (Tb:=tab) mixed ay Tryz.func77 rfl rfl ?_
 rintro (c:bD) hpre
 refine ai (ai rfl (ai rfl rfl)) ?_
 obtain ⟨h1,h2,h3,h4⟩:=hpre
 have h1:1≤c.act:=h1
 have h2:c.act≤6:=h2
 have h3:c.ins.length≤1000:=h3
 have h4:c.sts.length≤99:=h4
 refine ei (bG.inv { X:=Nat,up:=fun i=>[(4,.s (iA i)),(3,ssR (eP i))],uo:=fun i=>[],inv:=fun i=>i≤c.act.toNat∧(True),meas:=fun i=>c.act.toNat-i,x0:=0 }) ?_
 refine ai (ai (ai (by exact (a4 (ai rfl rfl))) (ai (by exact (ai (ai (ai (fun _=>rfl) (iE (by simp only[zz,reduceCtorEq];rfl))) rfl) rfl)) (by exact trivial))) rfl) (ai (ai (ac7 _) ?_) ?_)
 ·trivial
 intro (i:Nat) ⟨hi,_⟩
 have hln:=wO i
 refine ah (p:=i<c.act.toNat) (by exact ak (by omega)) (fun g1=>?_) (fun g1=>?_)
 ·have hw:IntKind.i64.wrap ((i:Int)+1)=((i+1:Nat):Int):=aM (by omega)
  have hx:(strOf abc).extract ((i:Int)).toNat (IntKind.i64.wrap ((i:Int)+1)).toNat=strOf [UInt8.ofNat (97+i)]:=by rw[hw];exact akK (by omega)
  have hxs:((((strOf abc).extract ((i:Int)).toNat (IntKind.i64.wrap ((i:Int)+1)).toNat).size+1:Nat):Int)≤9223372036854775807:=by rw[hx,aV];show ((1+1:Nat):Int)≤_;decide
  have hxb:(0:Int)≤i∧(i:Int)≤IntKind.i64.wrap ((i:Int)+1)∧IntKind.i64.wrap ((i:Int)+1)≤6:=ai (abr _) (ai (by rw[hw];omega) (by rw[hw];show ((i+1:Nat):Int)≤6;omega))
  refine ei (.seq [0,1,2,3,4,5,6,7,8,9,10,11,12,13]) (ai (by kernel_rfl) ?_)
  refine ai hxb (ai hxs ?_)
  refine ai hxb (ai hxs ?_)
  refine ai (x9 (by show (eP i).length+2≤10000;omega)) (ai (aN 2 rfl) ?_)
  refine ei (i+1) (ai (ai rfl rfl) (ai (ai (ai rfl (ai (ai rfl rfl) (ai (ai rfl rfl) (ai (ai (ai (ai (fun _=>rfl) (aM (by omega))) rfl) (ai rfl (ai rfl (ai ?_ ?_)))) trivial)))) rfl) (ai (ai (iL (by omega)) trivial) (iM (by omega)))))
  ·show (eP i).length+2=(eP (i+1)).length
   rw[eP,aaH];rfl
  ·exact fun k hk=>qD (a:=eP i) (b:=[vO i 48,vO i 49]) (n:=(eP i).length) (f:=fun k=>[sP ((eP i).getD k [])]) rfl (fun _ _=>rfl) (aiI (x:=vO i 48) (y:=vO i 49) (a:=(strOf abc).extract ((i:Int)).toNat (IntKind.i64.wrap ((i:Int)+1)).toNat++strOf [48]) (b:=(strOf abc).extract ((i:Int)).toNat (IntKind.i64.wrap ((i:Int)+1)).toNat++strOf [49]) (by rw[hx,aC];rfl) (by rw[hx,aC];rfl)) k (by rw[aaH];exact hk)
 ·obtain rfl:i=c.act.toNat:=by omega
  refine ai (x9 (by show (eP c.act.toNat).length+c.ins.length≤10000;omega)) (ai (fun _ _=>rfl) ?_)
  refine ei (bG.inv { X:=Nat,up:=fun j=>[(5,.s (iA j)),(3,ssR (eP c.act.toNat++c.ins++jS j))],uo:=fun j=>[],inv:=fun j=>j≤c.sts.length∧(True),meas:=fun j=>c.sts.length-j,x0:=0 }) ?_
  refine ai (ai (ai (by exact (a4 (ai rfl rfl))) (ai ?_ ?_)) rfl) (ai (ai (ac7 _) ?_) ?_)
  ·refine (ai (ai (ai (fun _=>rfl) (iE (by simp only[zz,reduceCtorEq];rfl))) rfl) (ai rfl (ai rfl (ai ?_ ?_))))
   ·show (eP c.act.toNat).length+c.ins.length=(eP c.act.toNat++c.ins++jS 0).length
    rw[aaH,aaH];rfl
   ·intro k hk
    have:=qD (a:=eP c.act.toNat) (b:=c.ins) (n:=(eP c.act.toNat).length) (f:=fun k=>[sP ((eP c.act.toNat).getD k [])]) (g:=fun k=>[sP (c.ins.getD k [])]) rfl (fun _ _=>rfl) (fun _ _=>rfl) k (by rw[aaH];exact hk)
    rw[this]
    show _=[sP ((eP c.act.toNat++c.ins++[]).getD k [])]
    rw[anp]
  ·exact trivial
  ·trivial
  intro (j:Nat) ⟨hj,_⟩
  have hlj:=wQ j
  have hla:(eP c.act.toNat++c.ins++jS j).length=2*c.act.toNat+c.ins.length+j:=by rw[aaH,aaH,hln,hlj]
  refine ah (p:=j<c.sts.length) (ak (by omega)) (fun g2=>?_) (fun g2=>?_)
  ·refine ei _ (ai (yt) (ei (j) (ei [] (ai (a4 (ai (fun _=>Or.inl rfl) (ai nof (Or.inl rfl)))) (ai (by exact rfl) (ai trivial (ai ((by show j<1000000000000;omega)) ?_)))))))
   have hd:(dec j).length≤2:=by
    have:∀j:Fin 100,(Lib.decDigits j.1).length≤2:=by decide +kernel
    exact this ⟨j,by omega⟩
   refine ai (by show (((strOf [121]).size+(strOf (dec j)).size:Nat):Int)≤9223372036854775807;rw[aV,aV,aoW];omega) ?_
   refine ai (x9 (by show (eP c.act.toNat++c.ins++jS j).length+1≤10000;omega)) (ai (aN 1 rfl) ?_)
   refine ei (j+1) (ai (ai rfl rfl) (ai (ai (ai rfl (ai (ai rfl rfl) (ai (ai rfl rfl) (ai (ai (ai (ai (fun _=>rfl) (aM (by omega))) rfl) (ai rfl (ai rfl (ai ?_ ?_)))) trivial)))) rfl) (ai (ai (iL (by omega)) trivial) (iM (by omega)))))
   ·show (eP c.act.toNat++c.ins++jS j).length+1=(eP c.act.toNat++c.ins++jS (j+1)).length
    rw[jS,aaH,aaH,aaH,aaH,aaH];rfl
   ·have e:eP c.act.toNat++c.ins++jS (j+1)=(eP c.act.toNat++c.ins++jS j)++[yN j]:=by rw[jS];simp
    have:=qD (a:=eP c.act.toNat++c.ins++jS j) (b:=[yN j]) rfl (fun _ _=>rfl) (adO (x:=yN j) (a:=strOf [121]++strOf (dec j)) (by rw[aC];rfl))
    rw[←e] at this
    intro k hk
    exact this k (by rw[e,aaH];exact hk)
  ·obtain rfl:j=c.sts.length:=by omega
   refine ai (ai (fun h=>absurd (show false=true from h) (by decide)) ?_) trivial
   show au _ (vZ (bQ c))
   rw[bQ]
   exact (ai rfl (fun _ _=>rfl))
theorem jN {c:bD} (h:bJ c=0):(1≤c.act∧c.act≤6)∧dZ c.ins=0∧(0<c.sts.length∧c.sts.length≤24)∧c.trs.length≤32∧(∀k,k<c.sts.length→fG c.act (c.sts.getD k st0)=0)∧∀k,k<c.trs.length→jd c (c.trs.getD k aG)=0:=by
 unfold bJ at h
 split at h
 ·cases h
 split at h
 ·rename_i h1 h2;exact absurd h h2
 split at h
 ·cases h
 split at h
 ·cases h
 split at h
 ·rename_i h1;exact absurd h h1
 rename_i h1 h2 h3 h4 h5
 refine ⟨by omega,arj.1 h2,by omega,by omega,fun k hk=>pF (arj.1 h5) k hk,fun k hk=>pF h k hk⟩
theorem tL {c:bD} (h:bJ c=0):agp c:=by
 obtain ⟨h1,h2,h3,h4,-⟩:=jN h
 have:=sG h2
 exact ⟨h1.1,h1.2,by omega,by omega⟩
def nC (c:bD):PV:=.tup [vZ (if bJ c=0 then bQ c else []),iP (bJ c)]
def ak3:Spec:=jF (fun c:bD=>[kF c]) jP nC
theorem amu:aL Tryz.prog 22 ak3:=by
 refine bg (Tb:=tab) mixed ay Tryz.func22 rfl rfl ?_
 rintro (c:bD) hpre
 refine ai (ai rfl (ai rfl rfl)) ?_
 refine ei _ (ai (aav) (ei (c) (ei [] (ai (a4 (ai (fun _=>Or.inl rfl) (ai nof (Or.inl rfl)))) (ai (by exact (ai rfl (ai (ai rfl (fun _ _=>rfl)) (ai (ai rfl (fun _ _=>rfl)) (ai rfl (fun _ _=>rfl)))))) (ai trivial (ai (hpre) ?_)))))))
 refine bH (p:=bJ c=0) (bU (by omega)) (fun h1=>?_) (fun h1=>?_)
 ·refine ai (ai (fun h=>absurd (show false=true from h) (by decide)) ?_) trivial
  show au _ (nC c)
  rw[nC,if_neg h1]
  exact (ai rfl rfl)
 refine ei _ (ai (agf) (ei (c) (ei [] (ai (a4 (ai (fun _=>Or.inl rfl) (ai nof (Or.inl rfl)))) (ai (by exact (ai rfl (ai (ai rfl (fun _ _=>rfl)) (ai (ai rfl (fun _ _=>rfl)) (ai rfl (fun _ _=>rfl)))))) (ai trivial (ai (tL h1) ?_)))))))
 refine ai (ai (fun h=>absurd (show false=true from h) (by decide)) ?_) trivial
 show au _ (nC c)
 rw[nC,if_pos h1]
 exact (ai (ai rfl (fun _ _=>rfl)) (iE (by omega)))
theorem alv:aL Tryz.prog 23 ak3:=by
 refine bg (Tb:=tab) mixed ay Tryz.func23 rfl rfl ?_
 rintro (c:bD) hpre
 refine ai (ai rfl (ai rfl rfl)) ?_
 refine ei _ (ai (wC) (ei (c) (ei [] (ai (a4 (ai (fun _=>Or.inl rfl) (ai nof (Or.inl rfl)))) (ai (by exact (ai rfl (ai (ai rfl (fun _ _=>rfl)) (ai (ai rfl (fun _ _=>rfl)) (ai rfl (fun _ _=>rfl)))))) (ai trivial (ai (hpre) ?_)))))))
 refine bH (p:=bJ c=0) (bU (by omega)) (fun h1=>?_) (fun h1=>?_)
 ·refine ai (ai (fun h=>absurd (show false=true from h) (by decide)) ?_) trivial
  show au _ (nC c)
  rw[nC,if_neg h1]
  exact (ai rfl rfl)
 refine ei _ (ai (aiu) (ei (c) (ei [] (ai (a4 (ai (fun _=>Or.inl rfl) (ai nof (Or.inl rfl)))) (ai (by exact (ai rfl (ai (ai rfl (fun _ _=>rfl)) (ai (ai rfl (fun _ _=>rfl)) (ai rfl (fun _ _=>rfl)))))) (ai trivial (ai (tL h1) ?_)))))))
 refine ai (ai (fun h=>absurd (show false=true from h) (by decide)) ?_) trivial
 show au _ (nC c)
 rw[nC,if_pos h1]
 exact (ai (ai rfl (fun _ _=>rfl)) (iE (by omega)))
def gT (m:List Bool) (k:Nat):PV:=bP (m.getD k false)
def vI (m:List Bool):PV:=.arr 24 (gT m)
def uZ (m:List Bool):SV:=.p false (vI m)
theorem oq (g:Nat→PV):∀(n i k:Nat),k<n→(mQ g i n)[k]?=some (g (i+k))
 | 0,_,_,h=>by omega
 | n+1,i,0,_=>rfl
 | n+1,i,k+1,h=>by
  show (mQ g (i+1) n)[k]?=_
  rw[oq g n (i+1) k (by omega),show i+1+k=i+(k+1) by omega]
theorem anE (m:List Bool) {k:Nat} (h:k<24):(eY 24 (gT m))[k]?=some (gT m k):=by
 unfold eY;rw[oq _ _ _ _ h,aku]
def jk (n:Nat) (l:List Int):Prop:=∀k∈l,0≤k∧k<(n:Int)
theorem tF {n:Nat} {l:List Int} (h:jk n l) {k:Nat} (hk:k<l.length):0≤l.getD k 0∧l.getD k 0<(n:Int):=h _ (abv (bY 0 hk))
def l6 (m:List Bool) (k:Int):Bool:=m.getD k.toNat false
def allM (m:List Bool) (l:List Int):Bool:=l.all (l6 m)
def aqn (m:List Bool):PV:=.fn 161 [.pt (eY 24 (gT m)) 0]
theorem aoh:aL Tryz.prog 161 (cu (fun a:List Bool×Int=>[iA a.2,.p false (.pt (eY 24 (gT a.1)) 0)]) (fun a=>0≤a.2∧a.2<24) (fun a=>bP (!l6 a.1 a.2))):=by
 refine bg (Tb:=tab) mixed ay Tryz.func161 rfl rfl ?_
 rintro (a:List Bool×Int) hpre
 refine ai (ai rfl (ai rfl rfl)) ?_
 have h1:0≤a.2:=hpre.1
 have h2:a.2<24:=hpre.2
 refine ai ⟨h1,h2⟩ ?_
 refine ei (gT a.1 a.2.toNat) (ai (by rw[aku];exact anE a.1 (by omega)) ?_)
 refine ai (ai (fun _=>trivial) ?_) trivial
 exact rfl
def aqH:Spec:=cu (fun a:List Bool×List Int=>[isA a.2,.p false (aqn a.1)]) (fun a=>jk 24 a.2∧a.2.length≤1000000) (fun a=>iP (kG (fun k=>!l6 a.1 k) a.2))
theorem aoL:aL Tryz.prog 106 aqH:=by
 refine bg (Tb:=tab) mixed ay Tryz.func106 rfl rfl ?_
 rintro (a:List Bool×List Int) hpre
 refine ai (ai rfl (ai rfl rfl)) ?_
 obtain ⟨hx,hl⟩:=hpre
 have hl:a.2.length≤1000000:=hl
 refine ei (bG.inv { X:=Nat,up:=fun k=>[(8,.s (iA k))],uo:=fun k=>[],inv:=fun k=>k≤a.2.length∧(∀y∈a.2.take k,(!l6 a.1 y)=false),meas:=fun k=>a.2.length-k,x0:=0 }) ?_
 refine ai (ai (ai (by exact (a4 (ai rfl rfl))) (ai (by exact (ai (ai (fun _=>rfl) (iE (by simp only[zz,reduceCtorEq];rfl))) rfl)) (by exact trivial))) rfl) (ai (ai (ac7 _) ?_) ?_)
 ·exact fun y hy=>absurd hy (by simp)
 intro (k:Nat) ⟨hk,hall⟩
 refine ah (p:=k<a.2.length) (ak (by omega)) (fun h1=>?_) (fun h1=>?_)
 ·refine ai (ai (abr _) (iN (n:=a.2.length) (by omega))) (ai rfl ?_)
  refine ei _ (ai (aoh) (ei ((a.1,a.2.getD k 0)) (ei [] (ai (a4 (ai (fun _=>Or.inl rfl) (ai nof (Or.inl rfl)))) (ai (by exact (ai (iE (by simp only[zz,reduceCtorEq])) (ai rfl rfl))) (ai trivial (ai (tF hx h1) ?_)))))))
  refine aZ (b:=!l6 a.1 (a.2.getD k 0)) rfl (fun h2=>?_) (fun h2=>?_)
  ·refine ai (ai (fun _=>trivial) ?_) trivial
   show au _ (iP (kG (fun k=>!l6 a.1 k) a.2))
   rw[tJ (d:=0) h1 h2 hall]
   exact rfl
  refine ei (k+1) (ai (ai rfl rfl) (ai (ai (ai rfl (ai (ai rfl rfl) (ai (ai rfl rfl) (ai (ai (ai (fun _=>rfl) (aM (by omega))) rfl) trivial)))) rfl) (ai (ai (iL (by omega)) ?_) (iM (by omega)))))
  intro y hy
  rw[aX 0 h1] at hy
  rcases akI.1 hy with hy | hy
  ·exact hall y hy
  ·simp only[akz] at hy;subst hy;exact h2
 ·obtain rfl:k=a.2.length:=by omega
  rw[aiy] at hall
  refine ai (ai (fun _=>trivial) ?_) trivial
  show au _ (iP (kG (fun k=>!l6 a.1 k) a.2))
  rw[wL hall]
  exact rfl
theorem an9:aL Tryz.prog 38 (cu (fun a:List Bool×List Int=>[isA a.2,.p false (aqn a.1)]) (fun a=>jk 24 a.2∧a.2.length≤1000000) (fun a=>bP (a.2.any fun k=>!l6 a.1 k))):=by
 refine bg (Tb:=tab) mixed ay Tryz.func38 rfl rfl ?_
 rintro (a:List Bool×List Int) hpre
 refine ai (ai rfl (ai rfl rfl)) ?_
 refine ei _ (ai (aoL) (ei (a) (ei [] (ai (a4 (ai (fun _=>Or.inl rfl) (ai nof (Or.inl rfl)))) (ai (by exact (ai (ai rfl (fun _ _=>rfl)) (ai rfl rfl))) (ai trivial (ai (hpre) ?_)))))))
 refine ai (ai (fun _=>trivial) ?_) trivial
 show au _ (bP (a.2.any fun k=>!l6 a.1 k))
 rw[(uP (fun k=>!l6 a.1 k) a.2).symm]
 exact rfl
theorem apv:aL Tryz.prog 114 (cu (fun a:List Bool×List Int=>[uZ a.1,isA a.2]) (fun a=>jk 24 a.2∧a.2.length≤1000000) (fun a=>bP (allM a.1 a.2))):=by
 refine jQ [3000006] ?_
 refine bg (Tb:=tab) mixed ay Tryz.func114 rfl rfl ?_
 rintro (a:List Bool×List Int) hpre
 refine ai (ai rfl (ai rfl rfl)) ?_
 refine ei _ (ai (an9) (ei (a) (ei [] (ai (a4 (ai (fun _=>Or.inl rfl) (ai nof (Or.inl rfl)))) (ai (by exact (ai (ai rfl (fun _ _=>rfl)) (ai rfl rfl))) (ai trivial (ai (hpre) ?_)))))))
 refine ai (ai (fun _=>trivial) ?_) trivial
 show au _ (bP (allM a.1 a.2))
 rw[show allM a.1 a.2=!(a.2.any fun k=>!l6 a.1 k) by unfold allM;simp[List.not_any_eq_all_not]]
 exact rfl
def dF (l:List Bool):List Bool:=l++List.replicate (24-l.length) false
theorem uj (l:List Bool) (k:Nat):(dF l).getD k false=l.getD k false:=by
 unfold dF
 rw[abo,abo]
 by_cases h:k<l.length
 ·rw[agF h]
 ·rw[ah5 (by omega),arR (l:=l) (by omega),asA]
  split<;>rfl
theorem oP {l:List Bool} (h:l.length≤24):(dF l).length=24:=by unfold dF;rw[aaH,ar9];omega
theorem aff {n:Nat} {f g:Nat→List PV}:∀k,k<0+n→dn 0 f g k=g k:=fun k hk=>by
 unfold dn;rw[if_neg (ani _),asc]
def aqV:Spec:=cu (fun l:List (Bool)=>[bsA l]) (fun l=>l.length≤1000000) (fun l=>pI l)
theorem aoK:aL Tryz.prog 40 aqV:=by
 refine bg (Tb:=tab) mixed ay Tryz.func40 rfl rfl ?_
 rintro (l:List (Bool)) hpre
 refine ai (ai rfl (ai rfl rfl)) ?_
 have hl:l.length≤1000000:=hpre
 intro b hb
 refine bF (fun h1=>?_) (fun h1=>?_)
 ·have h1:l.length=0:=hb h1
  refine ai (ai (fun _=>trivial) ?_) trivial
  show au _ (pI l)
  rw[aqm.1 h1]
  exact rfl
 ·refine ai (mxL (n:=0+l.length) (by omega) (by decide)) (ai (fun _ _=>rfl) ?_)
  refine ai (ai (fun _ k hk=>by rw[aff k hk];rfl) ?_) trivial
  refine (ai ?_ (fun _ _=>rfl))
  exact aku _
def arw:Spec:=cu (fun a:bD×List Bool=>[kF a.1,uZ a.2]) (fun a=>a.1.sts.length≤24∧a.2.length=24) (fun a=>pI (a.2.take a.1.sts.length))
theorem aiQ:aL Tryz.prog 98 arw:=by
 refine bg (Tb:=tab) mixed ay Tryz.func98 rfl rfl ?_
 rintro (a:bD×List Bool) hpre
 refine ai (ai rfl (ai rfl rfl)) ?_
 obtain ⟨h1,h2⟩:=hpre
 have h1:a.1.sts.length≤24:=h1
 have h2:a.2.length=24:=h2
 refine ai (ai (by decide) (ai (abr _) (by show (a.1.sts.length:Int)≤24;omega))) ?_
 have htl:(a.2.take a.1.sts.length).length=a.1.sts.length:=by rw[ala];omega
 refine ei _ (ai (aoK) (ei (a.2.take a.1.sts.length) (ei [] (ai (ai rfl (ai rfl (ai rfl (ai rfl (ai (fun _=>Or.inl rfl) (ai (fun _=>ai rfl rfl) (Or.inl rfl))))))) (ai ?_ (ai (by exact trivial) (ai ((by show (a.2.take a.1.sts.length).length≤1000000;omega)) ?_)))))))
 ·refine (ai rfl (ai ?_ ?_))
  ·show ((a.1.sts.length:Int)).toNat-(0:Int).toNat=(a.2.take a.1.sts.length).length
   rw[htl];simp
  ·intro k hk
   have hk:k<((a.1.sts.length:Int)).toNat-(0:Int).toNat:=hk
   have hk:k<a.1.sts.length:=by simpa using hk
   show [bP (a.2.getD ((0:Int).toNat+k) false)]=[bP ((a.2.take a.1.sts.length).getD k false)]
   rw[show (0:Int).toNat+k=k by simp,abo,abo,anh,if_pos hk]
 refine ai (ai (fun _=>trivial) ?_) trivial
 exact (ai rfl (fun _ _=>rfl))
def isR (l:List Int):LV:=.rw 3 1 l.length (fun k=>[iP (l.getD k 0)])
theorem ahQ {a b:List Int} {n:Nat} {f g:Nat→List PV} (hn:n=a.length) (hf:∀k,k<a.length→f k=[iP (a.getD k 0)]) (hg:∀k,k<b.length→g k=[iP (b.getD k 0)]):∀k,k<(a++b).length→dn n f g k=[iP ((a++b).getD k 0)]:=by
 intro k hk
 subst hn
 unfold dn
 by_cases h:k<a.length
 ·rw[if_pos h,hf k h,abo,abo,agF h]
 ·have hb:k-a.length<b.length:=by rw[aaH] at hk;omega
  rw[if_neg h,hg _ hb,abo,abo,ah5 (by omega)]
theorem aaR {n:Nat} {l:List Int} (h:iB n l=0) (hn:n≤24):jk 24 l∧jk n l∧0<l.length:=by
 unfold iB at h
 split at h
 ·cases h
 ·rename_i h0
  have h1:=pF h
  have:jk n l:=by
   intro k hk
   obtain ⟨i,hi,rfl⟩:=aqc hk
   have h2:=h1 i hi
   unfold nG at h2
   have hg:l.getD i 0=l[i]:=by rw[abo,abm hi];rfl
   rw[hg] at h2
   split at h2
   ·cases h2
   ·omega
  exact ⟨fun k hk=>by have:=this k hk;omega,this,by omega⟩
theorem anN {c:bD} {t:kD} (h:jd c t=0) (hn:c.sts.length≤24):(jk 24 t.fr∧jk c.sts.length t.fr)∧(jk 24 t.to∧jk c.sts.length t.to)∧dL t.wh (oJ c)=0:=by
 unfold jd at h
 split at h
 ·rename_i h1;exact absurd h h1
 rename_i h1
 split at h
 ·rename_i h2;exact absurd h h2
 rename_i h2
 have g1:=aaR (arj.1 h1) hn
 have g2:=aaR (arj.1 h2) hn
 exact ⟨⟨g1.1,g1.2.1⟩,⟨g2.1,g2.2.1⟩,h⟩
theorem kV {c:bD} (h:bJ c=0) {i:Nat} (hi:i<c.trs.length):(jk 24 (c.trs.getD i aG).fr∧jk c.sts.length (c.trs.getD i aG).fr)∧(jk 24 (c.trs.getD i aG).to∧jk c.sts.length (c.trs.getD i aG).to)∧dL (c.trs.getD i aG).wh (oJ c)=0:=by
 obtain ⟨_,_,h3,_,_,h6⟩:=jN h
 exact anN (h6 i hi) h3.2
theorem ad7 {c:bD} (h:jP c) {i:Nat} (hi:i<c.trs.length):ajx (c.trs.getD i aG):=h.2 _ (abv (bY aG hi))
theorem amw (a:List Bool) (k:Int):l6 (dF a) k=l6 a k:=uj a k.toNat
theorem amM (a:List Bool) (l:List Int):allM (dF a) l=allM a l:=by
 unfold allM;rw[show l6 (dF a)=l6 a from funext (amw a)]
def gX (m:List Bool) (l:List Int) (b:Bool):List Bool:=l.foldl (fun m k=>m.set k.toNat b) m
theorem jI (b:Bool):∀(l:List Int) (m:List Bool),(gX m l b).length=m.length
 | [],_=>rfl
 | k :: l,m=>by
  show (gX (m.set k.toNat b) l b).length=_
  rw[jI b l,asD]
theorem yj (m:List Bool) (l:List Int) (k:Int) (b:Bool):gX m (l++[k]) b=(gX m l b).set k.toNat b:=by unfold gX;rw[asg];rfl
theorem aiq {m:List Bool} (hm:m.length=24) {j:Nat} (hj:j<24) (b:Bool) (k:Nat):qE (gT m) j (bP b) k=gT (m.set j b) k:=by
 unfold qE gT
 rw[abo,abo,ate]
 by_cases h:k=j
 ·rw[if_pos h,if_pos h.symm,if_pos (by omega)];rfl
 ·rw[if_neg h,if_neg (fun e=>h e.symm)]
def om (m:List Bool) (t:kD):List Bool:=gX (gX m t.fr false) t.to true
def bI (c:bD) (m:List Bool) (i:Nat):List Bool×Bool:=if allM m (c.trs.getD i aG).fr then (om m (c.trs.getD i aG),true) else (m,false)
def mkO (m:List Bool):Ob:=.arr 117 24 (gT m)
def arz:Spec:=jF (fun a:bD×List Bool×Nat=>[kF a.1,uZ a.2.1,iA a.2.2]) (fun a=>bJ a.1=0∧jP a.1∧a.2.1.length=24∧a.2.2<a.1.trs.length) (fun a=>.tup [vI (bI a.1 a.2.1 a.2.2).1,bP (bI a.1 a.2.1 a.2.2).2])
theorem aly:aL Tryz.prog 61 arz:=by
 refine bg (Tb:=tab) mixed ay Tryz.func61 rfl rfl ?_
 rintro ⟨c,m,i⟩ hpre
 refine ai (ai rfl (ai rfl rfl)) ?_
 obtain ⟨hc,ho,hm,hi⟩:=hpre
 have hc:bJ c=0:=hc
 have ho:jP c:=ho
 have hm:m.length=24:=hm
 have hi:i<c.trs.length:=hi
 obtain ⟨g1,g2,g3⟩:=kV hc hi
 have hto:=ad7 ho hi
 refine ai (ai (abr _) (iN (n:=c.trs.length) (by omega))) (ai rfl ?_)
 refine ei _ (ai (apv) (ei ((m,(c.trs.getD i aG).fr)) (ei [] (ai (a4 (ai (fun _=>Or.inl rfl) (ai nof (Or.inl rfl)))) (ai (by exact (ai (ai rfl (fun _ _=>rfl)) (ai rfl (fun _ _=>rfl)))) (ai trivial (ai (⟨g1.1,hto.1⟩) ?_)))))))
 refine aZ (b:=!allM m (c.trs.getD i aG).fr) rfl (fun h2=>?_) (fun h2=>?_)
 ·have h2:allM m (c.trs.getD i aG).fr=false:=by simpa using h2
  have e:bI c m i=(m,false):=by unfold bI;rw[h2];rfl
  refine ai (ai (fun h=>absurd (show false=true from h) (by decide)) ?_) trivial
  show au _ (.tup [vI (bI c m i).1,bP (bI c m i).2])
  rw[e]
  exact (ai (ai rfl (fun _ _=>rfl)) rfl)
 have h2:allM m (c.trs.getD i aG).fr=true:=by simpa using h2
 have e:bI c m i=(om m (c.trs.getD i aG),true):=by unfold bI;rw[h2];rfl
 have hf:(c.trs.getD i aG).fr.length≤1000000:=hto.1
 have ht:(c.trs.getD i aG).to.length≤1000000:=hto.2.1
 refine ei (bG.inv { X:=Nat,up:=fun k=>[(27,.s (iA k))],uo:=fun k=>[⟨1,117,[.ob (mkO (gX m ((c.trs.getD i aG).fr.take k) false))]⟩],inv:=fun k=>k≤(c.trs.getD i aG).fr.length∧(True),meas:=fun k=>(c.trs.getD i aG).fr.length-k,x0:=0 }) ?_
 refine ai (ai (ai (by exact (a4 (ai rfl rfl))) (ai ?_ ?_)) rfl) (ai (ai (ac7 _) ?_) ?_)
 ·exact (ai (ai (fun _=>rfl) (iE (by simp only[zz,reduceCtorEq];rfl))) rfl)
 ·exact (ai (ai rfl (ai rfl (fun _ _=>rfl))) trivial)
  skip
 ·trivial
 intro (k:Nat) ⟨hk,_⟩
 refine ah (p:=k<(c.trs.getD i aG).fr.length) (by simp only[zz,reduceCtorEq];omega) (fun h3=>?_) (fun h3=>?_)
 ·refine ai (ai (abr _) (iN (n:=(c.trs.getD i aG).fr.length) (by omega))) (ai rfl ?_)
  have hx:=tF g1.1 h3
  have h24:((c.trs.getD i aG).fr.getD k 0).toNat<24:=by omega
  refine ai hx ?_
  refine ai (by show 0+((c.trs.getD i aG).fr.getD k 0).toNat*1<24;omega) ?_
  refine ei (k+1) (ai (ai rfl rfl) (ai (ai (ai rfl (ai (ai rfl rfl) (ai (ai rfl rfl) (ai (ai (ai (fun _=>rfl) (aM (by omega))) rfl) (ai (ai rfl (ai rfl ?_)) trivial))))) rfl) (ai (ai (iL (by omega)) trivial) (iM (by omega)))))
  intro q hq
  show qE (gT (gX m ((c.trs.getD i aG).fr.take k) false)) (0+((c.trs.getD i aG).fr.getD k 0).toNat*1) (bP false) q=gT (gX m ((c.trs.getD i aG).fr.take (k+1)) false) q
  rw[aku,apT,aiq (by rw[jI];exact hm) h24,aX 0 h3,yj]
 ·obtain rfl:k=(c.trs.getD i aG).fr.length:=by omega
  rw[aiy]
  refine ei (bG.inv { X:=Nat,up:=fun j=>[(37,.s (iA j))],uo:=fun j=>[⟨1,117,[.ob (mkO (gX (gX m (c.trs.getD i aG).fr false) ((c.trs.getD i aG).to.take j) true))]⟩],inv:=fun j=>j≤(c.trs.getD i aG).to.length∧(True),meas:=fun j=>(c.trs.getD i aG).to.length-j,x0:=0 }) ?_
  refine ai (ai (ai (by exact (a4 (ai rfl rfl))) (ai ?_ ?_)) rfl) (ai (ai (ac7 _) ?_) ?_)
  ·exact (ai (ai (fun _=>rfl) (iE (by simp only[zz,reduceCtorEq];rfl))) rfl)
  ·exact (ai (ai rfl (ai rfl (fun _ _=>rfl))) trivial)
   skip
  ·trivial
  intro (j:Nat) ⟨hk,_⟩
  refine ah (p:=j<(c.trs.getD i aG).to.length) (by simp only[zz,reduceCtorEq];omega) (fun h3=>?_) (fun h3=>?_)
  ·refine ai (ai (abr _) (iN (n:=(c.trs.getD i aG).to.length) (by omega))) (ai rfl ?_)
   have hx:=tF g2.1 h3
   have h24:((c.trs.getD i aG).to.getD j 0).toNat<24:=by omega
   refine ai hx ?_
   refine ai (by show 0+((c.trs.getD i aG).to.getD j 0).toNat*1<24;omega) ?_
   refine ei (j+1) (ai (ai rfl rfl) (ai (ai (ai rfl (ai (ai rfl rfl) (ai (ai rfl rfl) (ai (ai (ai (fun _=>rfl) (aM (by omega))) rfl) (ai (ai rfl (ai rfl ?_)) trivial))))) rfl) (ai (ai (iL (by omega)) trivial) (iM (by omega)))))
   intro q hq
   show qE (gT (gX (gX m (c.trs.getD i aG).fr false) ((c.trs.getD i aG).to.take j) true)) (0+((c.trs.getD i aG).to.getD j 0).toNat*1) (bP true) q=gT (gX (gX m (c.trs.getD i aG).fr false) ((c.trs.getD i aG).to.take (j+1)) true) q
   rw[aku,apT,aiq (by rw[jI];exact (jI _ _ _).trans hm) h24,aX 0 h3,yj]
  ·obtain rfl:j=(c.trs.getD i aG).to.length:=by omega
   rw[aiy]
   refine ai (ai (fun h=>absurd (show false=true from h) (by decide)) ?_) trivial
   show au _ (.tup [vI (bI c m i).1,bP (bI c m i).2])
   rw[e]
   exact (ai (ai rfl (fun _ _=>rfl)) rfl)
def apB (m:List Bool) (t:kD):PV:=.fn 125 [.pt (eY 24 (gT m)) 0,.pt (trK t) 0]
def ao9 (l:List Int) (k:Int):Bool:=l.any fun y=>k==y
def nY (m:List Bool) (t:kD) (k:Int):Bool:=l6 m k&&!ao9 t.fr k
theorem anV:aL Tryz.prog 125 (cu (fun a:(List Bool×kD)×Int=>[iA a.2,.p false (.pt (eY 24 (gT a.1.1)) 0),.p false (.pt (trK a.1.2) 0)]) (fun a=>(0≤a.2∧a.2<24)∧a.1.2.fr.length≤1000000) (fun a=>bP (nY a.1.1 a.1.2 a.2))):=by
 refine bg (Tb:=tab) mixed ay Tryz.func125 rfl rfl ?_
 rintro (a:(List Bool×kD)×Int) hpre
 refine ai (ai rfl (ai rfl rfl)) ?_
 obtain ⟨⟨h1,h2⟩,h3⟩:=hpre
 have h1:0≤a.2:=h1
 have h2:a.2<24:=h2
 refine ai ⟨h1,h2⟩ ?_
 refine ei (gT a.1.1 a.2.toNat) (ai (by rw[aku];exact anE a.1.1 (by omega)) ?_)
 refine aZ (b:=l6 a.1.1 a.2) rfl (fun h4=>?_) (fun h4=>?_)
 ·refine ei _ (ai (an7) (ei ((a.1.2.fr,a.2)) (ei [] (ai (a4 (ai (fun _=>Or.inl rfl) (ai nof (Or.inl rfl)))) (ai (by exact (ai (ai rfl (fun _ _=>rfl)) rfl)) (ai trivial (ai (h3) ?_)))))))
  refine ai (ai (fun _=>trivial) ?_) trivial
  show au _ (bP (nY a.1.1 a.1.2 a.2))
  rw[show nY a.1.1 a.1.2 a.2=!ao9 a.1.2.fr a.2 by unfold nY;rw[h4];rfl]
  exact rfl
 ·refine ai (ai (fun _=>trivial) ?_) trivial
  show au _ (bP (nY a.1.1 a.1.2 a.2))
  rw[show nY a.1.1 a.1.2 a.2=false by unfold nY;rw[h4];rfl]
  exact rfl
def akW (a:(List Bool×kD)×List Int):Prop:=jk 24 a.2∧a.2.length≤1000000∧a.1.2.fr.length≤1000000
theorem aoB:aL Tryz.prog 106 (cu (fun a:(List Bool×kD)×List Int=>[isA a.2,.p false (apB a.1.1 a.1.2)]) akW (fun a=>iP (kG (nY a.1.1 a.1.2) a.2))):=by
 refine bg (Tb:=tab) mixed ay Tryz.func106 rfl rfl ?_
 rintro (a:(List Bool×kD)×List Int) hpre
 refine ai (ai rfl (ai rfl rfl)) ?_
 obtain ⟨hx,hl,hf⟩:=hpre
 have hl:a.2.length≤1000000:=hl
 refine ei (bG.inv { X:=Nat,up:=fun k=>[(8,.s (iA k))],uo:=fun k=>[],inv:=fun k=>k≤a.2.length∧(∀y∈a.2.take k,nY a.1.1 a.1.2 y=false),meas:=fun k=>a.2.length-k,x0:=0 }) ?_
 refine ai (ai (ai (by exact (a4 (ai rfl rfl))) (ai (by exact (ai (ai (fun _=>rfl) (iE (by simp only[zz,reduceCtorEq];rfl))) rfl)) (by exact trivial))) rfl) (ai (ai (ac7 _) ?_) ?_)
 ·exact fun y hy=>absurd hy (by simp)
 intro (k:Nat) ⟨hk,hall⟩
 refine ah (p:=k<a.2.length) (ak (by omega)) (fun h1=>?_) (fun h1=>?_)
 ·refine ai (ai (abr _) (iN (n:=a.2.length) (by omega))) (ai rfl ?_)
  refine ei _ (ai (anV) (ei ((a.1,a.2.getD k 0)) (ei [] (ai (a4 (ai (fun _=>Or.inl rfl) (ai nof (Or.inl rfl)))) (ai (by exact (ai (iE (by simp only[zz,reduceCtorEq])) (ai (ai rfl rfl) (ai rfl rfl)))) (ai trivial (ai (⟨tF hx h1,hf⟩) ?_)))))))
  refine aZ (b:=nY a.1.1 a.1.2 (a.2.getD k 0)) rfl (fun h2=>?_) (fun h2=>?_)
  ·refine ai (ai (fun _=>trivial) ?_) trivial
   show au _ (iP (kG (nY a.1.1 a.1.2) a.2))
   rw[tJ (d:=0) h1 h2 hall]
   exact rfl
  refine ei (k+1) (ai (ai rfl rfl) (ai (ai (ai rfl (ai (ai rfl rfl) (ai (ai rfl rfl) (ai (ai (ai (fun _=>rfl) (aM (by omega))) rfl) trivial)))) rfl) (ai (ai (iL (by omega)) ?_) (iM (by omega)))))
  intro y hy
  rw[aX 0 h1] at hy
  rcases akI.1 hy with hy | hy
  ·exact hall y hy
  ·simp only[akz] at hy;subst hy;exact h2
 ·obtain rfl:k=a.2.length:=by omega
  rw[aiy] at hall
  refine ai (ai (fun _=>trivial) ?_) trivial
  show au _ (iP (kG (nY a.1.1 a.1.2) a.2))
  rw[wL hall]
  exact rfl
theorem anO:aL Tryz.prog 38 (cu (fun a:(List Bool×kD)×List Int=>[isA a.2,.p false (apB a.1.1 a.1.2)]) akW (fun a=>bP (a.2.any (nY a.1.1 a.1.2)))):=by
 refine bg (Tb:=tab) mixed ay Tryz.func38 rfl rfl ?_
 rintro (a:(List Bool×kD)×List Int) hpre
 refine ai (ai rfl (ai rfl rfl)) ?_
 refine ei _ (ai (aoB) (ei (a) (ei [] (ai (a4 (ai (fun _=>Or.inl rfl) (ai nof (Or.inl rfl)))) (ai (by exact (ai (ai rfl (fun _ _=>rfl)) (ai rfl rfl))) (ai trivial (ai (hpre) ?_)))))))
 refine ai (ai (fun _=>trivial) ?_) trivial
 show au _ (bP (a.2.any (nY a.1.1 a.1.2)))
 rw[(uP (nY a.1.1 a.1.2) a.2).symm]
 exact rfl
def aac (c:bD) (m:List Bool) (i:Nat):Bool:=(c.trs.getD i aG).to.any (nY m (c.trs.getD i aG))
def aru:Spec:=cu (fun a:bD×List Bool×Nat=>[kF a.1,uZ a.2.1,iA a.2.2]) (fun a=>bJ a.1=0∧jP a.1∧a.2.2<a.1.trs.length) (fun a=>bP (aac a.1 a.2.1 a.2.2))
theorem aem:aL Tryz.prog 62 aru:=by
 refine jQ [3000015] ?_
 refine bg (Tb:=tab) mixed ay Tryz.func62 rfl rfl ?_
 rintro ⟨c,m,i⟩ hpre
 refine ai (ai rfl (ai rfl rfl)) ?_
 obtain ⟨hc,ho,hi⟩:=hpre
 have hc:bJ c=0:=hc
 have ho:jP c:=ho
 have hi:i<c.trs.length:=hi
 obtain ⟨g1,g2,g3⟩:=kV hc hi
 have hto:=ad7 ho hi
 refine ai (ai (abr _) (iN (n:=c.trs.length) (by omega))) (ai rfl ?_)
 refine ei _ (ai (anO) (ei (((m,c.trs.getD i aG),(c.trs.getD i aG).to)) (ei [] (ai (a4 (ai (fun _=>Or.inl rfl) (ai nof (Or.inl rfl)))) (ai (by exact (ai (ai rfl (fun _ _=>rfl)) (ai rfl rfl))) (ai trivial (ai (⟨g2.1,hto.2.1,hto.1⟩) ?_)))))))
 refine ai (ai (fun _=>trivial) ?_) trivial
 exact rfl
theorem aaS {α:Type} {l m:List α} {k:Nat} (d:α) (h1:k<l.length) (h2:k<m.length) (h:l.take k=m.take k) (e:l.getD k d=m.getD k d):l.take (k+1)=m.take (k+1):=by
 rw[aX d h1,aX d h2,h,e]
def akl:Spec:=cu (fun a:List (Bool)×List (Bool)=>[bsA a.1,bsA a.2]) (fun a=>a.1.length≤1000000) (fun a=>bP (decide (a.1=a.2)))
theorem amv:aL Tryz.prog 120 akl:=by
 refine bg (Tb:=tab) mixed ay Tryz.func120 rfl rfl ?_
 rintro (a:List (Bool)×List (Bool)) hpre
 refine ai (ai rfl (ai rfl rfl)) ?_
 have hl:a.1.length≤1000000:=hpre
 refine bH (p:=a.1.length=a.2.length) (bU (by omega)) (fun h1=>?_) (fun h1=>?_)
 ·refine ai (ai (fun _=>trivial) ?_) trivial
  show au _ (bP (decide (a.1=a.2)))
  rw[decide_eq_false (fun h=>h1 (congrArg List.length h))]
  exact rfl
 refine ei (bG.inv { X:=Nat,up:=fun k=>[(5,.s (iA k))],uo:=fun k=>[],inv:=fun k=>k≤a.1.length∧(a.1.take k=a.2.take k),meas:=fun k=>a.1.length-k,x0:=0 }) ?_
 refine ai (ai (ai (by exact (a4 (ai rfl rfl))) (ai (by exact (ai (ai (fun _=>rfl) (iE (by simp only[zz,reduceCtorEq];rfl))) rfl)) (by exact trivial))) rfl) (ai (ai (ac7 _) ?_) ?_)
 ·rfl
 intro (k:Nat) ⟨hk,hall⟩
 refine ah (p:=k<a.1.length) (ak (by omega)) (fun h4=>?_) (fun h4=>?_)
 ·refine ei (.seq [0,1,2,3,4,5,6,7,8]) (ai (by kernel_rfl) ?_)
  refine ai (ai (abr _) (iN (n:=a.1.length) (by omega))) (ai rfl ?_)
  refine ai (ai (abr _) (iN (n:=a.2.length) (by omega))) (ai rfl ?_)
  refine bH (p:=a.1.getD k false=a.2.getD k false) (by exact bne_iff_ne) (fun h5=>?_) (fun h5=>?_)
  ·refine ai (ai (fun _=>trivial) ?_) trivial
   show au _ (bP (decide (a.1=a.2)))
   rw[decide_eq_false (fun h=>h5 (by rw[h]))]
   exact rfl
  refine ei (k+1) (ai (ai rfl rfl) (ai (ai (ai rfl (ai (ai rfl rfl) (ai (ai rfl rfl) (ai (ai (ai (fun _=>rfl) (aM (by omega))) rfl) trivial)))) rfl) (ai (ai (iL (by omega)) ?_) (iM (by omega)))))
  exact aaS false h4 (by omega) hall h5
 ·obtain rfl:k=a.1.length:=by omega
  rw[aiy,h1,aiy] at hall
  refine ai (ai (fun _=>trivial) ?_) trivial
  show au _ (bP (decide (a.1=a.2)))
  rw[decide_eq_true hall]
  exact rfl
def apN:Spec:=cu (fun a:List (List UInt8)×List (List UInt8)=>[nH a.1,nH a.2]) (fun a=>a.1.length≤1000000) (fun a=>bP (decide (a.1=a.2)))
theorem amP:aL Tryz.prog 28 apN:=by
 refine bg (Tb:=tab) mixed ay Tryz.func28 rfl rfl ?_
 rintro (a:List (List UInt8)×List (List UInt8)) hpre
 refine ai (ai rfl (ai rfl rfl)) ?_
 have hl:a.1.length≤1000000:=hpre
 refine bH (p:=a.1.length=a.2.length) (bU (by omega)) (fun h1=>?_) (fun h1=>?_)
 ·refine ai (ai (fun _=>trivial) ?_) trivial
  show au _ (bP (decide (a.1=a.2)))
  rw[decide_eq_false (fun h=>h1 (congrArg List.length h))]
  exact rfl
 refine ei (bG.inv { X:=Nat,up:=fun k=>[(5,.s (iA k))],uo:=fun k=>[],inv:=fun k=>k≤a.1.length∧(a.1.take k=a.2.take k),meas:=fun k=>a.1.length-k,x0:=0 }) ?_
 refine ai (ai (ai (by exact (a4 (ai rfl rfl))) (ai (by exact (ai (ai (fun _=>rfl) (iE (by simp only[zz,reduceCtorEq];rfl))) rfl)) (by exact trivial))) rfl) (ai (ai (ac7 _) ?_) ?_)
 ·rfl
 intro (k:Nat) ⟨hk,hall⟩
 refine ah (p:=k<a.1.length) (ak (by omega)) (fun h4=>?_) (fun h4=>?_)
 ·refine ei (.seq [0,1,2,3,4,5,6,7,8]) (ai (by kernel_rfl) ?_)
  refine ai (ai (abr _) (iN (n:=a.1.length) (by omega))) (ai rfl ?_)
  refine ai (ai (abr _) (iN (n:=a.2.length) (by omega))) (ai rfl ?_)
  refine bH (p:=a.1.getD k []=a.2.getD k []) (by (show (!(a.1.getD k []==a.2.getD k []))=true↔_;simp)) (fun h5=>?_) (fun h5=>?_)
  ·refine ai (ai (fun _=>trivial) ?_) trivial
   show au _ (bP (decide (a.1=a.2)))
   rw[decide_eq_false (fun h=>h5 (by rw[h]))]
   exact rfl
  refine ei (k+1) (ai (ai rfl rfl) (ai (ai (ai rfl (ai (ai rfl rfl) (ai (ai rfl rfl) (ai (ai (ai (fun _=>rfl) (aM (by omega))) rfl) trivial)))) rfl) (ai (ai (iL (by omega)) ?_) (iM (by omega)))))
  exact aaS [] h4 (by omega) hall h5
 ·obtain rfl:k=a.1.length:=by omega
  rw[aiy,h1,aiy] at hall
  refine ai (ai (fun _=>trivial) ?_) trivial
  show au _ (bP (decide (a.1=a.2)))
  rw[decide_eq_true hall]
  exact rfl
theorem al8:aL Tryz.prog 54 akl:=by
 refine bg (Tb:=tab) mixed ay Tryz.func54 rfl rfl ?_
 rintro (a:List Bool×List Bool) hpre
 refine ai (ai rfl (ai rfl rfl)) ?_
 refine ei _ (ai (amv) (ei (a) (ei [] (ai (a4 (ai (fun _=>Or.inl rfl) (ai nof (Or.inl rfl)))) (ai (by exact (ai (ai rfl (fun _ _=>rfl)) (ai rfl (fun _ _=>rfl)))) (ai trivial (ai (hpre) ?_)))))))
 refine ai (ai (fun _=>trivial) ?_) trivial
 exact rfl
structure nJ where
 act:Int
 sts:List Stp
def sqK (s:nJ):List PV:=[iP s.act,ajU s.sts]
def sqA (s:nJ):SV:=.p false (.agg (sqK s))
def wG (l:List Sk) (k:Nat):Int:=if (l.getD k bO).1<0∨6≤(l.getD k bO).1 then 2 else if 0<k∧(l.getD k bO).1=(l.getD (k-1) bO).1 then 7 else if 0<k∧(l.getD k bO).1<(l.getD (k-1) bO).1 then 9 else 0
def kH (x:Stp):Int:=if x.st.length=0 then 13 else if 6<x.st.length then 5 else if ¬dN (wG x.st) x.st.length=0 then dN (wG x.st) x.st.length else if x.wt<0∨1000000<x.wt then 2 else 0
def alV (x:Int):Bool:=decide (0≤x)&&decide (x<6)
theorem ags {x:Int}:alV x=true↔0≤x∧x<6:=by unfold alV;rw[ahX,decide_eq_true_iff,decide_eq_true_iff]
theorem aeK:aL Tryz.prog 168 (cu (fun x:Int=>[iA x]) (fun _=>True) (fun x=>bP (decide (0≤x)&&decide (x<6)))):=by
 refine bg (Tb:=tab) mixed ay Tryz.func168 rfl rfl ?_
 rintro (x:Int) hpre
 refine ai (ai rfl (ai rfl rfl)) ?_
 refine ah (p:=0≤x) (bX (by omega)) (fun h1=>?_) (fun h1=>?_)
 ·refine ai (ai (fun _=>trivial) ?_) trivial
  show au _ (bP (decide (0≤x)&&decide (x<6)))
  rw[decide_eq_true h1,aj4]
  exact rfl
 ·refine ai (ai (fun _=>trivial) ?_) trivial
  show au _ (bP (decide (0≤x)&&decide (x<6)))
  rw[decide_eq_false h1,aqd]
  exact rfl
def vH (l:List Sk) (k:Nat):Int:=if k=0 then -1 else (l.getD (k-1) bO).1
def arn:Spec:=cu (fun x:Stp=>[stA x]) (fun _=>True) (fun x=>iP (kH x))
theorem ao0:aL Tryz.prog 164 arn:=by
 refine bg (Tb:=tab) mixed ay Tryz.func164 rfl rfl ?_
 rintro (x:Stp) hpre
 refine ai (ai rfl (ai rfl rfl)) ?_
 refine ah (p:=x.st.length=0) (bC (by omega)) (fun h1=>?_) (fun h1=>?_)
 ·refine ai (ai (fun _=>trivial) ?_) trivial
  show au _ (iP (kH x))
  rw[kH,if_pos h1]
  exact rfl
 refine ah (p:=6<x.st.length) (ak (by omega)) (fun h2=>?_) (fun h2=>?_)
 ·refine ai (ai (fun _=>trivial) ?_) trivial
  show au _ (iP (kH x))
  rw[kH,if_neg h1,if_pos h2]
  exact rfl
 have hA:∀e,dN (wG x.st) x.st.length=e→¬e=0→kH x=e:=fun e h h0=>by unfold kH;rw[if_neg h1,if_neg h2,if_pos (by rw[h];exact h0),h]
 refine ei (bG.inv { X:=Nat,up:=fun k=>[(19,.s (iA k)),(4,.s (iA (vH x.st k)))],uo:=fun k=>[],inv:=fun k=>k≤x.st.length∧(∀j,j<k→wG x.st j=0),meas:=fun k=>x.st.length-k,x0:=0 }) ?_
 refine ai (ai (ai (by exact (a4 (ai rfl rfl))) (ai (by exact (ai (ai (ai (fun _=>rfl) (iE (by simp only[zz,reduceCtorEq];rfl))) rfl) (ai (ai (fun _=>rfl) (iE (by simp only[zz,reduceCtorEq];rfl))) rfl))) (by exact trivial))) rfl) (ai (ai (ac7 _) ?_) ?_)
 ·exact fun j hj=>absurd hj (ani _)
 intro (k:Nat) ⟨hk,hall⟩
 refine ah (p:=k<x.st.length) (ak (by omega)) (fun h3=>?_) (fun h3=>?_)
 ·refine ai (ai (abr _) (iN (n:=x.st.length) (by omega))) (ai rfl ?_)
  refine ei _ (ai (aeK) (ei ((x.st.getD k bO).1) (ei [] (ai (a4 (ai (fun _=>Or.inl rfl) (ai nof (Or.inl rfl)))) (ai (by exact (iE (by simp only[zz,reduceCtorEq]))) (ai trivial (ai (trivial) ?_)))))))
  refine aZ (b:=!alV (x.st.getD k bO).1) rfl (fun h4=>?_) (fun h4=>?_)
  ·have h4:¬(0≤(x.st.getD k bO).1∧(x.st.getD k bO).1<6):=by rw[←ags];simpa using h4
   have e:wG x.st k=2:=by unfold wG;rw[if_pos (by omega)]
   refine ai (ai (fun _=>trivial) ?_) trivial
   show au _ (iP (kH x))
   rw[hA 2 ((dG h3 hall (by rw[e];decide)).trans e) (by decide)]
   exact rfl
  have h4:0≤(x.st.getD k bO).1∧(x.st.getD k bO).1<6:=by rw[←ags];simpa using h4
  refine ah (p:=(x.st.getD k bO).1=vH x.st k) (by simp only[zz,reduceCtorEq]) (fun h5=>?_) (fun h5=>?_)
  ·have hk0:0<k:=by
    rcases aq9 k with e | e
    ·subst e;unfold vH at h5;rw[if_pos rfl] at h5;omega
    ·exact e
   have h5:(x.st.getD k bO).1=(x.st.getD (k-1) bO).1:=by unfold vH at h5;rwa [if_neg (by omega)] at h5
   have e:wG x.st k=7:=by unfold wG;rw[if_neg (by omega),if_pos ⟨hk0,h5⟩]
   refine ai (ai (fun _=>trivial) ?_) trivial
   show au _ (iP (kH x))
   rw[hA 7 ((dG h3 hall (by rw[e];decide)).trans e) (by decide)]
   exact rfl
  refine ah (p:=(x.st.getD k bO).1<vH x.st k) (ak Iff.rfl) (fun h6=>?_) (fun h6=>?_)
  ·have hk0:0<k:=by
    rcases aq9 k with e | e
    ·subst e;unfold vH at h6;rw[if_pos rfl] at h6;omega
    ·exact e
   have h6:(x.st.getD k bO).1<(x.st.getD (k-1) bO).1:=by unfold vH at h6;rwa [if_neg (by omega)] at h6
   have e:wG x.st k=9:=by unfold wG;rw[if_neg (by omega),if_neg (by omega),if_pos ⟨hk0,h6⟩]
   refine ai (ai (fun _=>trivial) ?_) trivial
   show au _ (iP (kH x))
   rw[hA 9 ((dG h3 hall (by rw[e];decide)).trans e) (by decide)]
   exact rfl
  refine ei (k+1) (ai (ai rfl rfl) (ai (ai (ai rfl (ai (ai rfl rfl) (ai (ai rfl rfl) (ai (ai (ai (ai (fun _=>rfl) (aM (by omega))) rfl) (ai (ai nof (iE (by simp only[zz,reduceCtorEq];rfl))) rfl)) trivial)))) rfl) (ai (ai (iL (by omega)) ?_) (iM (by omega)))))
  intro j hj
  by_cases hjk:j=k
  ·subst hjk
   unfold vH at h5 h6
   unfold wG
   rw[if_neg (by omega)]
   by_cases e0:j=0
   ·rw[if_neg (by omega),if_neg (by omega)]
   ·rw[if_neg e0] at h5 h6
    rw[if_neg (fun h=>h5 h.2),if_neg (fun h=>h6 h.2)]
  ·exact hall j (by omega)
 ·obtain rfl:k=x.st.length:=by omega
  have e2:dN (wG x.st) x.st.length=0:=gK hall
  have hB:kH x=if x.wt<0∨1000000<x.wt then 2 else 0:=by unfold kH;rw[if_neg h1,if_neg h2,if_neg (fun h=>h e2)]
  refine ah (p:=x.wt<0) (ak (by omega)) (fun h7=>?_) (fun h7=>?_)
  ·refine ai (ai (fun _=>trivial) ?_) trivial
   show au _ (iP (kH x))
   rw[hB,if_pos (.inl h7)]
   exact rfl
  refine ah (p:=1000000<x.wt) (ak (by omega)) (fun h8=>?_) (fun h8=>?_)
  ·refine ai (ai (fun _=>trivial) ?_) trivial
   show au _ (iP (kH x))
   rw[hB,if_pos (.inr h8)]
   exact rfl
  ·refine ai (ai (fun _=>trivial) ?_) trivial
   show au _ (iP (kH x))
   rw[hB,if_neg (by omega)]
   exact rfl
theorem afU {m:List Bool} {j:Nat} (hj:j<m.length) (b:Bool) (k:Nat):qE (gT m) j (bP b) k=gT (m.set j b) k:=by
 unfold qE gT
 rw[abo,abo,ate]
 by_cases h:k=j
 ·rw[if_pos h,if_pos h.symm,if_pos hj];rfl
 ·rw[if_neg h,if_neg (fun e=>h e.symm)]
def okS (n:Nat) (l:List Sk):Prop:=∀y∈l,0≤y.1∧y.1<(n:Int)
theorem pX {n:Nat} {l:List Sk} (h:okS n l) {k:Nat} (hk:k<l.length):0≤(l.getD k bO).1∧(l.getD k bO).1<(n:Int):=h _ (abv (bY bO hk))
def rT (m:List Bool) (l:List Sk):List Bool:=l.foldl (fun m y=>m.set y.1.toNat y.2) m
theorem akc (m:List Bool) (l:List Sk) (y:Sk):rT m (l++[y])=(rT m l).set y.1.toNat y.2:=by unfold rT;rw[asg];rfl
theorem ab5:∀(l:List Sk) (m:List Bool),(rT m l).length=m.length
 | [],_=>rfl
 | y :: l,m=>by
  show (rT (m.set y.1.toNat y.2) l).length=_
  rw[ab5 l,asD]
theorem xw {x:Stp} (h:kH x=0):(0<x.st.length∧x.st.length≤6)∧okS 6 x.st∧0≤x.wt∧x.wt≤1000000:=by
 unfold kH at h
 split at h
 ·cases h
 rename_i h1
 split at h
 ·cases h
 rename_i h2
 split at h
 ·rename_i h3;exact absurd h h3
 rename_i h3
 split at h
 ·cases h
 rename_i h4
 refine ⟨⟨by omega,by omega⟩,fun y hy=>?_,by omega,by omega⟩
 obtain ⟨i,hi,rfl⟩:=aqc hy
 have h5:=pF (arj.1 h3) i hi
 unfold wG at h5
 have hg:x.st.getD i bO=x.st[i]:=by rw[abo,abm hi];rfl
 rw[hg] at h5
 split at h5
 ·cases h5
 ·omega
def enP (m:List Bool):PV:=.arr 6 (gT m)
def enA (m:List Bool):SV:=.p false (enP m)
def enO (m:List Bool):Ob:=.arr 194 6 (gT m)
def afg (act:Int) (l:List Sk):Bool:=l.any fun y=>decide (act≤y.1)
def atE (m:List Bool) (l:List Sk):Bool:=l.any fun y=>l6 m y.1==y.2
def nW (act:Int) (x:Stp) (m:List Bool):Int:=if ¬kH x=0 then kH x else if afg act x.st then 6 else if atE m x.st then 14 else 0
theorem aoa:aL Tryz.prog 130 (cu (fun a:nJ×Stp×List Bool=>[sqA a.1,stA a.2.1,enA a.2.2]) (fun a=>a.1.act≤6) (fun a=>iP (nW a.1.act a.2.1 a.2.2))):=by
 refine bg (Tb:=tab) mixed ay Tryz.func130 rfl rfl ?_
 rintro ⟨s,x,m⟩ hpre
 refine ai (ai rfl (ai rfl rfl)) ?_
 have ha:s.act≤6:=hpre
 refine ei _ (ai (ao0) (ei (x) (ei [] (ai (a4 (ai (fun _=>Or.inl rfl) (ai nof (Or.inl rfl)))) (ai (by exact (ai (ai rfl (fun _ _=>rfl)) rfl)) (ai trivial (ai (trivial) ?_)))))))
 refine bH (p:=kH x=0) (bU (by omega)) (fun h1=>?_) (fun h1=>?_)
 ·refine ai (ai (fun _=>trivial) ?_) trivial
  show au _ (iP (nW s.act x m))
  rw[nW,if_pos h1]
  exact rfl
 obtain ⟨⟨_,h6⟩,hx,_⟩:=xw h1
 refine ei (bG.inv { X:=Nat,up:=fun k=>[(20,.s (iA k))],uo:=fun k=>[],inv:=fun k=>k≤x.st.length∧(∀y∈x.st.take k,decide (s.act≤y.1)=false),meas:=fun k=>x.st.length-k,x0:=0 }) ?_
 refine ai (ai (ai (by exact (a4 (ai rfl rfl))) (ai (by exact (ai (ai (fun _=>rfl) (iE (by simp only[zz,reduceCtorEq];rfl))) rfl)) (by exact trivial))) rfl) (ai (ai (ac7 _) ?_) ?_)
 ·exact fun y hy=>absurd hy (by simp)
 intro (k:Nat) ⟨hk,hall⟩
 refine ah (p:=k<x.st.length) (ak (by dsimp only;omega)) (fun h2=>?_) (fun h2=>?_)
 ·refine ai (ai (abr _) (iN (n:=x.st.length) (by omega))) (ai rfl ?_)
  refine ah (p:=s.act≤(x.st.getD k bO).1) (bX Iff.rfl) (fun h3=>?_) (fun h3=>?_)
  ·have e:afg s.act x.st=true:=agd (d:=bO) h2 (decide_eq_true h3)
   refine ai (ai (fun _=>trivial) ?_) trivial
   show au _ (iP (nW s.act x m))
   rw[nW,if_neg (fun h=>h h1),if_pos e]
   exact rfl
  refine ei (k+1) (ai (ai rfl rfl) (ai (ai (ai rfl (ai (ai rfl rfl) (ai (ai rfl rfl) (ai (ai (ai (fun _=>rfl) (aM (by omega))) rfl) trivial)))) rfl) (ai (ai (iL (by omega)) ?_) (iM (by omega)))))
  intro y hy
  rw[aX bO h2] at hy
  rcases akI.1 hy with hy | hy
  ·exact hall y hy
  ·simp only[akz] at hy;subst hy;exact decide_eq_false h3
 ·obtain rfl:k=x.st.length:=by omega
  rw[aiy] at hall
  have eo:afg s.act x.st=false:=asE.2 (fun y hy=>by rw[hall y hy];decide)
  refine ei (bG.inv { X:=Nat,up:=fun j=>[(33,.s (iA j))],uo:=fun j=>[],inv:=fun j=>j≤x.st.length∧(∀y∈x.st.take j,(l6 m y.1==y.2)=false),meas:=fun j=>x.st.length-j,x0:=0 }) ?_
  refine ai (ai (ai (by exact (a4 (ai rfl rfl))) (ai (by exact (ai (ai (fun _=>rfl) (iE (by simp only[zz,reduceCtorEq];rfl))) rfl)) (by exact trivial))) rfl) (ai (ai (ac7 _) ?_) ?_)
  ·exact fun y hy=>absurd hy (by simp)
  intro (j:Nat) ⟨hj,hal⟩
  refine ah (p:=j<x.st.length) (ak (by dsimp only;omega)) (fun h4=>?_) (fun h4=>?_)
  ·refine ai (ai (abr _) (iN (n:=x.st.length) (by omega))) (ai rfl ?_)
   have hxj:=pX hx h4
   refine ei (.seq [0,1,2,3,4,5,6]) (ai (by kernel_rfl) ?_)
   refine ai hxj ?_
   refine ai (by show 0+(x.st.getD j bO).1.toNat*1<6;omega) ?_
   refine ah (p:=(l6 m (x.st.getD j bO).1==(x.st.getD j bO).2)=true) (by (show (m.getD (0+(x.st.getD j bO).1.toNat*1) false==(x.st.getD j bO).2)=true↔_;rw[apT,aku];exact Iff.rfl)) (fun h5=>?_) (fun h5=>?_)
   ·have e:atE m x.st=true:=agd (d:=bO) h4 h5
    refine ai (ai (fun _=>trivial) ?_) trivial
    show au _ (iP (nW s.act x m))
    rw[nW,if_neg (fun h=>h h1),if_neg (by rw[eo];decide),if_pos e]
    exact rfl
   refine ei (j+1) (ai (ai rfl rfl) (ai (ai (ai rfl (ai (ai rfl rfl) (ai (ai rfl rfl) (ai (ai (ai (fun _=>rfl) (aM (by omega))) rfl) trivial)))) rfl) (ai (ai (iL (by omega)) ?_) (iM (by omega)))))
   intro y hy
   rw[aX bO h4] at hy
   rcases akI.1 hy with hy | hy
   ·exact hal y hy
   ·simp only[akz] at hy;subst hy;exact ar2.2 h5
  ·obtain rfl:j=x.st.length:=by omega
   rw[aiy] at hal
   have e:atE m x.st=false:=asE.2 (fun y hy=>by rw[hal y hy];decide)
   refine ai (ai (fun _=>trivial) ?_) trivial
   show au _ (iP (nW s.act x m))
   rw[nW,if_neg (fun h=>h h1),if_neg (by rw[eo];decide),if_neg (by rw[e];decide)]
   exact rfl
theorem akM:aL Tryz.prog 131 (jF (fun a:List Bool×Stp=>[enA a.1,stA a.2]) (fun a=>a.1.length≤6∧okS a.1.length a.2.st∧a.2.st.length≤1000000) (fun a=>enP (rT a.1 a.2.st))):=by
 refine bg (Tb:=tab) mixed ay Tryz.func131 rfl rfl ?_
 rintro ⟨m,x⟩ hpre
 refine ai (ai rfl (ai rfl rfl)) ?_
 obtain ⟨hm,hx,hl⟩:=hpre
 have hm:m.length≤6:=hm
 have hx:okS m.length x.st:=hx
 have hl:x.st.length≤1000000:=hl
 refine ei (bG.inv { X:=Nat,up:=fun k=>[(10,.s (iA k))],uo:=fun k=>[⟨0,194,[.ob (enO (rT m (x.st.take k)))]⟩],inv:=fun k=>k≤x.st.length∧(True),meas:=fun k=>x.st.length-k,x0:=0 }) ?_
 refine ai (ai (ai (by exact (a4 (ai rfl rfl))) (ai ?_ ?_)) rfl) (ai (ai (ac7 _) ?_) ?_)
 ·exact (ai (ai (fun _=>rfl) (iE (by simp only[zz,reduceCtorEq];rfl))) rfl)
 ·exact (ai (ai rfl (ai rfl (fun _ _=>rfl))) trivial)
 ·trivial
 intro (k:Nat) ⟨hk,_⟩
 refine ah (p:=k<x.st.length) (ak (by dsimp only;omega)) (fun h1=>?_) (fun h1=>?_)
 ·refine ai (ai (abr _) (iN (n:=x.st.length) (by omega))) (ai rfl ?_)
  have hxk:=pX hx h1
  refine ai (by show 0≤(x.st.getD k bO).1∧(x.st.getD k bO).1<6;omega) ?_
  refine ai (by show 0+(x.st.getD k bO).1.toNat*1<6;omega) ?_
  refine ei (k+1) (ai (ai rfl rfl) (ai (ai (ai rfl (ai (ai rfl rfl) (ai (ai rfl rfl) (ai (ai (ai (fun _=>rfl) (aM (by omega))) rfl) (ai (ai rfl (ai rfl ?_)) trivial))))) rfl) (ai (ai (iL (by omega)) trivial) (iM (by omega)))))
  intro q hq
  show qE (gT (rT m (x.st.take k))) (0+(x.st.getD k bO).1.toNat*1) (bP (x.st.getD k bO).2) q=gT (rT m (x.st.take (k+1))) q
  rw[aku,apT,afU (by rw[ab5];omega),aX bO h1,akc]
 ·obtain rfl:k=x.st.length:=by omega
  rw[aiy]
  refine ai (ai (fun _=>(by exact (fun _ _=>rfl))) ?_) trivial
  exact (ai rfl (fun _ _=>rfl))
def zeroE (act:Int):List Bool:=List.replicate act.toNat false
def iY (act:Int) (l:List Stp) (k:Nat):List Bool:=(l.take k).foldl (fun m x=>rT m x.st) (zeroE act)
def lF (act:Int) (l:List Stp) (k:Nat):List Bool:=(l.take k).foldl (fun m x=>gX m (x.st.map (·.1)) true) (zeroE act)
theorem ahD {act:Int} {l:List Stp} {k:Nat} (h:k<l.length):iY act l (k+1)=rT (iY act l k) (l.getD k st0).st:=by unfold iY;rw[aX st0 h,asg];rfl
theorem ajr {act:Int} {l:List Stp} {k:Nat} (h:k<l.length):lF act l (k+1)=gX (lF act l k) ((l.getD k st0).st.map (·.1)) true:=by unfold lF;rw[aX st0 h,asg];rfl
theorem aal {α β:Type} {f:List β→α→List β} (hf:∀m x,(f m x).length=m.length):∀(l:List α) (m:List β),(l.foldl f m).length=m.length
 | [],_=>rfl
 | x :: l,m=>by rw[asL,aal hf l,hf]
theorem ajv (act:Int) (l:List Stp) (k:Nat):(iY act l k).length=act.toNat:=by
 refine (aal (f:=fun m (x:Stp)=>rT m x.st) (fun m x=>ab5 x.st m) (l.take k) (zeroE act)).trans ?_
 unfold zeroE;rw[ar9]
theorem alg (act:Int) (l:List Stp) (k:Nat):(lF act l k).length=act.toNat:=by
 refine (aal (f:=fun m (x:Stp)=>gX m (x.st.map (·.1)) true) (fun m x=>jI true (x.st.map (·.1)) m) (l.take k) (zeroE act)).trans ?_
 unfold zeroE;rw[ar9]
def xG (s:nJ):Int:=dN (fun k=>nW s.act (s.sts.getD k st0) (iY s.act s.sts k)) s.sts.length
def lN (s:nJ):Int:=
 if s.act<1∨6<s.act then 2 else if s.sts.length=0 then 13 else if 64<s.sts.length then 5 else if ¬xG s=0 then xG s
 else if (iY s.act s.sts s.sts.length).any id=true then 9 else if ((lF s.act s.sts s.sts.length).any fun y=>false==y)=true then 13 else 0
theorem aqv:∀{m:List Bool},m.length≤6→(!((m.getD 0 false==false)&&((m.getD 1 false==false)&&((m.getD 2 false==false)&&((m.getD 3 false==false)&&((m.getD 4 false==false)&&((m.getD 5 false==false)&&true)))))))=m.any id
 | [],_=>rfl
 | [a],_=>by cases a<;>rfl
 | [a,b],_=>by cases a<;>cases b<;>rfl
 | [a,b,c],_=>by cases a<;>cases b<;>cases c<;>rfl
 | [a,b,c,d],_=>by cases a<;>cases b<;>cases c<;>cases d<;>rfl
 | [a,b,c,d,e],_=>by cases a<;>cases b<;>cases c<;>cases d<;>cases e<;>rfl
 | [a,b,c,d,e,f],_=>by cases a<;>cases b<;>cases c<;>cases d<;>cases e<;>cases f<;>rfl
 | _ :: _ :: _ :: _ :: _ :: _ :: _ :: _,h=>by simp at h
theorem an4 (l:List Sk) {j:Nat} (h:j<l.length):(l.map (·.1)).getD j 0=(l.getD j bO).1:=by
 rw[abo,abo,ane,abm h];rfl
theorem agL {act:Int} {x:Stp} {m:List Bool} (h:nW act x m=0):kH x=0∧∀y∈x.st,0≤y.1∧y.1<act:=by
 unfold nW at h
 split at h
 ·rename_i h1;exact absurd h h1
 rename_i h1
 have h1:=arj.1 h1
 split at h
 ·cases h
 rename_i h2
 refine ⟨h1,fun y hy=>⟨((xw h1).2.1 y hy).1,?_⟩⟩
 have:afg act x.st=false:=by simpa using h2
 have:=asE.1 this y hy
 simpa using this
theorem acC:∀k,k<6→mq (vals (List.replicate 6 (.bool false))) k=gT [] k:=fun k hk=>by
 match k,hk with
 | 0,_=>rfl | 1,_=>rfl | 2,_=>rfl | 3,_=>rfl | 4,_=>rfl | 5,_=>rfl
theorem agh (act:Int) (k:Nat):gT (zeroE act) k=gT [] k:=by
 unfold gT zeroE
 rw[abo,asA]
 split<;>rfl
theorem alk:aL Tryz.prog 67 (cu (fun s:nJ=>[sqA s]) (fun _=>True) (fun s=>iP (lN s))):=by
 refine bg (Tb:=tab) mixed ay Tryz.func67 rfl rfl ?_
 rintro (s:nJ) hpre
 refine ai (ai rfl (ai rfl rfl)) ?_
 refine ah (p:=s.act<1) (ak (by omega)) (fun h1=>?_) (fun h1=>?_)
 ·refine ai (ai (fun _=>trivial) ?_) trivial
  show au _ (iP (lN s))
  rw[lN,if_pos (.inl h1)]
  exact rfl
 refine ah (p:=6<s.act) (ak (by omega)) (fun h2=>?_) (fun h2=>?_)
 ·refine ai (ai (fun _=>trivial) ?_) trivial
  show au _ (iP (lN s))
  rw[lN,if_pos (.inr h2)]
  exact rfl
 have e0:¬(s.act<1∨6<s.act):=fun h=>h.elim h1 h2
 refine ah (p:=s.sts.length=0) (bC (by omega)) (fun h3=>?_) (fun h3=>?_)
 ·refine ai (ai (fun _=>trivial) ?_) trivial
  show au _ (iP (lN s))
  rw[lN,if_neg e0,if_pos h3]
  exact rfl
 refine ah (p:=64<s.sts.length) (ak (by omega)) (fun h4=>?_) (fun h4=>?_)
 ·refine ai (ai (fun _=>trivial) ?_) trivial
  show au _ (iP (lN s))
  rw[lN,if_neg e0,if_neg h3,if_pos h4]
  exact rfl
 have hA:lN s=if ¬xG s=0 then xG s else if (iY s.act s.sts s.sts.length).any id=true then 9 else if ((lF s.act s.sts s.sts.length).any fun y=>false==y)=true then 13 else 0:=by
  unfold lN;rw[if_neg e0,if_neg h3,if_neg h4]
 refine ei (bG.inv { X:=Nat,up:=fun k=>[(32,.s (iA k))],uo:=fun k=>[⟨1,194,[.ob (enO (iY s.act s.sts k))]⟩,⟨2,194,[.ob (enO (lF s.act s.sts k))]⟩],inv:=fun k=>k≤s.sts.length∧(∀j,j<k→nW s.act (s.sts.getD j st0) (iY s.act s.sts j)=0),meas:=fun k=>s.sts.length-k,x0:=0 }) ?_
 refine ai (ai (ai (by exact (a4 (ai rfl rfl))) (ai ?_ ?_)) rfl) (ai (ai (ac7 _) ?_) ?_)
 ·exact (ai (ai (fun _=>rfl) (iE (by simp only[zz,reduceCtorEq];rfl))) rfl)
 ·refine (ai (ai rfl (ai rfl ?_)) (ai (ai rfl (ai rfl ?_)) trivial))
  ·exact fun q hq=>(acC q hq).trans (agh s.act q).symm
  ·exact fun q hq=>(acC q hq).trans (agh s.act q).symm
 ·exact fun j hj=>absurd hj (ani _)
 intro (k:Nat) ⟨hk,hall⟩
 have hel:=ajv s.act s.sts k
 have hml:=alg s.act s.sts k
 refine ah (p:=k<s.sts.length) (ak (by omega)) (fun h5=>?_) (fun h5=>?_)
 ·refine ai (ai (abr _) (iN (n:=s.sts.length) (by omega))) (ai rfl ?_)
  refine ei _ (ai (aoa) (ei ((s,s.sts.getD k st0,iY s.act s.sts k)) (ei [] (ai (a4 (ai (fun _=>Or.inl rfl) (ai nof (Or.inl rfl)))) (ai (by exact (ai (ai rfl (ai rfl (fun _ _=>rfl))) (ai (ai (ai rfl (fun _ _=>rfl)) (iE (by simp only[zz,reduceCtorEq]))) (ai rfl (fun _ _=>rfl))))) (ai trivial (ai ((by show s.act≤6;omega)) ?_)))))))
  refine bH (p:=nW s.act (s.sts.getD k st0) (iY s.act s.sts k)=0) (bU (by dsimp only;omega)) (fun h6=>?_) (fun h6=>?_)
  ·have e:xG s=nW s.act (s.sts.getD k st0) (iY s.act s.sts k):=dG (f:=fun k=>nW s.act (s.sts.getD k st0) (iY s.act s.sts k)) h5 hall h6
   refine ai (ai (fun _=>trivial) ?_) trivial
   show au _ (iP (lN s))
   rw[hA,if_pos (show ¬xG s=0 by rw[e];exact h6),e]
   exact rfl
  obtain ⟨hck,hso⟩:=agL h6
  have h6l:=(xw hck).1.2
  have hokS:okS s.act.toNat (s.sts.getD k st0).st:=fun y hy=>by have:=hso y hy;omega
  refine ei _ (ai ((kM akM (iY s.act s.sts k,s.sts.getD k st0) ⟨by show (iY s.act s.sts k).length≤6;omega,by show okS (iY s.act s.sts k).length _;rw[hel];exact hokS,by show (s.sts.getD k st0).st.length≤1000000;omega⟩ (r:=enP (iY s.act s.sts (k+1))) (by rw[ahD h5]))) (ei (()) (ei [] (ai (a4 (ai (fun _=>Or.inl rfl) (ai nof (Or.inl rfl)))) (ai (by exact (ai (ai rfl (fun _ _=>rfl)) (ai (ai rfl (fun _ _=>rfl)) (iE (by simp only[zz,reduceCtorEq]))))) (ai trivial (ai (trivial) ?_)))))))
  refine ei (bG.inv { X:=Nat,up:=fun j=>[(49,.s (iA j))],uo:=fun j=>[⟨2,194,[.ob (enO (gX (lF s.act s.sts k) (((s.sts.getD k st0).st.map (·.1)).take j) true))]⟩],inv:=fun j=>j≤(s.sts.getD k st0).st.length∧(True),meas:=fun j=>(s.sts.getD k st0).st.length-j,x0:=0 }) ?_
  refine ai (ai (ai (by exact (a4 (ai rfl rfl))) (ai ?_ ?_)) rfl) (ai (ai (ac7 _) ?_) ?_)
  ·exact (ai (ai (fun _=>rfl) (iE (by simp only[zz,reduceCtorEq];rfl))) rfl)
  ·exact (ai (ai rfl (ai rfl (fun _ _=>rfl))) trivial)
  ·trivial
  intro (j:Nat) ⟨hj,_⟩
  refine ah (p:=j<(s.sts.getD k st0).st.length) (by simp only[zz,reduceCtorEq];omega) (fun h7=>?_) (fun h7=>?_)
  ·refine ai (ai (abr _) (iN (n:=(s.sts.getD k st0).st.length) (by omega))) (ai rfl ?_)
   have hxj:=pX hokS h7
   refine ai (by show 0≤((s.sts.getD k st0).st.getD j bO).1∧((s.sts.getD k st0).st.getD j bO).1<6;omega) ?_
   refine ai (by show 0+((s.sts.getD k st0).st.getD j bO).1.toNat*1<6;omega) ?_
   refine ei (j+1) (ai (ai rfl rfl) (ai (ai (ai rfl (ai (ai rfl rfl) (ai (ai rfl rfl) (ai (ai (ai (fun _=>rfl) (aM (by omega))) rfl) (ai (ai rfl (ai rfl ?_)) trivial))))) rfl) (ai (ai (iL (by omega)) trivial) (iM (by omega)))))
   intro q hq
   show qE (gT (gX (lF s.act s.sts k) (((s.sts.getD k st0).st.map (·.1)).take j) true)) (0+((s.sts.getD k st0).st.getD j bO).1.toNat*1) (bP true) q=gT (gX (lF s.act s.sts k) (((s.sts.getD k st0).st.map (·.1)).take (j+1)) true) q
   have eg:=an4 (s.sts.getD k st0).st h7
   rw[aku,apT,afU (by rw[jI];omega),aX 0 (by rw[apg];exact h7),yj,eg]
  ·obtain rfl:j=(s.sts.getD k st0).st.length:=by omega
   have e9:gX (lF s.act s.sts k) (((s.sts.getD k st0).st.map (·.1)).take (s.sts.getD k st0).st.length) true=lF s.act s.sts (k+1):=by
    rw[ajr h5,asq (by rw[apg];exact aic _)]
   refine ei (k+1) (ai (ai rfl rfl) (ai (ai (ai rfl (ai (ai rfl rfl) (ai (ai rfl rfl) (ai (ai (ai (fun _=>rfl) (aM (by omega))) rfl) (ai (ai rfl (ai rfl (fun _ _=>rfl))) (ai (ai rfl (ai rfl ?_)) trivial)))))) rfl) (ai (ai (iL (by omega)) ?_) (iM (by omega)))))
   ·exact fun q hq=>by rw[←e9]
   ·intro i hi
    by_cases e:i=k
    ·subst e;exact h6
    ·exact hall i (by omega)
 ·obtain rfl:k=s.sts.length:=by omega
  have e1:xG s=0:=gK hall
  refine ah (p:=(iY s.act s.sts s.sts.length).any id=true) (by (rw[←aqv (m:=iY s.act s.sts s.sts.length) (by omega)];first | done | exact Iff.rfl)) (fun h8=>?_) (fun h8=>?_)
  ·refine ai (ai (fun _=>trivial) ?_) trivial
   show au _ (iP (lN s))
   rw[hA,if_neg (fun h=>h e1),if_pos h8]
   exact rfl
  refine ai (ai (by decide) (ai (by show 0≤s.act;omega) (by show s.act≤6;omega))) ?_
  refine ei _ (ai (aoA) (ei ((lF s.act s.sts s.sts.length,false)) (ei [] (ai (ai rfl (ai rfl (ai rfl (ai rfl (ai (fun _=>Or.inl rfl) (ai (fun _=>ai rfl rfl) (Or.inl rfl))))))) (ai ?_ (ai (by exact trivial) (ai ((by show (lF s.act s.sts s.sts.length).length≤1000000;omega)) ?_)))))))
  ·refine (ai (ai rfl (ai ?_ ?_)) rfl)
   ·show s.act.toNat-(0:Int).toNat=(lF s.act s.sts s.sts.length).length
    rw[hml];rfl
   ·intro q hq
    show [gT (lF s.act s.sts s.sts.length) ((0:Int).toNat+q)]=_
    rw[show (0:Int).toNat+q=q by simp];rfl
  refine aZ (b:=(lF s.act s.sts s.sts.length).any fun y=>false==y) rfl (fun h9=>?_) (fun h9=>?_)
  ·refine ai (ai (fun _=>trivial) ?_) trivial
   show au _ (iP (lN s))
   rw[hA,if_neg (fun h=>h e1),if_neg h8,if_pos h9]
   exact rfl
  ·refine ai (ai (fun _=>trivial) ?_) trivial
   show au _ (iP (lN s))
   rw[hA,if_neg (fun h=>h e1),if_neg h8,if_neg (by rw[h9];decide)]
   exact rfl
def vR (n:Int):Ex:=.node 1 n []
def uN (n:Int):List PV:=[iP 1,iP n,.val (.slice none 0 0)]
def ny (y:Sk):Int:=2*y.1+if y.2 then 1 else 0
def agw (l:List Sk):Ex:=match l with
 | [y]=>vR (ny y)
 | l=>.node 3 0 (l.map fun y=>vR (ny y))
def yx (l:List Sk) (k:Nat):List PV:=uN (ny (l.getD k bO))
abbrev C3 := PV × PV × PV
def yU (c:C3):List PV:=[c.1,c.2.1,c.2.2]
def zo (n:Int):C3:=(iP 1,iP n,.val (.slice none 0 0))
def lW (l:List Sk):C3:=(if l.length=1 then iP 1 else iP 3,if l.length=1 then iP (ny (l.getD 0 bO)) else iP 0,if l.length=1 then .val (.slice none 0 0) else .seq l.length (yx l))
def abR (l:List Sk):List PV:=yU (lW l)
theorem agx {l:List Sk} (h:l.length=1):abR l=uN (ny (l.getD 0 bO)):=by unfold abR yU lW;simp only[h,if_true];rfl
theorem aeo {l:List Sk} (h:¬l.length=1):abR l=[iP 3,iP 0,.seq l.length (yx l)]:=by unfold abR yU lW;simp only[h,if_false]
theorem og:aL Tryz.prog 69 (cu (fun n:Int=>[iA n]) (fun _=>True) (fun n=>.agg (uN n))):=by
 refine bg (Tb:=tab) mixed ay Tryz.func69 rfl rfl ?_
 rintro (n:Int) hpre
 refine ai (ai rfl (ai rfl rfl)) ?_
 refine ai (ai (fun _=>trivial) ?_) trivial
 exact (ai rfl (ai rfl rfl))
def agu (l:List Sk):Prop:=l.length≤1000∧okS 6 l
theorem apY {l:List Sk} (h:agu l) {k:Nat} (hk:k<l.length):0≤(l.getD k bO).1∧(l.getD k bO).1<6:=by
 have:=pX h.2 hk;omega
def arv (l:List Sk) (k:Nat):LV:=.rw 79 3 k (yx l)
theorem agX (l:List Sk) (k:Nat):∀j,j<k+1→dn k (yx l) (bK 3 (uN (ny (l.getD k bO)))) j=yx l j:=by
 intro j hj
 unfold dn
 by_cases h:j<k
 ·rw[if_pos h]
 ·obtain rfl:j=k:=by omega
  rw[if_neg h,arY];rfl
theorem ahe:aL Tryz.prog 71 (jF (fun l:List Sk=>[apJ l]) (fun l=>agu l∧0<l.length) (fun l=>.agg (abR l))):=by
 refine bg (Tb:=tab) mixed ay Tryz.func71 rfl rfl ?_
 rintro (l:List Sk) hpre
 refine ai (ai rfl (ai rfl rfl)) ?_
 obtain ⟨hs,hp⟩:=hpre
 have hl:l.length≤1000:=hs.1
 refine ei (bG.inv { X:=Nat,up:=fun k=>[(9,.s (iA k)),(3,arv l k)],uo:=fun k=>[],inv:=fun k=>k≤l.length∧(True),meas:=fun k=>l.length-k,x0:=0 }) ?_
 refine ai (ai (ai (by exact (a4 (ai rfl rfl))) (ai (by exact (ai (ai (ai (fun _=>rfl) (iE (by simp only[zz,reduceCtorEq];rfl))) rfl) rfl)) (by exact trivial))) rfl) (ai (ai (ac7 _) ?_) ?_)
 ·trivial
 intro (k:Nat) ⟨hk,_⟩
 refine ah (p:=k<l.length) (ak (by omega)) (fun h1=>?_) (fun h1=>?_)
 ·refine ai (ai (abr _) (iN (n:=l.length) (by omega))) (ai rfl ?_)
  have hx:=apY hs h1
  have hw:IntKind.i64.wrap (2*(l.getD k bO).1)=2*(l.getD k bO).1:=wrI (by omega) (by omega)
  refine aZ (b:=(l.getD k bO).2) rfl (fun h2=>?_) (fun h2=>?_)
  ·refine ei _ (ai (og) (ei (ny (l.getD k bO)) (ei [] (ai (a4 (ai (fun _=>Or.inl rfl) (ai nof (Or.inl rfl)))) (ai ?_ (ai (by exact trivial) (ai (trivial) ?_)))))))
   ·show IntKind.i64.wrap (IntKind.i64.wrap (2*(l.getD k bO).1)+1)=ny (l.getD k bO)
    rw[hw,wrI (by omega) (by omega)];unfold ny;rw[h2];rfl
   refine ai (mxL (n:=k+1) (by omega) (by decide)) (ai (lt1 rfl) ?_)
   refine ei (k+1) (ai (ai rfl rfl) (ai (ai (ai rfl (ai (ai rfl rfl) (ai (ai rfl rfl) (ai (ai (ai (ai (fun _=>rfl) (aM (by omega))) rfl) (ai rfl (ai rfl (ai rfl ?_)))) trivial)))) rfl) (ai (ai (iL (by omega)) trivial) (iM (by omega)))))
   exact agX l k
  ·refine ei _ (ai (og) (ei (ny (l.getD k bO)) (ei [] (ai (a4 (ai (fun _=>Or.inl rfl) (ai nof (Or.inl rfl)))) (ai ?_ (ai (by exact trivial) (ai (trivial) ?_)))))))
   ·show IntKind.i64.wrap (2*(l.getD k bO).1)=ny (l.getD k bO)
    rw[hw];unfold ny;rw[h2];simp
   refine ai (mxL (n:=k+1) (by omega) (by decide)) (ai (lt1 rfl) ?_)
   refine ei (k+1) (ai (ai rfl rfl) (ai (ai (ai rfl (ai (ai rfl rfl) (ai (ai rfl rfl) (ai (ai (ai (ai (fun _=>rfl) (aM (by omega))) rfl) (ai rfl (ai rfl (ai rfl ?_)))) trivial)))) rfl) (ai (ai (iL (by omega)) trivial) (iM (by omega)))))
   exact agX l k
 ·obtain rfl:k=l.length:=by omega
  refine ah (p:=l.length=1) (bC (by omega)) (fun h3=>?_) (fun h3=>?_)
  ·refine ai (ai (by decide) (by show (0:Int)<(l.length:Int);omega)) ?_
   refine ai (by show 0<l.length;omega) ?_
   refine ai (ai (fun h=>absurd (show false=true from h) (by decide)) ?_) trivial
   show au _ (.agg (abR l))
   rw[agx h3]
   exact (ai rfl (ai (iE rfl) rfl))
  ·refine ai (ai (fun h=>absurd (show false=true from h) (by decide)) ?_) trivial
   show au _ (.agg (abR l))
   rw[aeo h3]
   exact (ai rfl (ai rfl (ai rfl (fun _ _=>rfl))))
def uR (act:Int) (p:List (Stp×C3)) (x:Stp):List (Stp×C3):=
 if 0<x.wt then (p++[(⟨x.st,0⟩,lW x.st)])++[(⟨[],x.wt⟩,zo (2*act+1+((p.length+1:Nat):Int)))] else p++[(⟨x.st,0⟩,lW x.st)]
def aqg (act:Int):List (Stp×C3):=[(⟨[],0⟩,zo (2*act))]
def dU (s:nJ) (k:Nat):List (Stp×C3):=(s.sts.take k).foldl (uR s.act) (aqg s.act)
theorem aex {s:nJ} {k:Nat} (h:k<s.sts.length):dU s (k+1)=uR s.act (dU s k) (s.sts.getD k st0):=by unfold dU;rw[aX st0 h,asg];rfl
theorem amJ (act:Int) (p:List (Stp×C3)) (x:Stp):(uR act p x).length≤p.length+2∧p.length<(uR act p x).length:=by
 unfold uR
 split
 ·simp only[aaH,aio,akY];omega
 ·simp only[aaH,aio,akY];omega
theorem af6 (s:nJ):∀k,k≤s.sts.length→(dU s k).length≤2*k+1∧0<(dU s k).length
 | 0,_=>⟨by show (aqg s.act).length≤1;exact aic _,by show 0<1;decide⟩
 | k+1,h=>by
  obtain ⟨h1,h2⟩:=af6 s k (by omega)
  obtain ⟨h3,h4⟩:=amJ s.act (dU s k) (s.sts.getD k st0)
  rw[aex (by omega)];omega
abbrev SC := Stp × C3
def p8:SC:=(st0,(iP 0,iP 0,.val (.slice none 0 0)))
def uJ (x:Stp):List PV:=[if x.st=[] then .val (.slice none 0 0) else aaz x.st,iP x.wt]
def abZ:PV:=.seq 1 (bK 1 [.val (.string (strOf [115,116,97,114,116]))])
def amR (act:Int) (ins:PV) (st tr:SV):Ob:=.cells 36 [iA act,.p false ins,st,tr]
def amh (s:SV):Ob:=.cells 77 [s]
def apz (p:List SC):Ob:=.row 89 2 p.length (fun k=>uJ (p.getD k p8).1)
def ao4 (p:List SC):Ob:=.row 79 3 p.length (fun k=>yU (p.getD k p8).2)
def ab0:SV:=.p false (.val (.slice none 0 0))
structure ab8 where
 act:Int
 p:List SC
 s0:PV
 wt:Int
 e0:PV
 e1:PV
 e2:PV
 x:SC
def ab8.ok (a:ab8):Prop:=a.p.length≤1000∧uJ a.x.1=[a.s0,iP a.wt]∧yU a.x.2=[a.e0,a.e1,a.e2]
def anW (a:ab8):List SV:=[.p false (.agg [a.s0,iP a.wt]),.p false (.agg [a.e0,a.e1,a.e2]),.own 0 0,.own 1 0]
def ao3 (n:Bool) (a:ab8):Prop:=a.ok∧(n=true→a.p=[])
def aq4:Bool→ab8→List Ob
 | true,a=>[amR a.act abZ ab0 ab0,amh ab0]
 | false,a=>[amR a.act abZ (.row 2) ab0,amh (.row 3),apz a.p,ao4 a.p]
def apF (a:ab8):List Ob:=[amR a.act abZ (.row 2) ab0,amh (.row 3),apz (a.p++[a.x]),ao4 (a.p++[a.x])]
def ap7 (n:Bool):nN:={ A:=ab8,fix:=2,args:=anW,objs:=aq4 n,pre:=ao3 n,res:=fun _=>.tup [],objs':=apF,inl:=[4000009,4000013] }
theorem sW (f:SC→List PV) (p:List SC) (x:SC) {g:Nat→List PV} (hg:g 0=f x):∀k,k<p.length+1→dn p.length (fun k=>f (p.getD k p8)) g k=f ((p++[x]).getD k p8):=by
 intro k hk
 unfold dn
 by_cases h:k<p.length
 ·rw[if_pos h]
  show f (p.getD k p8)=_
  rw[abo,abo,agF h]
 ·obtain rfl:k=p.length:=by omega
  rw[if_neg h,arY,hg,abo,ah5 (aic _),arY];rfl
theorem ac3:bV Tryz.prog 68 (ap7 false):=by
 refine gP (Tb:=tab) mixed ay Tryz.func68 rfl rfl ?_
 rintro ⟨act,p,s0,wt,e0,e1,e2,x⟩ hpre
 refine ai (ai rfl (ai rfl rfl)) ?_
 obtain ⟨⟨hp,hx,he⟩,_⟩:=hpre
 have hp:p.length≤1000:=hp
 have hx:uJ x.1=[s0,iP wt]:=hx
 have he:yU x.2=[e0,e1,e2]:=he
 refine ei (.one 0 (.one 1 (.one 2 (.rd 5 [4] (.rd 6 [4] (.alt 3 (.alt 4 (.one 9 (.one 7 (.one 8 (.one 10 (.one 11 .done))))) (.alt 7 (.one 4 (.one 9 (.one 8 (.one 10 (.one 11 .done))))) .stop)) (.alt 7 (.one 3 (.one 4 (.one 9 (.one 8 (.one 10 (.one 11 .done)))))) .stop))))))) (ai (by kernel_rfl) ?_)
 refine ai ?_ (ai ?_ trivial)
 ·refine ai ?_ (ai ?_ trivial)
  ·refine ai (mxL (n:=p.length+1) (by omega) (by decide)) (ai (lt1 rfl) ?_)
   refine ai (mxL (n:=p.length+1) (by omega) (by decide)) (ai (lt1 rfl) ?_)
   refine ei [0,1,6,7] (ai (ai rfl (ai rfl rfl)) (ai trivial ?_))
   refine (ai (ai rfl (ai rfl (ai (ai rfl (fun _ _=>rfl)) (ai rfl rfl)))) (ai (ai rfl rfl) (ai (ai rfl (ai rfl (ai ?_ ?_))) (ai rfl (ai rfl (ai ?_ ?_))))))
   ·show p.length+1=(p++[x]).length;rw[aaH];rfl
   ·exact fun k hk=>sW (fun q=>uJ q.1) p x (g:=bK 2 [s0,iP wt]) hx.symm k (by have hk:k<(p++[x]).length:=hk;rwa [aaH] at hk)
   ·show p.length+1=(p++[x]).length;rw[aaH];rfl
   ·exact fun k hk=>sW (fun q=>yU q.2) p x (g:=bK 3 [e0,e1,e2]) he.symm k (by have hk:k<(p++[x]).length:=hk;rwa [aaH] at hk)
  ·refine ai (mxL (n:=p.length+1) (by omega) (by decide)) (ai (lt1 rfl) ?_)
   refine ai (mxL (n:=p.length+1) (by omega) (by decide)) (ai (lt1 rfl) ?_)
   refine ei [0,1,6,7] (ai (ai rfl (ai rfl rfl)) (ai trivial ?_))
   refine (ai (ai rfl (ai rfl (ai (ai rfl (fun _ _=>rfl)) (ai rfl rfl)))) (ai (ai rfl rfl) (ai (ai rfl (ai rfl (ai ?_ ?_))) (ai rfl (ai rfl (ai ?_ ?_))))))
   ·show p.length+1=(p++[x]).length;rw[aaH];rfl
   ·exact fun k hk=>sW (fun q=>uJ q.1) p x (g:=bK 2 [s0,iP wt]) hx.symm k (by have hk:k<(p++[x]).length:=hk;rwa [aaH] at hk)
   ·show p.length+1=(p++[x]).length;rw[aaH];rfl
   ·exact fun k hk=>sW (fun q=>yU q.2) p x (g:=bK 3 [e0,e1,e2]) he.symm k (by have hk:k<(p++[x]).length:=hk;rwa [aaH] at hk)
 ·refine ai (mxL (n:=p.length+1) (by omega) (by decide)) (ai (lt1 rfl) ?_)
  refine ai (mxL (n:=p.length+1) (by omega) (by decide)) (ai (lt1 rfl) ?_)
  refine ei [0,1,6,7] (ai (ai rfl (ai rfl rfl)) (ai trivial ?_))
  refine (ai (ai rfl (ai rfl (ai (ai rfl (fun _ _=>rfl)) (ai rfl rfl)))) (ai (ai rfl rfl) (ai (ai rfl (ai rfl (ai ?_ ?_))) (ai rfl (ai rfl (ai ?_ ?_))))))
  ·show p.length+1=(p++[x]).length;rw[aaH];rfl
  ·exact fun k hk=>sW (fun q=>uJ q.1) p x (g:=bK 2 [s0,iP wt]) hx.symm k (by have hk:k<(p++[x]).length:=hk;rwa [aaH] at hk)
  ·show p.length+1=(p++[x]).length;rw[aaH];rfl
  ·exact fun k hk=>sW (fun q=>yU q.2) p x (g:=bK 3 [e0,e1,e2]) he.symm k (by have hk:k<(p++[x]).length:=hk;rwa [aaH] at hk)
theorem aok:bV Tryz.prog 68 (ap7 true):=by
 refine gP (Tb:=tab) mixed ay Tryz.func68 rfl rfl ?_
 rintro ⟨act,p,s0,wt,e0,e1,e2,x⟩ hpre
 refine ai (ai rfl (ai rfl rfl)) ?_
 obtain ⟨⟨hp,hx,he⟩,hn⟩:=hpre
 obtain rfl:p=[]:=hn rfl
 have hx:uJ x.1=[s0,iP wt]:=hx
 have he:yU x.2=[e0,e1,e2]:=he
 refine ei (.one 0 (.one 1 (.one 2 (.rd 5 [4] (.rd 6 [4] (.alt 3 (.alt 4 (.one 9 (.one 7 (.one 8 (.one 10 (.one 11 .done))))) (.alt 7 (.one 4 (.one 9 (.one 8 (.one 10 (.one 11 .done))))) .stop)) (.alt 7 (.one 3 (.one 4 (.one 9 (.one 8 (.one 10 (.one 11 .done)))))) .stop))))))) (ai (by kernel_rfl) ?_)
 refine ai ?_ (ai ?_ trivial)
 ·refine ai ?_ (ai ?_ trivial)
  ·refine ai (ai (by decide) (by decide)) (ai (lt1 rfl) ?_)
   refine ai (ai (by decide) (by decide)) (ai (lt1 rfl) ?_)
   refine ei [0,1,4,5] (ai (ai rfl (ai rfl rfl)) (ai trivial ?_))
   refine (ai (ai rfl (ai rfl (ai (ai rfl (fun _ _=>rfl)) (ai rfl rfl)))) (ai (ai rfl rfl) (ai (ai rfl (ai rfl (ai rfl ?_))) (ai rfl (ai rfl (ai rfl ?_))))))
   ·intro k hk
    have hk:k<1:=hk
    obtain rfl:k=0:=by omega
    exact hx.symm
   ·intro k hk
    have hk:k<1:=hk
    obtain rfl:k=0:=by omega
    exact he.symm
  ·refine ai (ai (by decide) (by decide)) (ai (lt1 rfl) ?_)
   refine ai (ai (by decide) (by decide)) (ai (lt1 rfl) ?_)
   refine ei [0,1,4,5] (ai (ai rfl (ai rfl rfl)) (ai trivial ?_))
   refine (ai (ai rfl (ai rfl (ai (ai rfl (fun _ _=>rfl)) (ai rfl rfl)))) (ai (ai rfl rfl) (ai (ai rfl (ai rfl (ai rfl ?_))) (ai rfl (ai rfl (ai rfl ?_))))))
   ·intro k hk
    have hk:k<1:=hk
    obtain rfl:k=0:=by omega
    exact hx.symm
   ·intro k hk
    have hk:k<1:=hk
    obtain rfl:k=0:=by omega
    exact he.symm
 ·refine ai (ai (by decide) (by decide)) (ai (lt1 rfl) ?_)
  refine ai (ai (by decide) (by decide)) (ai (lt1 rfl) ?_)
  refine ei [0,1,4,5] (ai (ai rfl (ai rfl rfl)) (ai trivial ?_))
  refine (ai (ai rfl (ai rfl (ai (ai rfl (fun _ _=>rfl)) (ai rfl rfl)))) (ai (ai rfl rfl) (ai (ai rfl (ai rfl (ai rfl ?_))) (ai rfl (ai rfl (ai rfl ?_))))))
  ·intro k hk
   have hk:k<1:=hk
   obtain rfl:k=0:=by omega
   exact hx.symm
  ·intro k hk
   have hk:k<1:=hk
   obtain rfl:k=0:=by omega
   exact he.symm
def aqI:Spec:=cu (fun l:List (Sk)=>[apJ l]) (fun l=>l.length≤1000000) (fun l=>aaz l)
theorem aoi:aL Tryz.prog 70 aqI:=by
 refine bg (Tb:=tab) mixed ay Tryz.func70 rfl rfl ?_
 rintro (l:List (Sk)) hpre
 refine ai (ai rfl (ai rfl rfl)) ?_
 have hl:l.length≤1000000:=hpre
 intro b hb
 refine bF (fun h1=>?_) (fun h1=>?_)
 ·have h1:l.length=0:=hb h1
  refine ai (ai (fun _=>trivial) ?_) trivial
  show au _ (aaz l)
  rw[aqm.1 h1]
  exact rfl
 ·refine ai (mxL (n:=0+l.length) (by omega) (by decide)) (ai (fun _ _=>rfl) ?_)
  refine ai (ai (fun _ k hk=>by rw[aff k hk];rfl) ?_) trivial
  refine (ai ?_ (fun _ _=>rfl))
  exact aku _
def toN (k n:Nat):Int:=(((k+1) % n:Nat):Int)
def abd (p:List SC) (k:Nat):List PV:=[.seq 1 (bK 1 [iP (k:Int)]),.seq 1 (bK 1 [iP (toN k p.length)]),(p.getD k p8).2.1,(p.getD k p8).2.2.1,(p.getD k p8).2.2.2]
def arl (p:List SC) (k:Nat):LV:=.rw 123 5 k (abd p)
def afn (act:Int) (p:List SC):PV:=.agg [iP act,abZ,.seq p.length (fun k=>uJ (p.getD k p8).1),.seq p.length (abd p)]
def wM (s:nJ):Int:=if ¬lN s=0 then lN s else if 24<(dU s s.sts.length).length then 5 else 0
def ofRaw (s:nJ):PV:=if wM s=0 then .tup [afn s.act (dU s s.sts.length),iP 0] else .tup [.agg [iP 0,.val (.slice none 0 0),.val (.slice none 0 0),.val (.slice none 0 0)],iP (wM s)]
theorem ahO (p:List SC) (k:Nat) {g:Nat→List PV} (hg:g 0=abd p k):∀j,j<k+1→dn k (abd p) g j=abd p j:=by
 intro j hj
 unfold dn
 by_cases h:j<k
 ·rw[if_pos h]
 ·obtain rfl:j=k:=by omega
  rw[if_neg h,arY,hg]
theorem seq_ok {s:nJ} (h:lN s=0):(1≤s.act∧s.act≤6)∧s.sts.length≤64∧∀x∈s.sts,kH x=0:=by
 unfold lN at h
 split at h
 ·cases h
 rename_i h1
 split at h
 ·cases h
 split at h
 ·cases h
 rename_i h3
 split at h
 ·rename_i h4;exact absurd h h4
 rename_i h4
 refine ⟨by omega,by omega,fun x hx=>?_⟩
 obtain ⟨k,hk,rfl⟩:=aqc hx
 have:=pF (arj.1 h4) k hk
 rw[show s.sts.getD k st0=s.sts[k] by rw[abo,abm hk];rfl] at this
 exact (agL this).1
set_option maxHeartbeats 16000000 in
theorem ahH:aL Tryz.prog 18 (jF (fun s:nJ=>[sqA s]) (fun _=>True) ofRaw):=by
 refine jQ [68,3000020,4000077,4000084] ?_
 refine bg (Tb:=tab) mixed ay Tryz.func18 rfl rfl ?_
 rintro (s:nJ) hpre
 refine ai (ai rfl (ai rfl rfl)) ?_
 refine ei _ (ai (alk) (ei (s) (ei [] (ai (a4 (ai (fun _=>Or.inl rfl) (ai nof (Or.inl rfl)))) (ai (by exact (ai rfl (ai rfl (fun _ _=>rfl)))) (ai trivial (ai (trivial) ?_)))))))
 refine bH (p:=lN s=0) (bU (by omega)) (fun h1=>?_) (fun h1=>?_)
 ·have e:wM s=lN s:=if_pos h1
  refine ai (ai (fun h=>absurd (show false=true from h) (by decide)) ?_) trivial
  show au _ (ofRaw s)
  rw[ofRaw,e,if_neg h1]
  exact (ai (ai rfl (ai rfl (ai rfl rfl))) rfl)
 obtain ⟨⟨ha1,ha6⟩,h64,hck⟩:=seq_ok h1
 have hw2:IntKind.i64.wrap (2*s.act)=2*s.act:=wrI (by omega) (by omega)
 refine ei _ (ai (og) (ei (2*s.act) (ei [] (ai (a4 (ai (fun _=>Or.inl rfl) (ai nof (Or.inl rfl)))) (ai ?_ (ai (by exact trivial) (ai (trivial) ?_)))))))
 ·exact hw2
 refine aS (aok) (⟨s.act,[],.val (.slice none 0 0),0,iP 1,iP (2*s.act),.val (.slice none 0 0),(⟨[],0⟩,zo (2*s.act))⟩) [3,4] (a4 (ai rfl rfl)) (Or.inl rfl) (by exact (ai (ai rfl rfl) (ai (ai rfl (ai (iE (by omega)) rfl)) (ai (ai rfl rfl) (ai rfl rfl))))) (by exact (ai (ai rfl (ai rfl (ai (ai rfl (fun _ _=>rfl)) (ai rfl rfl)))) (ai rfl rfl))) (⟨⟨ac7 _,rfl,rfl⟩,fun _=>rfl⟩) ?_
 have hL:=af6 s
 refine ei (bG.inv { X:=Nat,up:=fun k=>[(34,.s (iA k))],uo:=fun k=>[⟨3,36,[.s (iA s.act),.s (.p false abZ),.rw 89 2 (dU s k).length (fun j=>uJ ((dU s k).getD j p8).1),.s ab0]⟩,⟨4,77,[.rw 79 3 (dU s k).length (fun j=>yU ((dU s k).getD j p8).2)]⟩],inv:=fun k=>k≤s.sts.length∧(True),meas:=fun k=>s.sts.length-k,x0:=0 }) ?_
 refine ai (ai (ai (by exact (a4 (ai rfl rfl))) (ai ?_ ?_)) rfl) (ai (ai (ac7 _) ?_) ?_)
 ·exact (ai (ai (fun _=>rfl) (iE (by simp only[zz,reduceCtorEq];rfl))) rfl)
 ·exact (ai (ai (ai (ai nof rfl) rfl) (ai (ai (ai nof (ai rfl (fun _ _=>rfl))) rfl) (ai (ai rfl (ai rfl (ai rfl (fun _ _=>rfl)))) (ai (ai nof rfl) rfl)))) (ai (ai rfl (ai rfl (ai rfl (fun _ _=>rfl)))) trivial))
 ·trivial
 intro (k:Nat) ⟨hk,_⟩
 obtain ⟨hk1,hk2⟩:=hL k hk
 refine ah (p:=k<s.sts.length) (ak (by omega)) (fun h2=>?_) (fun h2=>?_)
 ·refine ai (ai (abr _) (iN (n:=s.sts.length) (by omega))) (ai rfl ?_)
  have hm:=abv (bY st0 h2)
  obtain ⟨⟨hx0,hx6⟩,hxs,hxw⟩:=xw (hck _ hm)
  have hsm:agu (s.sts.getD k st0).st:=⟨by omega,hxs⟩
  have hst:=aex h2
  have hne:(s.sts.getD k st0).st≠[]:=fun e=>by rw[e] at hx0;simp at hx0
  refine ei (.one 0 (.one 1 (.one 2 (.one 5 (.one 6 (.one 3 (.one 4 (.one 7 (.wr 8 .done))))))))) (ai (by kernel_rfl) ?_)
  refine ei _ (ai (aoi) (ei ((s.sts.getD k st0).st) (ei [] (ai (a4 (ai (fun _=>Or.inl rfl) (ai nof (Or.inl rfl)))) (ai (by exact (ai rfl (fun _ _=>rfl))) (ai trivial (ai ((by show (s.sts.getD k st0).st.length≤1000000;omega)) ?_)))))))
  by_cases h1l:(s.sts.getD k st0).st.length=1
  ·have ee:=agx h1l
   refine ei _ (ai ((kM ahe (s.sts.getD k st0).st ⟨hsm,hx0⟩ (r:=.agg [iP 1,iP (ny ((s.sts.getD k st0).st.getD 0 bO)),.val (.slice none 0 0)]) (congrArg PV.agg ee))) (ei (()) (ei [] (ai (a4 (ai (fun _=>Or.inl rfl) (ai nof (Or.inl rfl)))) (ai (by exact (ai rfl (fun _ _=>rfl))) (ai trivial (ai (trivial) ?_)))))))
   refine aS (ac3) (⟨s.act,dU s k,aaz (s.sts.getD k st0).st,0,iP 1,iP (ny ((s.sts.getD k st0).st.getD 0 bO)),.val (.slice none 0 0),(⟨(s.sts.getD k st0).st,0⟩,lW (s.sts.getD k st0).st)⟩) [3,4,7,8] (a4 (ai rfl rfl)) (Or.inl rfl) (by exact (ai (ai (ai rfl (fun _ _=>rfl)) rfl) (ai (ai rfl (ai rfl rfl)) (ai (ai rfl rfl) (ai rfl rfl))))) (by exact (ai (ai rfl (ai rfl (ai (ai rfl (fun _ _=>rfl)) (ai rfl rfl)))) (ai (ai rfl rfl) (ai (ai rfl (ai rfl (ai rfl (fun _ _=>rfl)))) (ai rfl (ai rfl (ai rfl (fun _ _=>rfl)))))))) (⟨⟨by show (dU s k).length≤1000;omega,by show uJ ⟨(s.sts.getD k st0).st,0⟩=_;unfold uJ;rw[if_neg hne],ee⟩,fun h=>by cases h⟩) ?_
   refine ah (p:=0<(s.sts.getD k st0).wt) (ak Iff.rfl) (fun h3=>?_) (fun h3=>?_)
   ·have e:dU s (k+1)=(dU s k++[(⟨(s.sts.getD k st0).st,0⟩,lW (s.sts.getD k st0).st)])++[(⟨[],(s.sts.getD k st0).wt⟩,zo (2*s.act+1+(((dU s k).length+1:Nat):Int)))]:=by rw[hst];unfold uR;rw[if_pos h3]
    have hpl:(dU s k++[((⟨(s.sts.getD k st0).st,0⟩:Stp),lW (s.sts.getD k st0).st)]).length=(dU s k).length+1:=by rw[aaH];rfl
    refine ei (.one 0 (.one 1 (.one 2 (.one 3 (.one 4 (.one 5 (.one 6 (.one 7 (.one 8 (.one 9 (.one 10 (.wr 11 .done)))))))))))) (ai (by kernel_rfl) ?_)
    refine ei _ (ai (og) (ei (2*s.act+1+(((dU s k).length+1:Nat):Int)) (ei [] (ai (a4 (ai (fun _=>Or.inl rfl) (ai nof (Or.inl rfl)))) (ai ?_ (ai (by exact trivial) (ai (trivial) ?_)))))))
    ·show IntKind.i64.wrap (IntKind.i64.wrap (IntKind.i64.wrap (2*s.act)+1)+(((dU s k++[((⟨(s.sts.getD k st0).st,0⟩:Stp),lW (s.sts.getD k st0).st)]).length:Nat):Int))=_
     rw[hpl,hw2,wrI (n:=2*s.act+1) (by omega) (by omega),wrI (by omega) (by omega)]
    refine aS (ac3) (⟨s.act,dU s k++[(⟨(s.sts.getD k st0).st,0⟩,lW (s.sts.getD k st0).st)],.val (.slice none 0 0),(s.sts.getD k st0).wt,iP 1,iP (2*s.act+1+(((dU s k).length+1:Nat):Int)),.val (.slice none 0 0),(⟨[],(s.sts.getD k st0).wt⟩,zo (2*s.act+1+(((dU s k).length+1:Nat):Int)))⟩) [3,4,10,11] (a4 (ai rfl rfl)) (Or.inl rfl) (by exact (ai (ai rfl (iE (by simp only[zz,reduceCtorEq]))) (ai (ai rfl (ai rfl rfl)) (ai (ai rfl rfl) (ai rfl rfl))))) (by exact (ai (ai rfl (ai rfl (ai (ai rfl (fun _ _=>rfl)) (ai rfl rfl)))) (ai (ai rfl rfl) (ai (ai rfl (ai rfl (ai rfl (fun _ _=>rfl)))) (ai rfl (ai rfl (ai rfl (fun _ _=>rfl)))))))) (⟨⟨by show (dU s k++[((⟨(s.sts.getD k st0).st,0⟩:Stp),lW (s.sts.getD k st0).st)]).length≤1000;rw[hpl];omega,rfl,rfl⟩,fun h=>by cases h⟩) ?_
    refine ei (k+1) (ai (ai rfl rfl) (ai (ai (ai rfl (ai (ai rfl rfl) (ai (ai rfl rfl) (ai (ai (ai (fun _=>rfl) (aM (by omega))) rfl) (ai (ai (ai (ai nof rfl) rfl) (ai (ai (ai nof (ai rfl (fun _ _=>rfl))) rfl) (ai (ai rfl (ai rfl (ai ?_ ?_))) (ai (ai nof rfl) rfl)))) (ai (ai rfl (ai rfl (ai ?_ ?_))) trivial)))))) rfl) (ai (ai (iL (by omega)) trivial) (iM (by omega)))))
    all_goals rw[e]
    ·exact fun _ _=>rfl
    ·exact fun _ _=>rfl
   ·have e:dU s (k+1)=dU s k++[(⟨(s.sts.getD k st0).st,0⟩,lW (s.sts.getD k st0).st)]:=by rw[hst];unfold uR;rw[if_neg h3]
    refine ei (k+1) (ai (ai rfl rfl) (ai (ai (ai rfl (ai (ai rfl rfl) (ai (ai rfl rfl) (ai (ai (ai (fun _=>rfl) (aM (by omega))) rfl) (ai (ai (ai (ai nof rfl) rfl) (ai (ai (ai nof (ai rfl (fun _ _=>rfl))) rfl) (ai (ai rfl (ai rfl (ai ?_ ?_))) (ai (ai nof rfl) rfl)))) (ai (ai rfl (ai rfl (ai ?_ ?_))) trivial)))))) rfl) (ai (ai (iL (by omega)) trivial) (iM (by omega)))))
    all_goals rw[e]
    ·exact fun _ _=>rfl
    ·exact fun _ _=>rfl
  ·have ee:=aeo h1l
   refine ei _ (ai ((kM ahe (s.sts.getD k st0).st ⟨hsm,hx0⟩ (r:=.agg [iP 3,iP 0,.seq (s.sts.getD k st0).st.length (yx (s.sts.getD k st0).st)]) (congrArg PV.agg ee))) (ei (()) (ei [] (ai (a4 (ai (fun _=>Or.inl rfl) (ai nof (Or.inl rfl)))) (ai (by exact (ai rfl (fun _ _=>rfl))) (ai trivial (ai (trivial) ?_)))))))
   refine aS (ac3) (⟨s.act,dU s k,aaz (s.sts.getD k st0).st,0,iP 3,iP 0,.seq (s.sts.getD k st0).st.length (yx (s.sts.getD k st0).st),(⟨(s.sts.getD k st0).st,0⟩,lW (s.sts.getD k st0).st)⟩) [3,4,7,8] (a4 (ai rfl rfl)) (Or.inl rfl) (by exact (ai (ai (ai rfl (fun _ _=>rfl)) rfl) (ai (ai rfl (ai rfl (ai rfl (fun _ _=>rfl)))) (ai (ai rfl rfl) (ai rfl rfl))))) (by exact (ai (ai rfl (ai rfl (ai (ai rfl (fun _ _=>rfl)) (ai rfl rfl)))) (ai (ai rfl rfl) (ai (ai rfl (ai rfl (ai rfl (fun _ _=>rfl)))) (ai rfl (ai rfl (ai rfl (fun _ _=>rfl)))))))) (⟨⟨by show (dU s k).length≤1000;omega,by show uJ ⟨(s.sts.getD k st0).st,0⟩=_;unfold uJ;rw[if_neg hne],ee⟩,fun h=>by cases h⟩) ?_
   refine ah (p:=0<(s.sts.getD k st0).wt) (ak Iff.rfl) (fun h3=>?_) (fun h3=>?_)
   ·have e:dU s (k+1)=(dU s k++[(⟨(s.sts.getD k st0).st,0⟩,lW (s.sts.getD k st0).st)])++[(⟨[],(s.sts.getD k st0).wt⟩,zo (2*s.act+1+(((dU s k).length+1:Nat):Int)))]:=by rw[hst];unfold uR;rw[if_pos h3]
    have hpl:(dU s k++[((⟨(s.sts.getD k st0).st,0⟩:Stp),lW (s.sts.getD k st0).st)]).length=(dU s k).length+1:=by rw[aaH];rfl
    refine ei (.one 0 (.one 1 (.one 2 (.one 3 (.one 4 (.one 5 (.one 6 (.one 7 (.one 8 (.one 9 (.one 10 (.wr 11 .done)))))))))))) (ai (by kernel_rfl) ?_)
    refine ei _ (ai (og) (ei (2*s.act+1+(((dU s k).length+1:Nat):Int)) (ei [] (ai (a4 (ai (fun _=>Or.inl rfl) (ai nof (Or.inl rfl)))) (ai ?_ (ai (by exact trivial) (ai (trivial) ?_)))))))
    ·show IntKind.i64.wrap (IntKind.i64.wrap (IntKind.i64.wrap (2*s.act)+1)+(((dU s k++[((⟨(s.sts.getD k st0).st,0⟩:Stp),lW (s.sts.getD k st0).st)]).length:Nat):Int))=_
     rw[hpl,hw2,wrI (n:=2*s.act+1) (by omega) (by omega),wrI (by omega) (by omega)]
    refine aS (ac3) (⟨s.act,dU s k++[(⟨(s.sts.getD k st0).st,0⟩,lW (s.sts.getD k st0).st)],.val (.slice none 0 0),(s.sts.getD k st0).wt,iP 1,iP (2*s.act+1+(((dU s k).length+1:Nat):Int)),.val (.slice none 0 0),(⟨[],(s.sts.getD k st0).wt⟩,zo (2*s.act+1+(((dU s k).length+1:Nat):Int)))⟩) [3,4,10,11] (a4 (ai rfl rfl)) (Or.inl rfl) (by exact (ai (ai rfl (iE (by simp only[zz,reduceCtorEq]))) (ai (ai rfl (ai rfl rfl)) (ai (ai rfl rfl) (ai rfl rfl))))) (by exact (ai (ai rfl (ai rfl (ai (ai rfl (fun _ _=>rfl)) (ai rfl rfl)))) (ai (ai rfl rfl) (ai (ai rfl (ai rfl (ai rfl (fun _ _=>rfl)))) (ai rfl (ai rfl (ai rfl (fun _ _=>rfl)))))))) (⟨⟨by show (dU s k++[((⟨(s.sts.getD k st0).st,0⟩:Stp),lW (s.sts.getD k st0).st)]).length≤1000;rw[hpl];omega,rfl,rfl⟩,fun h=>by cases h⟩) ?_
    refine ei (k+1) (ai (ai rfl rfl) (ai (ai (ai rfl (ai (ai rfl rfl) (ai (ai rfl rfl) (ai (ai (ai (fun _=>rfl) (aM (by omega))) rfl) (ai (ai (ai (ai nof rfl) rfl) (ai (ai (ai nof (ai rfl (fun _ _=>rfl))) rfl) (ai (ai rfl (ai rfl (ai ?_ ?_))) (ai (ai nof rfl) rfl)))) (ai (ai rfl (ai rfl (ai ?_ ?_))) trivial)))))) rfl) (ai (ai (iL (by omega)) trivial) (iM (by omega)))))
    all_goals rw[e]
    ·exact fun _ _=>rfl
    ·exact fun _ _=>rfl
   ·have e:dU s (k+1)=dU s k++[(⟨(s.sts.getD k st0).st,0⟩,lW (s.sts.getD k st0).st)]:=by rw[hst];unfold uR;rw[if_neg h3]
    refine ei (k+1) (ai (ai rfl rfl) (ai (ai (ai rfl (ai (ai rfl rfl) (ai (ai rfl rfl) (ai (ai (ai (fun _=>rfl) (aM (by omega))) rfl) (ai (ai (ai (ai nof rfl) rfl) (ai (ai (ai nof (ai rfl (fun _ _=>rfl))) rfl) (ai (ai rfl (ai rfl (ai ?_ ?_))) (ai (ai nof rfl) rfl)))) (ai (ai rfl (ai rfl (ai ?_ ?_))) trivial)))))) rfl) (ai (ai (iL (by omega)) trivial) (iM (by omega)))))
    all_goals rw[e]
    ·exact fun _ _=>rfl
    ·exact fun _ _=>rfl
 ·obtain rfl:k=s.sts.length:=by omega
  refine ah (p:=24<(dU s s.sts.length).length) (ak (by omega)) (fun h4=>?_) (fun h4=>?_)
  ·have e:wM s=5:=by unfold wM;rw[if_neg (fun h=>h h1),if_pos h4]
   refine ai (ai (fun h=>absurd (show false=true from h) (by decide)) ?_) trivial
   show au _ (ofRaw s)
   rw[ofRaw,e,if_neg (show ¬(5:Int)=0 by decide)]
   exact (ai (ai rfl (ai rfl (ai rfl rfl))) rfl)
  have e0:wM s=0:=by unfold wM;rw[if_neg (fun h=>h h1),if_neg h4]
  have hA:ofRaw s=.tup [afn s.act (dU s s.sts.length),iP 0]:=by unfold ofRaw;rw[if_pos e0]
  have hp0:=(hL s.sts.length (aic _)).2
  clear hL
  generalize dU s s.sts.length=p at *
  refine ei (bG.inv { X:=Nat,up:=fun k=>[(71,.s (iA k))],uo:=fun k=>[⟨3,36,[.s (iA s.act),.s (.p false abZ),.rw 89 2 p.length (fun j=>uJ (p.getD j p8).1),arl p k]⟩],inv:=fun k=>k≤p.length∧(True),meas:=fun k=>p.length-k,x0:=0 }) ?_
  refine ai (ai (ai (by exact (a4 (ai rfl rfl))) (ai ?_ ?_)) rfl) (ai (ai (ac7 _) ?_) ?_)
  ·exact (ai (ai (fun _=>rfl) (iE (by simp only[zz,reduceCtorEq];rfl))) rfl)
  ·exact (ai (ai (ai (ai nof rfl) rfl) (ai (ai (ai nof (ai rfl (fun _ _=>rfl))) rfl) (ai (ai rfl (ai rfl (ai rfl (fun _ _=>rfl)))) rfl))) trivial)
  ·trivial
  intro (k:Nat) ⟨hk,_⟩
  refine ah (p:=k<p.length) (ak (by omega)) (fun h5=>?_) (fun h5=>?_)
  ·have hw1:IntKind.i64.wrap ((k:Int)+1)=((k+1:Nat):Int):=aM (by omega)
   refine ei (.one 0 (.one 1 (.one 2 (.one 4 (.one 5 (.one 6 (.one 7 (.one 8 (.one 9 (.one 11 (.one 12 (.one 13 (.one 14 (.alt 3 (.one 10 (.one 15 (.one 16 (.one 17 (.one 18 (.one 19 .done)))))) (.alt 10 (.one 3 (.one 15 (.one 16 (.one 17 (.one 18 (.one 19 .done)))))) .stop))))))))))))))) (ai (by kernel_rfl) ?_)
   refine ai (by show ¬(p.length:Int)=0;omega) ?_
   refine ai (ai (abr _) (by show (k:Int)<(p.length:Int);omega)) ?_
   refine ai (by show k<p.length;exact h5) ?_
   refine ai ?_ (ai ?_ trivial)
   ·refine ai (mxL (n:=k+1) (by omega) (by decide)) (ai (fun j hj=>by
     have hj:j<1:=hj
     obtain rfl:j=0:=by omega
     rfl) ?_)
    refine ei (k+1) (ai (ai rfl rfl) (ai (ai (ai rfl (ai (ai rfl rfl) (ai (ai rfl rfl) (ai (ai (ai (fun _=>rfl) (aM (by omega))) rfl) (ai (ai (ai (ai nof rfl) rfl) (ai (ai (ai nof (ai rfl (fun _ _=>rfl))) rfl) (ai (ai rfl (ai rfl (ai rfl (fun _ _=>rfl)))) (ai rfl (ai rfl (ai rfl ?_)))))) trivial))))) rfl) (ai (ai (iL (by omega)) trivial) (iM (by omega)))))
    refine ahO p k ?_
    show [PV.seq 1 (bK 1 [iP (k:Int)]),.seq 1 (bK 1 [iP ((IntKind.i64.wrap ((k:Int)+1)).tmod (p.length:Int))]),(p.getD k p8).2.1,(p.getD k p8).2.2.1,(p.getD k p8).2.2.2]=_
    rw[hw1];rfl
   ·refine ai (mxL (n:=k+1) (by omega) (by decide)) (ai (fun j hj=>by
     have hj:j<1:=hj
     obtain rfl:j=0:=by omega
     rfl) ?_)
    refine ei (k+1) (ai (ai rfl rfl) (ai (ai (ai rfl (ai (ai rfl rfl) (ai (ai rfl rfl) (ai (ai (ai (fun _=>rfl) (aM (by omega))) rfl) (ai (ai (ai (ai nof rfl) rfl) (ai (ai (ai nof (ai rfl (fun _ _=>rfl))) rfl) (ai (ai rfl (ai rfl (ai rfl (fun _ _=>rfl)))) (ai rfl (ai rfl (ai rfl ?_)))))) trivial))))) rfl) (ai (ai (iL (by omega)) trivial) (iM (by omega)))))
    refine ahO p k ?_
    show [PV.seq 1 (bK 1 [iP (k:Int)]),.seq 1 (bK 1 [iP ((IntKind.i64.wrap ((k:Int)+1)).tmod (p.length:Int))]),(p.getD k p8).2.1,(p.getD k p8).2.2.1,(p.getD k p8).2.2.2]=_
    rw[hw1];rfl
  ·obtain rfl:k=p.length:=by omega
   refine ai (ai (fun h=>absurd (show false=true from h) (by decide)) ?_) trivial
   show au _ (ofRaw s)
   rw[hA]
   exact (ai (ai rfl (ai (ai rfl (fun _ _=>rfl)) (ai (ai rfl (fun _ _=>rfl)) (ai rfl (fun _ _=>rfl))))) rfl)
def iK:List Bool→List Bool→Int
 | x :: a,y :: b=>if x=y then iK a b else if y then -1 else 1
 | _,_=>0
theorem aeZ {a b:List Bool} (hl:a.length=b.length):∀{k:Nat},k≤a.length→a.take k=b.take k→iK a b=iK (a.drop k) (b.drop k)
 | 0,_,_=>rfl
 | k+1,hk,h=>by
  have h1:a.take k=b.take k:=by
   have:=congrArg (List.take k) h
   rwa [asO,asO,asC (by omega)] at this
  rw[aeZ hl (k:=k) (by omega) h1]
  have ha:a.drop k=a.getD k false :: a.drop (k+1):=by
   rw[apx (by omega),abo,abm (by omega)];rfl
  have hb:b.drop k=b.getD k false :: b.drop (k+1):=by
   rw[apx (by omega),abo,abm (by omega)];rfl
  have e:a.getD k false=b.getD k false:=by
   have:=congrArg (fun l=>l.getD k false) h
   simpa [abo,anh] using this
  rw[ha,hb,iK,if_pos e]
theorem anQ {a b:List Bool} (hl:a.length=b.length) {k:Nat} (hk:k<a.length) (h:a.take k=b.take k) (hn:a.getD k false≠b.getD k false):iK a b=if b.getD k false then -1 else 1:=by
 rw[aeZ hl (k:=k) (by omega) h]
 have ha:a.drop k=a.getD k false :: a.drop (k+1):=by
  rw[apx (by omega),abo,abm (by omega)];rfl
 have hb:b.drop k=b.getD k false :: b.drop (k+1):=by
  rw[apx (by omega),abo,abm (by omega)];rfl
 rw[ha,hb,iK,if_neg hn]
theorem ain {a b:List Bool} (h:a=b):iK a b=0:=by
 subst h
 induction a with
 | nil=>rfl
 | cons x a ih=>rw[iK,if_pos rfl,ih]
def am7 (a b:List Bool):Bool:=iK a b==-1
def rZ (n:Nat):List Bool:=(List.replicate n false).set 0 true
abbrev Mk := List Bool × List Int
def aA:Mk:=([],[])
def rY (l:List Mk) (m:List Bool):Bool:=l.any fun y=>decide (y.1=m)
def qj (x y:Int):Int:=if x<y then -1 else if y<x then 1 else 0
theorem agT:aL Tryz.prog 163 (cu (fun x:Int=>[iA x]) (fun _=>True) (fun _=>bP false)):=by
 refine bg (Tb:=tab) mixed ay Tryz.func163 rfl rfl ?_
 rintro (x:Int) hpre
 refine ai (ai rfl (ai rfl rfl)) ?_
 refine ai (ai (fun _=>trivial) ?_) trivial
 show au _ (bP false)
 rw[show false=(x != x) by simp]
 exact rfl
theorem anH:aL Tryz.prog 126 (cu (fun a:Int×Int=>[iA a.1,iA a.2]) (fun _=>True) (fun a=>iP (qj a.1 a.2))):=by
 refine bg (Tb:=tab) mixed ay Tryz.func126 rfl rfl ?_
 rintro (a:Int×Int) hpre
 refine ai (ai rfl (ai rfl rfl)) ?_
 refine ei _ (ai (agT) (ei (a.1) (ei [] (ai (a4 (ai (fun _=>Or.inl rfl) (ai nof (Or.inl rfl)))) (ai (by exact rfl) (ai trivial (ai (trivial) ?_)))))))
 refine ei _ (ai (agT) (ei (a.2) (ei [] (ai (a4 (ai (fun _=>Or.inl rfl) (ai nof (Or.inl rfl)))) (ai (by exact rfl) (ai trivial (ai (trivial) ?_)))))))
 refine ah (p:=a.1<a.2) (ak (by omega)) (fun h1=>?_) (fun h1=>?_)
 ·refine ai (ai (fun _=>trivial) ?_) trivial
  show au _ (iP (qj a.1 a.2))
  rw[qj,if_pos h1]
  exact rfl
 refine ah (p:=a.2<a.1) (ak (by omega)) (fun h2=>?_) (fun h2=>?_)
 ·refine ai (ai (fun _=>trivial) ?_) trivial
  show au _ (iP (qj a.1 a.2))
  rw[qj,if_neg h1,if_pos h2]
  exact rfl
 ·refine ai (ai (fun _=>trivial) ?_) trivial
  show au _ (iP (qj a.1 a.2))
  rw[qj,if_neg h1,if_neg h2]
  exact rfl
def cmpL:List Int→List Int→Int
 | [],[]=>0
 | [],_ :: _=>-1
 | _ :: _,[]=>1
 | x :: a,y :: b=>if qj x y=0 then cmpL a b else qj x y
theorem akU {x y:Int} (h:qj x y=0):x=y:=by
 unfold qj at h
 split at h
 ·cases h
 ·split at h
  ·cases h
  ·omega
theorem aeC {a b:List Int}:∀{k:Nat},k≤a.length→k≤b.length→a.take k=b.take k→cmpL a b=cmpL (a.drop k) (b.drop k)
 | 0,_,_,_=>rfl
 | k+1,hk,hk2,h=>by
  have h1:a.take k=b.take k:=by
   have:=congrArg (List.take k) h
   rwa [asO,asO,asC (by omega)] at this
  rw[aeC (k:=k) (by omega) (by omega) h1]
  have ha:a.drop k=a.getD k 0 :: a.drop (k+1):=by
   rw[apx (by omega),abo,abm (by omega)];rfl
  have hb:b.drop k=b.getD k 0 :: b.drop (k+1):=by
   rw[apx (by omega),abo,abm (by omega)];rfl
  have e:a.getD k 0=b.getD k 0:=by
   have:=congrArg (fun l=>l.getD k 0) h
   simpa [abo,anh] using this
  rw[ha,hb,cmpL,if_pos (by rw[e];unfold qj;rw[if_neg (by omega),if_neg (by omega)])]
theorem aa8:aL Tryz.prog 64 (cu (fun a:List Int×List Int=>[isA a.1,isA a.2]) (fun a=>a.1.length≤1000000) (fun a=>iP (cmpL a.1 a.2))):=by
 refine bg (Tb:=tab) mixed ay Tryz.func64 rfl rfl ?_
 rintro (a:List Int×List Int) hpre
 refine ai (ai rfl (ai rfl rfl)) ?_
 have hl:a.1.length≤1000000:=hpre
 refine ei (bG.inv { X:=Nat,up:=fun k=>[(11,.s (iA k))],uo:=fun k=>[],inv:=fun k=>k≤a.1.length∧(k≤a.2.length∧a.1.take k=a.2.take k),meas:=fun k=>a.1.length-k,x0:=0 }) ?_
 refine ai (ai (ai (by exact (a4 (ai rfl rfl))) (ai (by exact (ai (ai (fun _=>rfl) (iE (by simp only[zz,reduceCtorEq];rfl))) rfl)) (by exact trivial))) rfl) (ai (ai (ac7 _) ?_) ?_)
 ·exact ⟨ac7 _,rfl⟩
 intro (k:Nat) ⟨hk,hk2,hall⟩
 have hD:=aeC hk hk2 hall
 refine ah (p:=k<a.1.length) (ak (by omega)) (fun h1=>?_) (fun h1=>?_)
 ·refine ai (ai (abr _) (iN (n:=a.1.length) (by omega))) (ai rfl ?_)
  have ha:a.1.drop k=a.1.getD k 0 :: a.1.drop (k+1):=by
   rw[apx (by omega),abo,abm (by omega)];rfl
  refine ah (p:=a.2.length≤k) (bX (by omega)) (fun h2=>?_) (fun h2=>?_)
  ·refine ai (ai (fun _=>trivial) ?_) trivial
   show au _ (iP (cmpL a.1 a.2))
   rw[show cmpL a.1 a.2=1 by rw[hD,ha,asr h2];rfl]
   exact rfl
  have hb:a.2.drop k=a.2.getD k 0 :: a.2.drop (k+1):=by
   rw[apx (by omega),abo,abm (by omega)];rfl
  refine ai (ai (abr _) (iN (n:=a.2.length) (by omega))) (ai rfl ?_)
  refine ei _ (ai (anH) (ei ((a.1.getD k 0,a.2.getD k 0)) (ei [] (ai (a4 (ai (fun _=>Or.inl rfl) (ai nof (Or.inl rfl)))) (ai (by exact (ai (iE (by simp only[zz,reduceCtorEq])) (iE (by simp only[zz,reduceCtorEq])))) (ai trivial (ai (trivial) ?_)))))))
  refine bH (p:=qj (a.1.getD k 0) (a.2.getD k 0)=0) (bU (by dsimp only;omega)) (fun h3=>?_) (fun h3=>?_)
  ·refine ai (ai (fun _=>trivial) ?_) trivial
   show au _ (iP (cmpL a.1 a.2))
   rw[show cmpL a.1 a.2=qj (a.1.getD k 0) (a.2.getD k 0) by rw[hD,ha,hb,cmpL,if_neg h3]]
   exact rfl
  refine ei (k+1) (ai (ai rfl rfl) (ai (ai (ai rfl (ai (ai rfl rfl) (ai (ai rfl rfl) (ai (ai (ai (fun _=>rfl) (aM (by omega))) rfl) trivial)))) rfl) (ai (ai (iL (by omega)) (ai ?_ ?_)) (iM (by omega)))))
  ·show k+1≤a.2.length;omega
  ·exact aaS 0 h1 (by omega) hall (akU h3)
 ·obtain rfl:k=a.1.length:=by omega
  rw[asr (aic _)] at hD
  refine ah (p:=a.1.length<a.2.length) (ak (by omega)) (fun h4=>?_) (fun h4=>?_)
  ·have hb:a.2.drop a.1.length=a.2.getD a.1.length 0 :: a.2.drop (a.1.length+1):=by
    rw[apx (by omega),abo,abm (by omega)];rfl
   refine ai (ai (fun _=>trivial) ?_) trivial
   show au _ (iP (cmpL a.1 a.2))
   rw[show cmpL a.1 a.2=-1 by rw[hD,hb];rfl]
   exact rfl
  ·refine ai (ai (fun _=>trivial) ?_) trivial
   show au _ (iP (cmpL a.1 a.2))
   rw[show cmpL a.1 a.2=0 by rw[hD,asr (by omega)];rfl]
   exact rfl
def yX (c:bD) (i:Nat):kD:=c.trs.getD i aG
def aF (c:bD) (l:List Mk) (a i:Nat):Mk:=(om (l.getD a aA).1 (yX c i),(l.getD a aA).2++[(i:Int)])
def adds (c:bD) (l:List Mk) (a i:Nat):Bool:=allM (l.getD a aA).1 (yX c i).fr&&!rY l (aF c l a i).1
def lI (c:bD) (l:List Mk) (a i:Nat):List Mk:=if adds c l a i then l++[aF c l a i] else l
def fU (c:bD) (l:List Mk) (a:Nat):Nat→List Mk
 | 0=>l
 | k+1=>lI c (fU c l a k) a k
def qJ (c:bD):Nat→List Mk→Nat→Option (List Mk)
 | 0,l,a=>some l
 | f+1,l,a=>if l.length≤a then some l else if 16384<(fU c l a c.trs.length).length then none else qJ c f (fU c l a c.trs.length) (a+1)
def mk1 (c:bD):List Mk:=[(rZ c.sts.length,[])]
def uO (c:bD):Option (List Mk):=qJ c 16385 (mk1 c) 0
theorem aew (c:bD) (l:List Mk) (a i:Nat):(∃t,lI c l a i=l++t)∧(lI c l a i).length≤l.length+1:=by
 unfold lI
 split
 ·exact ⟨⟨_,rfl⟩,by simp⟩
 ·exact ⟨⟨[],(anp _).symm⟩,by omega⟩
theorem alu (c:bD) (l:List Mk) (a:Nat):∀{j k:Nat},j≤k→(fU c l a j).length≤(fU c l a k).length:=by
 intro j k h
 induction k with
 | zero=>
  have:j=0:=by omega
  subst this;exact aic _
 | succ k ih=>
  by_cases e:j=k+1
  ·subst e;exact aic _
  ·have h1:=ih (by omega)
   obtain ⟨⟨t,ht⟩,_⟩:=aew c (fU c l a k) a k
   have:(fU c l a (k+1)).length=(fU c l a k).length+t.length:=by
    show (lI c (fU c l a k) a k).length=_
    rw[ht,aaH]
   omega
theorem uL (c:bD) (l:List Mk) (a:Nat):∀k,∃t,fU c l a k=l++t
 | 0=>⟨[],(anp _).symm⟩
 | k+1=>by
  obtain ⟨t,ht⟩:=uL c l a k
  obtain ⟨⟨t2,h2⟩,_⟩:=aew c (fU c l a k) a k
  exact ⟨t++t2,by show lI c (fU c l a k) a k=_;rw[h2,ht,anr]⟩
def oN (c:bD) (l:List Mk):Prop:=∀y∈l,y.1.length=c.sts.length∧jk c.trs.length y.2
theorem akn {c:bD} {l:List Mk} {a i:Nat} (h:oN c l) (ha:a<l.length) (hi:i<c.trs.length):oN c (l++[aF c l a i]):=by
 intro y hy
 rcases akI.1 hy with hy | hy
 ·exact h y hy
 ·simp only[akz] at hy
  subst hy
  have hg:=h _ (abv (bY aA ha))
  refine ⟨by show (om _ _).length=_;unfold om;rw[jI,jI];exact hg.1,fun x hx=>?_⟩
  rcases akI.1 hx with hx | hx
  ·exact hg.2 x hx
  ·simp only[akz] at hx;subst hx;omega
theorem good_step {c:bD} {l:List Mk} {a i:Nat} (h:oN c l) (ha:a<l.length) (hi:i<c.trs.length):oN c (lI c l a i):=by
 unfold lI
 split
 ·exact akn h ha hi
 ·exact h
theorem good_row {c:bD} {l:List Mk} {a:Nat} (h:oN c l) (ha:a<l.length):∀{k:Nat},k≤c.trs.length→oN c (fU c l a k)
 | 0,_=>h
 | k+1,hk=>good_step (good_row h ha (by omega)) (by obtain ⟨t,ht⟩:=uL c l a k;rw[ht,aaH];omega) (by omega)
theorem afD (c:bD):oN c (mk1 c):=by
 intro y hy
 simp only[mk1,akz] at hy
 subst hy
 exact ⟨by show (rZ _).length=_;unfold rZ;rw[asD,ar9],fun x hx=>by simp at hx⟩
theorem al7 {c:bD} {f:Nat} {l:List Mk} {a:Nat} (h:l.length≤a):qJ c f l a=some l:=by
 cases f with
 | zero=>rfl
 | succ f=>rw[qJ,if_pos h]
theorem amE {c:bD} {f:Nat} {l:List Mk} {a k:Nat} (ha:a<l.length) (hk:k≤c.trs.length) (h:16384<(fU c l a k).length):qJ c (f+1) l a=none:=by
 have:=alu c l a hk
 rw[qJ,if_neg (by omega),if_pos (by omega)]
theorem amt {c:bD} {f:Nat} {l:List Mk} {a:Nat} (ha:a<l.length) (h:(fU c l a c.trs.length).length≤16384):qJ c (f+1) l a=qJ c f (fU c l a c.trs.length) (a+1):=by
 rw[qJ,if_neg (by omega),if_neg (by omega)]
theorem adG {u u' v v':PV} (h1:iH u u') (h2:iH v v'):cB [u,v] [u',v']:=by
 refine ⟨rfl,fun k s s' hs hs'=>?_⟩
 match k with
 | 0=>cases hs;cases hs';exact h1
 | 1=>cases hs;cases hs';exact h2
 | k+2=>simp at hs
theorem alG {n:Nat} {f:Nat→List PV} {l:List Int} (hn:n=l.length) (hf:∀k,k<n→f k=[iP (l.getD k 0)]):iH (.seq n f) (mW l):=by
 subst hn
 refine .seq _ _ _ (fun j hj=>by rw[hf j hj]) fun j k s s' hj hs hs'=>?_
 rw[hf j hj] at hs
 have hs':[iP (l.getD j 0)][k]?=some s':=hs'
 rw[hs] at hs';cases hs';exact .refl _
theorem kr {c:bD} {l:List Mk} {a:Nat} (ha:a<l.length) (k:Nat):(fU c l a k).getD a aA=l.getD a aA:=by
 obtain ⟨t,ht⟩:=uL c l a k
 rw[ht,abo,abo,agF ha]
def aaJ (n:Nat) (l:List Mk):Prop:=∀y∈l,y.2.length≤n
theorem ad9 {c:bD} {l:List Mk} {a:Nat} (ha:a<l.length) (h:aaJ a l):∀k,aaJ (a+1) (fU c l a k)
 | 0=>fun y hy=>Nat.le_succ_of_le (h y hy)
 | k+1=>by
  have ih:=ad9 (c:=c) ha h k
  show aaJ (a+1) (lI c (fU c l a k) a k)
  unfold lI
  split
  ·intro y hy
   rcases akI.1 hy with hy | hy
   ·exact ih y hy
   ·simp only[akz] at hy
    subst hy
    show (((fU c l a k).getD a aA).2++[(k:Int)]).length≤a+1
    rw[kr ha,aaH]
    have:=h _ (abv (bY aA ha))
    show (l.getD a aA).2.length+1≤a+1
    omega
  ·exact ih
def toC (x:Ex):C3:=(iP x.op,iP x.idx,if x.op=1 then .val (.slice none 0 0) else .seq x.args.length (fun k=>uN (x.args.getD k aH).idx))
theorem aoP (n:Int):zo n=toC (vR n):=rfl
theorem ahS (l:List Sk):lW l=toC (agw l):=by
 match l with
 | [y]=>rfl
 | []=>
  show (iP 3,iP 0,PV.seq 0 (yx []))=(iP 3,iP 0,PV.seq 0 (fun k=>uN (([]:List Ex).getD k aH).idx))
  exact congrArg (fun f:Nat→List PV=>((iP 3,iP 0,PV.seq 0 f):C3)) (funext fun k=>by cases k<;>rfl)
 | a :: b :: l=>
  show (iP 3,iP 0,PV.seq (a :: b :: l).length (yx (a :: b :: l)))=(iP 3,iP 0,PV.seq ((a :: b :: l).map fun y=>vR (ny y)).length (fun k=>uN (((a :: b :: l).map fun y=>vR (ny y)).getD k aH).idx))
  rw[apg]
  refine congrArg (fun f:Nat→List PV=>((iP 3,iP 0,PV.seq (a :: b :: l).length f):C3)) (funext fun k=>?_)
  show uN (ny ((a :: b :: l).getD k bO))=_
  rw[abo,abo,ane]
  cases (a :: b :: l)[k]?<;>rfl
def okX (x:Ex):Prop:=(x.op=1∧x.args=[])∨(x.op=3∧∀y∈x.args,y.op=1∧y.args=[])
theorem ahZ (n:Int):okX (vR n):=.inl ⟨rfl,rfl⟩
theorem ah2 (l:List Sk):okX (agw l):=by
 match l with
 | [y]=>exact .inl ⟨rfl,rfl⟩
 | []=>exact .inr ⟨rfl,fun y hy=>by simp[agw] at hy⟩
 | a :: b :: l=>
  refine .inr ⟨rfl,fun y hy=>?_⟩
  obtain ⟨z,_,rfl⟩:=ar4.1 hy
  exact ⟨rfl,rfl⟩
abbrev SX := Stp × Ex
def sx0:SX:=(st0,vR 0)
def ag3 (act:Int) (p:List SX) (x:Stp):List SX:=
 if 0<x.wt then (p++[(⟨x.st,0⟩,agw x.st)])++[(⟨[],x.wt⟩,vR (2*act+1+((p.length+1:Nat):Int)))] else p++[(⟨x.st,0⟩,agw x.st)]
def al9 (s:nJ):List SX:=s.sts.foldl (ag3 s.act) [(⟨[],0⟩,vR (2*s.act))]
def adR (q:SX):SC:=(q.1,toC q.2)
theorem am1 (s:nJ):dU s s.sts.length=(al9 s).map adR:=by
 have key:∀(l:List Stp) (p:List SX),l.foldl (uR s.act) (p.map adR)=(l.foldl (ag3 s.act) p).map adR:=by
  intro l
  induction l with
  | nil=>intro p;rfl
  | cons x l ih=>
   intro p
   rw[asL,asL,←ih]
   congr 1
   unfold uR ag3
   rw[apg]
   split
   ·rw[arZ,arZ,ahS,aoP];rfl
   ·rw[arZ,ahS];rfl
 have:=key s.sts [(⟨[],0⟩,vR (2*s.act))]
 unfold dU
 rw[aiy]
 exact this
theorem an1 (s:nJ):∀q∈al9 s,okX q.2:=by
 have key:∀(l:List Stp) (p:List SX),(∀q∈p,okX q.2)→∀q∈l.foldl (ag3 s.act) p,okX q.2:=by
  intro l
  induction l with
  | nil=>intro p h;exact h
  | cons x l ih=>
   intro p h
   rw[asL]
   refine ih _ fun q hq=>?_
   unfold ag3 at hq
   split at hq
   ·rcases akI.1 hq with hq | hq
    ·rcases akI.1 hq with hq | hq
     ·exact h q hq
     ·simp only[akz] at hq;subst hq;exact ah2 _
    ·simp only[akz] at hq;subst hq;exact ahZ _
   ·rcases akI.1 hq with hq | hq
    ·exact h q hq
    ·simp only[akz] at hq;subst hq;exact ah2 _
 exact key s.sts _ fun q hq=>by simp only[akz] at hq;subst hq;exact ahZ _
def akb:List UInt8:=[115,116,97,114,116]
def afL (p:List SX) (k:Nat):kD:=⟨[(k:Int)],[toN k p.length],(p.getD k sx0).2⟩
def chX (act:Int) (p:List SX):bD:=⟨act,[akb],p.map (·.1),(List.range p.length).map (afL p)⟩
def ofC (s:nJ):bD:=if wM s=0 then chX s.act (al9 s) else ⟨0,[],[],[]⟩
theorem bS {a b:PV} {l m:List PV} (h:iH a b) (hl:cB l m):cB (a :: l) (b :: m):=by
 refine ⟨by simp[hl.1],fun k s s' hs hs'=>?_⟩
 match k with
 | 0=>cases hs;cases hs';exact h
 | k+1=>exact hl.2 k s s' (by simpa using hs) (by simpa using hs')
theorem nS:cB [] []:=⟨rfl,fun k s s' hs _=>by simp at hs⟩
theorem ig {n:Nat} {f g:Nat→List PV} (h:∀k,k<n→cB (f k) (g k)):iH (.seq n f) (.seq n g):=
 .seq n f g (fun j hj=>(h j hj).1) fun j k s s' hj hs hs'=>(h j hj).2 k s s' hs hs'
theorem wF {l m:List PV} (h:cB l m):iH (.agg l) (.agg m):=.agg l m h.1 h.2
theorem ahT {l m:List PV} (h:cB l m):iH (.tup l) (.tup m):=.tup l m h.1 h.2
theorem akX (x:Int):iH (.seq 1 (bK 1 [iP x])) (mW [x]):=alG rfl fun j hj=>by
 obtain rfl:j=0:=by omega
 rfl
theorem aqb {x:Ex} (h:okX x):cB (yU (toC x)) (y7 x):=by
 refine bS (.refl _) (bS (.refl _) (bS ?_ nS))
 show iH (if x.op=1 then .val (.slice none 0 0) else .seq x.args.length (fun k=>uN (x.args.getD k aH).idx)) (.seq x.args.length (exF x.args))
 rcases h with ⟨h1,h2⟩ | ⟨h1,h2⟩
 ·rw[if_pos h1,h2];exact .nil _
 ·rw[if_neg (by rw[h1];decide)]
  refine ig fun k hk=>?_
  have hy:=h2 _ (abv (bY aH hk))
  show cB (uN (x.args.getD k aH).idx) (exF x.args k)
  unfold exF uN
  rw[hy.1,hy.2]
  exact bS (.refl _) (bS (.refl _) (bS (.nil _) nS))
theorem aqs:iH abZ (vZ [akb]):=ig fun k hk=>by
 obtain rfl:k=0:=by omega
 exact cB.rfl' _
theorem aqr (x:Stp):cB (uJ x) (stK x):=by
 refine bS ?_ (bS (.refl _) nS)
 split
 ·rename_i h;rw[h];exact .nil _
 ·exact .refl _
theorem ahd (p:List SX) {k:Nat} (hk:k<p.length):(p.map adR).getD k p8=adR (p.getD k sx0):=by
 rw[abo,abo,ane,abm hk];rfl
theorem amq (act:Int) {p:List SX} (h:∀q∈p,okX q.2):iH (afn act (p.map adR)) (vk (chX act p)):=by
 unfold afn vk chK chX
 rw[apg]
 refine wF (bS (.refl _) (bS aqs (bS ?_ (bS ?_ nS))))
 ·show iH _ (.seq (p.map (·.1)).length (fun k=>stK ((p.map (·.1)).getD k st0)))
  rw[apg]
  refine ig fun k hk=>?_
  rw[ahd p hk]
  have:(p.map (·.1)).getD k st0=(p.getD k sx0).1:=by
   rw[abo,abo,ane,abm hk];rfl
  rw[this]
  exact aqr _
 ·show iH _ (.seq ((List.range p.length).map (afL p)).length (fun k=>trK (((List.range p.length).map (afL p)).getD k aG)))
  rw[apg,List.length_range]
  refine ig fun k hk=>?_
  have e1:((List.range p.length).map (afL p)).getD k aG=afL p k:=by
   rw[abo,ane,asJ hk];rfl
  rw[e1]
  unfold abd
  rw[ahd p hk,apg]
  have h3:=aqb (h _ (abv (bY sx0 hk)))
  exact bS (akX _) (bS (akX _) h3)
theorem amL (s:nJ):iH (ofRaw s) (.tup [vk (ofC s),iP (wM s)]):=by
 unfold ofRaw ofC
 by_cases h:wM s=0
 ·rw[if_pos h,if_pos h,h,am1]
  exact ahT (bS (amq _ (an1 s)) (bS (.refl _) nS))
 ·rw[if_neg h,if_neg h]
  refine ahT (bS ?_ (bS (.refl _) nS))
  exact wF (bS (.refl _) (bS (.nil _) (bS (.nil _) (bS (.nil _) nS))))
def ofP (s:nJ):PV:=.tup [vk (ofC s),iP (wM s)]
theorem ae0:aL Tryz.prog 18 (jF (fun s:nJ=>[sqA s]) (fun _=>True) ofP):=adC ahH fun s _=>amL s
theorem abb (m:List Bool):gT (dF m)=gT m:=funext fun k=>by unfold gT;rw[uj]
theorem aox (m:List Bool) {k:Nat} (hk:k<m.length) (b:Bool):(dF m).set k b=dF (m.set k b):=by
 unfold dF
 rw[List.set_append_left _ _ hk,asD]
theorem abT (b:Bool):∀{l:List Int} {m:List Bool},jk m.length l→gX (dF m) l b=dF (gX m l b)
 | [],_,_=>rfl
 | k :: l,m,h=>by
  show gX ((dF m).set k.toNat b) l b=dF (gX (m.set k.toNat b) l b)
  have hk:=h k (apl ..)
  rw[aox m (by omega) b]
  exact abT b fun x hx=>by rw[asD];exact h x (aps _ hx)
theorem alD {m:List Bool} {t:kD} (h1:jk m.length t.fr) (h2:jk m.length t.to):om (dF m) t=dF (om m t):=by
 unfold om
 rw[abT false h1,abT true (by rw[jI];exact h2)]
def aap (c:bD) (m:List Bool) (i:Nat):PV:=.tup [vI (bI c m i).1,bP (bI c m i).2]
theorem aaM:aL Tryz.prog 61 (jF (fun a:bD×List Bool×Nat=>[kF a.1,uZ a.2.1,iA a.2.2]) (fun a=>bJ a.1=0∧jP a.1∧a.2.1.length=a.1.sts.length∧a.2.2<a.1.trs.length) (fun a=>aap a.1 a.2.1 a.2.2)):=by
 refine ⟨aly.1,fun ⟨c,m,i⟩ hp E vs w hg hh hA=>?_⟩
 obtain ⟨hc,ho,hm,hi⟩:=hp
 have hc:bJ c=0:=hc
 have hm:m.length=c.sts.length:=hm
 have hi:i<c.trs.length:=hi
 obtain ⟨g1,g2,g3⟩:=kV hc hi
 have h24:=(jN hc).2.2.1.2
 have e1:uZ (dF m)=uZ m:=by unfold uZ vI;rw[abb]
 have e2:vI (bI c (dF m) i).1=vI (bI c m i).1∧(bI c (dF m) i).2=(bI c m i).2:=by
  unfold bI
  rw[amM]
  split
  ·refine ⟨?_,rfl⟩
   rw[alD (by rw[hm];exact g1.2) (by rw[hm];exact g2.2)]
   unfold vI;rw[abb]
  ·exact ⟨by unfold vI;rw[abb],rfl⟩
 have key:=aly.2 (c,dF m,i) ⟨hc,ho,oP (by omega),hi⟩ E vs w hg hh (by
  show kN E vs [kF c,uZ (dF m),iA i]
  rw[e1];exact hA)
 refine key.mono fun e w' ⟨v,E',h1,h2,h3⟩=>⟨v,E',h1,?_,h3⟩
 have:PV.tup [vI (bI c (dF m) i).1,bP (bI c (dF m) i).2]=aap c m i:=by unfold aap;rw[e2.1,e2.2]
 show aT _ v (aap c m i)
 rw[←this];exact h2
def dR (m:List Bool):List PV:=eY 24 (gT m)
def apy (l:List Mk):LV:=.rw 117 24 l.length (fun k=>dR (l.getD k aA).1)
def anx (l:List Mk):LV:=.rws 29 1 l.length (fun k=>[mW (l.getD k aA).2])
def ze (l:List Mk):MK→Option PV
 | .bools b=>if l.any (fun y=>decide (dF y.1=b)) then some (bP true) else none
 | _=>none
def knO (l:List Mk):Ob:=.map (.bools 24) l.length (ze l)
theorem amS {a b:List Bool} (hl:a.length=b.length) (h:dF a=dF b):a=b:=by
 unfold dF at h
 rw[hl] at h
 exact (List.append_inj' h rfl).1
theorem adL {l:List Mk} {m:List Bool} (hl:∀y∈l,y.1.length=m.length):ze l (.bools (dF m))=if rY l m then some (bP true) else none:=by
 unfold ze rY
 have:(l.any fun y=>decide (dF y.1=dF m))=l.any fun y=>decide (y.1=m):=by
  refine arU.2 ?_
  simp only[asz,decide_eq_true_eq]
  exact ⟨fun ⟨y,hy,h⟩=>⟨y,hy,amS (hl y hy) h⟩,fun ⟨y,hy,h⟩=>⟨y,hy,by rw[h]⟩⟩
 show (if (l.any fun y=>decide (dF y.1=dF m))=true then some (bP true) else none)=_
 rw[this]
theorem bf (l:List Mk) (x:Mk) (k:MK):rJ (ze l) (.bools (dF x.1)) (bP true) k=ze (l++[x]) k:=by
 classical
 unfold rJ
 split
 ·rename_i h;subst h
  show some (bP true)=if ((l++[x]).any fun y=>decide (dF y.1=dF x.1))=true then some (bP true) else none
  rw[if_pos (by simp)]
 ·rename_i h
  cases k with
  | bools b=>
   unfold ze
   have:decide (dF x.1=b)=false:=decide_eq_false fun e=>h (by rw[e])
   simp only[List.any_append,ata,List.any_nil,this,as9]
  | int a=>rfl
  | str a=>rfl
def am6 (l:List Mk):PV:=.seq l.length (fun k=>dR (l.getD k aA).1)
def al0 (l:List Mk):PV:=.seq l.length (fun k=>[mW (l.getD k aA).2])
def xq (c:bD):PV:=match uO c with
 | some l=>.tup [am6 l,al0 l,iP 0]
 | none=>.tup [am6 [],al0 [],iP 12]
theorem aiN {n:Nat} (h:0<n) (k:Nat):(rZ n).getD k false=(k==0):=by
 unfold rZ
 rw[abo,ate]
 by_cases e:k=0
 ·subst e;rw[if_pos rfl,if_pos (by rw[ar9];exact h)];rfl
 ·rw[if_neg (fun h=>e h.symm),asA,show (k==0)=false by simpa using e]
  split<;>rfl
theorem ah6 {n:Nat} (h:0<n):gT (rZ n)=gT (rZ 1):=funext fun k=>by unfold gT;rw[aiN h,aiN (by decide)]
theorem af8 (m:List Bool):takeN 24 (dY 0 (dR m))=some (eY 24 (gT m)):=yR 24 (gT m)
theorem bq (a:List Mk) (x:Mk) {g:Nat→List PV} (hg:g 0=dR x.1):∀k,k<a.length+1→dn a.length (fun k=>dR (a.getD k aA).1) g k=dR ((a++[x]).getD k aA).1:=by
 intro k hk
 unfold dn
 by_cases h:k<a.length
 ·rw[if_pos h]
  show dR (a.getD k aA).1=_
  rw[abo,abo,agF h]
 ·obtain rfl:k=a.length:=by omega
  rw[if_neg h,arY,hg,abo,ah5 (aic _),arY];rfl
theorem abK {u u':PV} (h:iH u u'):cB [u] [u']:=by
 refine ⟨rfl,fun k s s' hs hs'=>?_⟩
 match k with
 | 0=>cases hs;cases hs';exact h
 | k+1=>simp at hs
theorem bn (a:List Mk) (x:Mk) {v:PV} (hv:iH v (mW x.2)):∀k,k<a.length+1→cB (dn a.length (fun k=>[mW (a.getD k aA).2]) (bK 1 [v]) k) [mW ((a++[x]).getD k aA).2]:=by
 intro k hk
 unfold dn
 by_cases h:k<a.length
 ·rw[if_pos h]
  refine cB.of ?_
  show [mW (a.getD k aA).2]=_
  rw[abo,abo,agF h]
 ·obtain rfl:k=a.length:=by omega
  rw[if_neg h,arY,abo,ah5 (aic _),arY]
  exact abK hv
theorem dQ {l:List Int} (h:l.length=0) (k:Nat):iH (.seq 1 (bK 1 [iP (k:Int)])) (mW (l++[(k:Int)])):=by
 obtain rfl:=aqm.1 h
 exact alG rfl fun j hj=>by
  obtain rfl:j=0:=by omega
  rfl
theorem dz (l:List Int) (k:Nat):iH (.seq (0+l.length+1) (dn (0+l.length) (dn 0 (bK 1 []) (fun j=>[iP (l.getD j 0)])) (bK 1 [iP (k:Int)]))) (mW (l++[(k:Int)])):=by
 refine alG (by rw[aaH];simp) fun j hj=>ahQ (a:=l) (b:=[(k:Int)]) (aku _) (fun j hj=>aff (n:=l.length) j (by omega)) (fun j hj=>?_) j (by rw[aaH];show j<l.length+1;omega)
 have hj:j<1:=hj
 obtain rfl:j=0:=by omega
 rfl
theorem anP:ze []=fun _=>none:=funext fun k=>by cases k<;>rfl
theorem agW {l:List Mk} {x:Mk} (hl:∀y∈l,y.1.length=x.1.length) (h:rY l x.1=false):ze l (.bools (dF x.1))=none:=by
 rw[adL hl,if_neg (by rw[h];decide)]
set_option maxHeartbeats 16000000 in
theorem ajh:aL Tryz.prog 124 (jF (fun c:bD=>[kF c]) (fun c=>bJ c=0∧jP c) xq):=by
 refine jQ [63,3000066] ?_
 refine bg (Tb:=tab) mixed ay Tryz.func124 rfl rfl ?_
 rintro (c:bD) hpre
 refine ai (ai rfl (ai rfl rfl)) ?_
 obtain ⟨hc,ho⟩:=hpre
 have hc:bJ c=0:=hc
 have ho:jP c:=ho
 obtain ⟨_,_,⟨b3,b4⟩,b5,_⟩:=jN hc
 refine ai (ai (by decide) (by decide)) ?_
 refine ai (by decide) (ei (gT (rZ c.sts.length)) (ai (by rw[ah6 b3];rfl) ?_))
 refine ai rfl (ei (dF (rZ c.sts.length)) (ai (ai (oP (by unfold rZ;rw[asD,ar9];exact b4)) (fun k _=>by rw[uj];rfl)) ?_))
 refine ei 1 (ai (ai (fun _=>rfl) (fun _ h=>by cases h)) ?_)
 refine ei (bG.inv { X:=Nat×List Mk,up:=fun x=>[(8,.s (iA x.1)),(5,apy x.2),(6,anx x.2)],uo:=fun x=>[⟨3,0,[.ob (knO x.2)]⟩],inv:=fun x=>x.1≤x.2.length∧x.2.length≤16384∧(oN c x.2∧aaJ x.1 x.2)∧qJ c (16385-x.1) x.2 x.1=uO c,meas:=fun x=>16385-x.1,x0:=(0,mk1 c) }) ?_
 refine ai (ai (ai (by exact (a4 (ai rfl rfl))) (ai ?_ ?_)) ?_) (ai ?_ ?_)
 ·refine (ai (ai (ai (fun _=>rfl) (iE (by simp only[zz,reduceCtorEq];rfl))) rfl) (ai (ai rfl (ai rfl (ai rfl ?_))) (ai rfl (ai rfl (ai rfl ?_)))))
  ·intro k hk
   obtain rfl:k=0:=by omega
   show _=dR (rZ c.sts.length)
   unfold dR;rw[ah6 b3];rfl
  ·intro k hk
   have hk:k<1:=hk
   obtain rfl:k=0:=by omega
   exact abK (.nil _)
 ·refine (ai (ai rfl (ai rfl ?_)) trivial)
  intro k
  rw[←anP]
  exact bf [] (rZ c.sts.length,[]) k
 ·rfl
 ·exact ⟨ac7 _,by show 1≤16384;decide,⟨afD c,fun y hy=>by simp only[mk1,akz] at hy;subst hy;exact ac7 _⟩,rfl⟩
 rintro ⟨a,l⟩ ⟨hal,hll,⟨hg,hwl⟩,hr⟩
 have hal:a≤l.length:=hal
 have hll:l.length≤16384:=hll
 have hg:oN c l:=hg
 have hwl:aaJ a l:=hwl
 have hr:qJ c (16385-a) l a=uO c:=hr
 refine ah (p:=a<l.length) (ak (by dsimp only;omega)) (fun h1=>?_) (fun h1=>?_)
 ·refine ei (bG.inv { X:=Nat,up:=fun k=>[(29,.s (iA k)),(5,apy (fU c l a k)),(6,anx (fU c l a k))],uo:=fun k=>[⟨3,0,[.ob (knO (fU c l a k))]⟩],inv:=fun k=>k≤c.trs.length∧((fU c l a k).length≤16384),meas:=fun k=>c.trs.length-k,x0:=0 }) ?_
  refine ai (ai (ai (by exact (a4 (ai rfl rfl))) (ai ?_ ?_)) rfl) (ai (ai (ac7 _) ?_) ?_)
  ·refine (ai (ai (ai (fun _=>rfl) (iE (by simp only[zz,reduceCtorEq];rfl))) rfl) (ai (ai rfl (ai rfl (ai rfl (fun _ _=>rfl)))) (ai rfl (ai rfl (ai rfl ?_)))))
   exact fun k _=>cB.rfl' _
  ·exact (ai (ai rfl (ai rfl (fun _=>rfl))) trivial)
  ·exact hll
  intro (k:Nat) ⟨hk,hkl⟩
  have hgk:=good_row hg h1 hk
  have hways:=ad9 (c:=c) h1 hwl k
  obtain ⟨t,ht⟩:=uL c l a k
  have hak:a<(fU c l a k).length:=by rw[ht,aaH];omega
  refine ah (p:=k<c.trs.length) (ak (by omega)) (fun h2=>?_) (fun h2=>?_)
  ·have hst:fU c l a (k+1)=lI c (fU c l a k) a k:=rfl
   have hrun:16384<(fU c l a (k+1)).length→uO c=none:=fun h=>by
    rw[←hr,show 16385-a=(16384-a)+1 by omega]
    exact amE h1 (show k+1≤c.trs.length from h2) h
   generalize fU c l a k=L at *
   have hkl:L.length≤16384:=hkl
   have hga:=hgk _ (abv (bY aA hak))
   have hw:=hways _ (abv (bY aA hak))
   obtain ⟨q1,q2,q3⟩:=kV hc h2
   have hto:=ad7 ho h2
   have hnl:(aF c L a k).1.length=c.sts.length:=by
    show (om _ _).length=_
    unfold om;rw[jI,jI];exact hga.1
   have hln:∀y∈L,y.1.length=(aF c L a k).1.length:=fun y hy=>by rw[hnl];exact (hgk y hy).1
   refine ei (.one 0 (.one 1 (.one 2 (.one 3 (.one 4 (.one 5 (.alt 6 (.one 7 (.one 8 (.one 9 (.one 10 (.one 11 (.one 12 .done)))))) (.alt 10 (.one 6 (.one 7 (.one 8 (.one 9 (.one 11 (.one 12 .done)))))) .stop)))))))) (ai (by kernel_rfl) ?_)
   refine ai (ai (abr _) (by show (a:Int)<(L.length:Int);omega)) ?_
   refine ai (by show a<L.length;exact hak) (ei (gT (L.getD a aA).1) (ai (af8 _) ?_))
   refine ai ?_ (ai ?_ trivial)
   ·refine ei _ (ai (aaM) (ei ((c,(L.getD a aA).1,k)) (ei [] (ai (a4 (ai (fun _=>Or.inl rfl) (ai nof (Or.inl rfl)))) (ai (by exact (ai (ai rfl (ai (ai rfl (fun _ _=>rfl)) (ai (ai rfl (fun _ _=>rfl)) (ai rfl (fun _ _=>rfl))))) (ai (ai rfl (fun _ _=>rfl)) rfl))) (ai trivial (ai (⟨hc,ho,hga.1,h2⟩) ?_)))))))
    refine aZ (b:=!(bI c (L.getD a aA).1 k).2) rfl (fun h3=>?_) (fun h3=>?_)
    ·have h3:allM (L.getD a aA).1 (yX c k).fr=false:=by
      have h3:(bI c (L.getD a aA).1 k).2=false:=by simpa using h3
      unfold bI at h3
      split at h3
      ·cases h3
      ·rename_i h;exact ar2.2 h
     have e:fU c l a (k+1)=L:=by rw[hst];unfold lI adds;rw[h3];simp
     refine ei (k+1) (ai (ai rfl rfl) (ai (ai (ai rfl (ai (ai rfl rfl) (ai (ai rfl rfl) (ai (ai (ai (ai (fun _=>rfl) (aM (by omega))) rfl) (ai (ai rfl (ai rfl (ai ?_ ?_))) (ai rfl (ai rfl (ai ?_ ?_))))) (ai (ai rfl (ai ?_ ?_)) trivial))))) rfl) (ai (ai (iL (by omega)) ?_) (iM (by omega)))))
     all_goals rw[e]
     ·exact fun _ _=>rfl
     ·exact fun k _=>cB.rfl' _
     ·exact fun _=>rfl
     ·exact hkl
    have h3:allM (L.getD a aA).1 (yX c k).fr=true:=by
     have h3:(bI c (L.getD a aA).1 k).2=true:=by simpa using h3
     unfold bI at h3
     split at h3
     ·assumption
     ·cases h3
    have hcan:(bI c (L.getD a aA).1 k).1=(aF c L a k).1:=by unfold bI;exact congrArg Prod.fst (if_pos h3)
    have hkey:∀q,q<24→gT (bI c (L.getD a aA).1 k).1 q=.val (.bool ((dF (aF c L a k).1).getD q false)):=fun q _=>by rw[hcan,uj];rfl
    refine ai (ai rfl rfl) (ei (dF (aF c L a k).1) (ai (ai (oP (by omega)) hkey) ?_))
    refine ei (bP (rY L (aF c L a k).1)) (ei (rY L (aF c L a k).1) (ai ?_ ?_))
    ·show (∀d',ze L (.bools (dF (aF c L a k).1))=some d'→_)∧(ze L (.bools (dF (aF c L a k).1))=none→_)
     rw[adL hln]
     cases rY L (aF c L a k).1
     ·exact ⟨fun d' h=>by simp at h,fun _=>⟨rfl,rfl⟩⟩
     ·exact ⟨fun d' h=>by simp at h;exact ⟨h.symm,rfl⟩,fun h=>by simp at h⟩
    refine aZ (b:=rY L (aF c L a k).1) rfl (fun h4=>?_) (fun h4=>?_)
    ·have e:fU c l a (k+1)=L:=by rw[hst];unfold lI adds;rw[h4];simp
     refine ei (k+1) (ai (ai rfl rfl) (ai (ai (ai rfl (ai (ai rfl rfl) (ai (ai rfl rfl) (ai (ai (ai (ai (fun _=>rfl) (aM (by omega))) rfl) (ai (ai rfl (ai rfl (ai ?_ ?_))) (ai rfl (ai rfl (ai ?_ ?_))))) (ai (ai rfl (ai ?_ ?_)) trivial))))) rfl) (ai (ai (iL (by omega)) ?_) (iM (by omega)))))
     all_goals rw[e]
     ·exact fun _ _=>rfl
     ·exact fun k _=>cB.rfl' _
     ·exact fun _=>rfl
     ·exact hkl
    have hn:adds c L a k=true:=by unfold adds;rw[h3,h4];rfl
    have e:fU c l a (k+1)=L++[aF c L a k]:=by rw[hst];unfold lI;rw[if_pos hn]
    refine ah (p:=L.length=16384) (bC (by omega)) (fun h5=>?_) (fun h5=>?_)
    ·refine ai (ai (fun h=>absurd (show false=true from h) (by decide)) ?_) trivial
     show au _ (xq c)
     rw[xq,hrun (by rw[e,aaH];show 16384<L.length+1;omega)]
     exact (ai rfl (ai rfl rfl))
    refine ai rfl (ei (dF (aF c L a k).1) (ai (ai (oP (by omega)) hkey) ?_))
    refine ei (L.length+1) (ai (ai (fun _=>rfl) (fun d hd=>absurd ((agW hln h4).symm.trans hd) (by simp))) ?_)
    refine ei (.one 0 (.one 1 (.one 4 (.one 5 (.one 6 (.one 7 (.one 10 (.alt 2 (.alt 3 (.one 8 (.altw 9 (.one 11 (.one 12 (.one 13 (.one 14 (.one 15 (.one 16 .done)))))) (.alt 11 (.wr 9 (.one 12 (.one 13 (.one 14 (.one 15 (.one 16 .done)))))) .stop))) (.alt 8 (.alt 3 (.altw 9 (.one 11 (.one 12 (.one 13 (.one 14 (.one 15 (.one 16 .done)))))) (.alt 11 (.wr 9 (.one 12 (.one 13 (.one 14 (.one 15 (.one 16 .done)))))) .stop)) (.alt 11 (.one 3 (.wr 9 (.one 12 (.one 13 (.one 14 (.one 15 (.one 16 .done))))))) .stop)) (.alt 11 (.alt 3 (.one 8 (.wr 9 (.one 12 (.one 13 (.one 14 (.one 15 (.one 16 .done))))))) (.alt 8 (.one 3 (.wr 9 (.one 12 (.one 13 (.one 14 (.one 15 (.one 16 .done))))))) .stop)) .stop))) (.alt 8 (.alt 2 (.alt 3 (.altw 9 (.one 11 (.one 12 (.one 13 (.one 14 (.one 15 (.one 16 .done)))))) (.alt 11 (.wr 9 (.one 12 (.one 13 (.one 14 (.one 15 (.one 16 .done)))))) .stop)) (.alt 11 (.one 3 (.wr 9 (.one 12 (.one 13 (.one 14 (.one 15 (.one 16 .done))))))) .stop)) (.alt 11 (.one 2 (.one 3 (.wr 9 (.one 12 (.one 13 (.one 14 (.one 15 (.one 16 .done)))))))) .stop)) (.alt 11 (.alt 2 (.alt 3 (.one 8 (.wr 9 (.one 12 (.one 13 (.one 14 (.one 15 (.one 16 .done))))))) (.alt 8 (.one 3 (.wr 9 (.one 12 (.one 13 (.one 14 (.one 15 (.one 16 .done))))))) .stop)) (.alt 8 (.one 2 (.one 3 (.wr 9 (.one 12 (.one 13 (.one 14 (.one 15 (.one 16 .done)))))))) .stop)) .stop)))))))))) (ai (by kernel_rfl) ?_)
    refine ai (ai (abr _) (by show (a:Int)<(L.length:Int);omega)) ?_
    refine ai ?_ ?_
    ·refine ai ?_ ?_
     ·refine ai (mxL (n:=L.length+1) (by omega) (by decide)) (ai (lt1 rfl) ?_)
      refine ai (by show a<L.length;exact hak) ?_
      refine ai ?_ ?_
      ·refine fO mixed ay Tryz.func63 rfl rfl ?_
       refine ai rfl ?_
       intro b hb
       refine bF (fun hb0=>?_) (fun hb0=>?_)
       ·have hb1:(L.getD a aA).2.length=0:=hb hb0
        refine ai (ai (by decide) (by decide)) (ai (aN 1 rfl) ?_)
        refine ai (mxL (n:=L.length+1) (by omega) (by decide)) (ai (aN 1 rfl) ?_)
        refine ei (k+1) (ai (ai rfl rfl) (ai (ai (ai rfl (ai (ai rfl rfl) (ai (ai rfl rfl) (ai (ai (ai (ai (fun _=>rfl) (aM (by omega))) rfl) (ai (ai rfl (ai rfl (ai ?_ ?_))) (ai rfl (ai rfl (ai ?_ ?_))))) (ai (ai rfl (ai ?_ ?_)) trivial))))) rfl) (ai (ai (iL (by omega)) ?_) (iM (by omega)))))
        all_goals rw[e]
        ·rw[aaH];rfl
        ·exact bq L (aF c L a k) (show dR (bI c (L.getD a aA).1 k).1=_ by rw[hcan])
        ·rw[aaH];rfl
        ·exact bn L (aF c L a k) (dQ hb1 k)
        ·rw[aaH];rfl
        ·exact bf L (aF c L a k)
        ·rw[aaH];show L.length+1≤16384;omega
       ·refine ai (mxL (n:=0+(L.getD a aA).2.length) (by omega) (by decide)) (ai (fun _ _=>rfl) ?_)
        refine ai (mxL (n:=0+(L.getD a aA).2.length+1) (by omega) (by decide)) (ai (aN 1 rfl) ?_)
        refine ai (mxL (n:=L.length+1) (by omega) (by decide)) (ai (aN 1 rfl) ?_)
        refine ei (k+1) (ai (ai rfl rfl) (ai (ai (ai rfl (ai (ai rfl rfl) (ai (ai rfl rfl) (ai (ai (ai (ai (fun _=>rfl) (aM (by omega))) rfl) (ai (ai rfl (ai rfl (ai ?_ ?_))) (ai rfl (ai rfl (ai ?_ ?_))))) (ai (ai rfl (ai ?_ ?_)) trivial))))) rfl) (ai (ai (iL (by omega)) ?_) (iM (by omega)))))
        all_goals rw[e]
        ·rw[aaH];rfl
        ·exact bq L (aF c L a k) (show dR (bI c (L.getD a aA).1 k).1=_ by rw[hcan])
        ·rw[aaH];rfl
        ·exact bn L (aF c L a k) (dz (L.getD a aA).2 k)
        ·rw[aaH];rfl
        ·exact bf L (aF c L a k)
        ·rw[aaH];show L.length+1≤16384;omega
      refine ai ?_ trivial
      refine fO mixed ay Tryz.func63 rfl rfl ?_
      refine ai rfl ?_
      intro b hb
      refine bF (fun hb0=>?_) (fun hb0=>?_)
      ·have hb1:(L.getD a aA).2.length=0:=hb hb0
       refine ai (ai (by decide) (by decide)) (ai (aN 1 rfl) ?_)
       refine ai (mxL (n:=L.length+1) (by omega) (by decide)) (ai (aN 1 rfl) ?_)
       refine ei (k+1) (ai (ai rfl rfl) (ai (ai (ai rfl (ai (ai rfl rfl) (ai (ai rfl rfl) (ai (ai (ai (ai (fun _=>rfl) (aM (by omega))) rfl) (ai (ai rfl (ai rfl (ai ?_ ?_))) (ai rfl (ai rfl (ai ?_ ?_))))) (ai (ai rfl (ai ?_ ?_)) trivial))))) rfl) (ai (ai (iL (by omega)) ?_) (iM (by omega)))))
       all_goals rw[e]
       ·rw[aaH];rfl
       ·exact bq L (aF c L a k) (show dR (bI c (L.getD a aA).1 k).1=_ by rw[hcan])
       ·rw[aaH];rfl
       ·exact bn L (aF c L a k) (dQ hb1 k)
       ·rw[aaH];rfl
       ·exact bf L (aF c L a k)
       ·rw[aaH];show L.length+1≤16384;omega
      ·refine ai (mxL (n:=0+(L.getD a aA).2.length) (by omega) (by decide)) (ai (fun _ _=>rfl) ?_)
       refine ai (mxL (n:=0+(L.getD a aA).2.length+1) (by omega) (by decide)) (ai (aN 1 rfl) ?_)
       refine ai (mxL (n:=L.length+1) (by omega) (by decide)) (ai (aN 1 rfl) ?_)
       refine ei (k+1) (ai (ai rfl rfl) (ai (ai (ai rfl (ai (ai rfl rfl) (ai (ai rfl rfl) (ai (ai (ai (ai (fun _=>rfl) (aM (by omega))) rfl) (ai (ai rfl (ai rfl (ai ?_ ?_))) (ai rfl (ai rfl (ai ?_ ?_))))) (ai (ai rfl (ai ?_ ?_)) trivial))))) rfl) (ai (ai (iL (by omega)) ?_) (iM (by omega)))))
       all_goals rw[e]
       ·rw[aaH];rfl
       ·exact bq L (aF c L a k) (show dR (bI c (L.getD a aA).1 k).1=_ by rw[hcan])
       ·rw[aaH];rfl
       ·exact bn L (aF c L a k) (dz (L.getD a aA).2 k)
       ·rw[aaH];rfl
       ·exact bf L (aF c L a k)
       ·rw[aaH];show L.length+1≤16384;omega
     refine ai ?_ ?_
     ·refine ai (by show a<L.length;exact hak) ?_
      refine ai ?_ ?_
      ·refine ai (mxL (n:=L.length+1) (by omega) (by decide)) (ai (lt1 rfl) ?_)
       refine ai ?_ ?_
       ·refine fO mixed ay Tryz.func63 rfl rfl ?_
        refine ai rfl ?_
        intro b hb
        refine bF (fun hb0=>?_) (fun hb0=>?_)
        ·have hb1:(L.getD a aA).2.length=0:=hb hb0
         refine ai (ai (by decide) (by decide)) (ai (aN 1 rfl) ?_)
         refine ai (mxL (n:=L.length+1) (by omega) (by decide)) (ai (aN 1 rfl) ?_)
         refine ei (k+1) (ai (ai rfl rfl) (ai (ai (ai rfl (ai (ai rfl rfl) (ai (ai rfl rfl) (ai (ai (ai (ai (fun _=>rfl) (aM (by omega))) rfl) (ai (ai rfl (ai rfl (ai ?_ ?_))) (ai rfl (ai rfl (ai ?_ ?_))))) (ai (ai rfl (ai ?_ ?_)) trivial))))) rfl) (ai (ai (iL (by omega)) ?_) (iM (by omega)))))
         all_goals rw[e]
         ·rw[aaH];rfl
         ·exact bq L (aF c L a k) (show dR (bI c (L.getD a aA).1 k).1=_ by rw[hcan])
         ·rw[aaH];rfl
         ·exact bn L (aF c L a k) (dQ hb1 k)
         ·rw[aaH];rfl
         ·exact bf L (aF c L a k)
         ·rw[aaH];show L.length+1≤16384;omega
        ·refine ai (mxL (n:=0+(L.getD a aA).2.length) (by omega) (by decide)) (ai (fun _ _=>rfl) ?_)
         refine ai (mxL (n:=0+(L.getD a aA).2.length+1) (by omega) (by decide)) (ai (aN 1 rfl) ?_)
         refine ai (mxL (n:=L.length+1) (by omega) (by decide)) (ai (aN 1 rfl) ?_)
         refine ei (k+1) (ai (ai rfl rfl) (ai (ai (ai rfl (ai (ai rfl rfl) (ai (ai rfl rfl) (ai (ai (ai (ai (fun _=>rfl) (aM (by omega))) rfl) (ai (ai rfl (ai rfl (ai ?_ ?_))) (ai rfl (ai rfl (ai ?_ ?_))))) (ai (ai rfl (ai ?_ ?_)) trivial))))) rfl) (ai (ai (iL (by omega)) ?_) (iM (by omega)))))
         all_goals rw[e]
         ·rw[aaH];rfl
         ·exact bq L (aF c L a k) (show dR (bI c (L.getD a aA).1 k).1=_ by rw[hcan])
         ·rw[aaH];rfl
         ·exact bn L (aF c L a k) (dz (L.getD a aA).2 k)
         ·rw[aaH];rfl
         ·exact bf L (aF c L a k)
         ·rw[aaH];show L.length+1≤16384;omega
       refine ai ?_ trivial
       refine fO mixed ay Tryz.func63 rfl rfl ?_
       refine ai rfl ?_
       intro b hb
       refine bF (fun hb0=>?_) (fun hb0=>?_)
       ·have hb1:(L.getD a aA).2.length=0:=hb hb0
        refine ai (ai (by decide) (by decide)) (ai (aN 1 rfl) ?_)
        refine ai (mxL (n:=L.length+1) (by omega) (by decide)) (ai (aN 1 rfl) ?_)
        refine ei (k+1) (ai (ai rfl rfl) (ai (ai (ai rfl (ai (ai rfl rfl) (ai (ai rfl rfl) (ai (ai (ai (ai (fun _=>rfl) (aM (by omega))) rfl) (ai (ai rfl (ai rfl (ai ?_ ?_))) (ai rfl (ai rfl (ai ?_ ?_))))) (ai (ai rfl (ai ?_ ?_)) trivial))))) rfl) (ai (ai (iL (by omega)) ?_) (iM (by omega)))))
        all_goals rw[e]
        ·rw[aaH];rfl
        ·exact bq L (aF c L a k) (show dR (bI c (L.getD a aA).1 k).1=_ by rw[hcan])
        ·rw[aaH];rfl
        ·exact bn L (aF c L a k) (dQ hb1 k)
        ·rw[aaH];rfl
        ·exact bf L (aF c L a k)
        ·rw[aaH];show L.length+1≤16384;omega
       ·refine ai (mxL (n:=0+(L.getD a aA).2.length) (by omega) (by decide)) (ai (fun _ _=>rfl) ?_)
        refine ai (mxL (n:=0+(L.getD a aA).2.length+1) (by omega) (by decide)) (ai (aN 1 rfl) ?_)
        refine ai (mxL (n:=L.length+1) (by omega) (by decide)) (ai (aN 1 rfl) ?_)
        refine ei (k+1) (ai (ai rfl rfl) (ai (ai (ai rfl (ai (ai rfl rfl) (ai (ai rfl rfl) (ai (ai (ai (ai (fun _=>rfl) (aM (by omega))) rfl) (ai (ai rfl (ai rfl (ai ?_ ?_))) (ai rfl (ai rfl (ai ?_ ?_))))) (ai (ai rfl (ai ?_ ?_)) trivial))))) rfl) (ai (ai (iL (by omega)) ?_) (iM (by omega)))))
        all_goals rw[e]
        ·rw[aaH];rfl
        ·exact bq L (aF c L a k) (show dR (bI c (L.getD a aA).1 k).1=_ by rw[hcan])
        ·rw[aaH];rfl
        ·exact bn L (aF c L a k) (dz (L.getD a aA).2 k)
        ·rw[aaH];rfl
        ·exact bf L (aF c L a k)
        ·rw[aaH];show L.length+1≤16384;omega
      refine ai ?_ trivial
      refine ai (mxL (n:=L.length+1) (by omega) (by decide)) (ai (lt1 rfl) ?_)
      refine fO mixed ay Tryz.func63 rfl rfl ?_
      refine ai rfl ?_
      intro b hb
      refine bF (fun hb0=>?_) (fun hb0=>?_)
      ·have hb1:(L.getD a aA).2.length=0:=hb hb0
       refine ai (ai (by decide) (by decide)) (ai (aN 1 rfl) ?_)
       refine ai (mxL (n:=L.length+1) (by omega) (by decide)) (ai (aN 1 rfl) ?_)
       refine ei (k+1) (ai (ai rfl rfl) (ai (ai (ai rfl (ai (ai rfl rfl) (ai (ai rfl rfl) (ai (ai (ai (ai (fun _=>rfl) (aM (by omega))) rfl) (ai (ai rfl (ai rfl (ai ?_ ?_))) (ai rfl (ai rfl (ai ?_ ?_))))) (ai (ai rfl (ai ?_ ?_)) trivial))))) rfl) (ai (ai (iL (by omega)) ?_) (iM (by omega)))))
       all_goals rw[e]
       ·rw[aaH];rfl
       ·exact bq L (aF c L a k) (show dR (bI c (L.getD a aA).1 k).1=_ by rw[hcan])
       ·rw[aaH];rfl
       ·exact bn L (aF c L a k) (dQ hb1 k)
       ·rw[aaH];rfl
       ·exact bf L (aF c L a k)
       ·rw[aaH];show L.length+1≤16384;omega
      ·refine ai (mxL (n:=0+(L.getD a aA).2.length) (by omega) (by decide)) (ai (fun _ _=>rfl) ?_)
       refine ai (mxL (n:=0+(L.getD a aA).2.length+1) (by omega) (by decide)) (ai (aN 1 rfl) ?_)
       refine ai (mxL (n:=L.length+1) (by omega) (by decide)) (ai (aN 1 rfl) ?_)
       refine ei (k+1) (ai (ai rfl rfl) (ai (ai (ai rfl (ai (ai rfl rfl) (ai (ai rfl rfl) (ai (ai (ai (ai (fun _=>rfl) (aM (by omega))) rfl) (ai (ai rfl (ai rfl (ai ?_ ?_))) (ai rfl (ai rfl (ai ?_ ?_))))) (ai (ai rfl (ai ?_ ?_)) trivial))))) rfl) (ai (ai (iL (by omega)) ?_) (iM (by omega)))))
       all_goals rw[e]
       ·rw[aaH];rfl
       ·exact bq L (aF c L a k) (show dR (bI c (L.getD a aA).1 k).1=_ by rw[hcan])
       ·rw[aaH];rfl
       ·exact bn L (aF c L a k) (dz (L.getD a aA).2 k)
       ·rw[aaH];rfl
       ·exact bf L (aF c L a k)
       ·rw[aaH];show L.length+1≤16384;omega
     refine ai ?_ trivial
     refine ai ?_ ?_
     ·refine ai (mxL (n:=L.length+1) (by omega) (by decide)) (ai (lt1 rfl) ?_)
      refine ai (by show a<L.length;exact hak) ?_
      refine fO mixed ay Tryz.func63 rfl rfl ?_
      refine ai rfl ?_
      intro b hb
      refine bF (fun hb0=>?_) (fun hb0=>?_)
      ·have hb1:(L.getD a aA).2.length=0:=hb hb0
       refine ai (ai (by decide) (by decide)) (ai (aN 1 rfl) ?_)
       refine ai (mxL (n:=L.length+1) (by omega) (by decide)) (ai (aN 1 rfl) ?_)
       refine ei (k+1) (ai (ai rfl rfl) (ai (ai (ai rfl (ai (ai rfl rfl) (ai (ai rfl rfl) (ai (ai (ai (ai (fun _=>rfl) (aM (by omega))) rfl) (ai (ai rfl (ai rfl (ai ?_ ?_))) (ai rfl (ai rfl (ai ?_ ?_))))) (ai (ai rfl (ai ?_ ?_)) trivial))))) rfl) (ai (ai (iL (by omega)) ?_) (iM (by omega)))))
       all_goals rw[e]
       ·rw[aaH];rfl
       ·exact bq L (aF c L a k) (show dR (bI c (L.getD a aA).1 k).1=_ by rw[hcan])
       ·rw[aaH];rfl
       ·exact bn L (aF c L a k) (dQ hb1 k)
       ·rw[aaH];rfl
       ·exact bf L (aF c L a k)
       ·rw[aaH];show L.length+1≤16384;omega
      ·refine ai (mxL (n:=0+(L.getD a aA).2.length) (by omega) (by decide)) (ai (fun _ _=>rfl) ?_)
       refine ai (mxL (n:=0+(L.getD a aA).2.length+1) (by omega) (by decide)) (ai (aN 1 rfl) ?_)
       refine ai (mxL (n:=L.length+1) (by omega) (by decide)) (ai (aN 1 rfl) ?_)
       refine ei (k+1) (ai (ai rfl rfl) (ai (ai (ai rfl (ai (ai rfl rfl) (ai (ai rfl rfl) (ai (ai (ai (ai (fun _=>rfl) (aM (by omega))) rfl) (ai (ai rfl (ai rfl (ai ?_ ?_))) (ai rfl (ai rfl (ai ?_ ?_))))) (ai (ai rfl (ai ?_ ?_)) trivial))))) rfl) (ai (ai (iL (by omega)) ?_) (iM (by omega)))))
       all_goals rw[e]
       ·rw[aaH];rfl
       ·exact bq L (aF c L a k) (show dR (bI c (L.getD a aA).1 k).1=_ by rw[hcan])
       ·rw[aaH];rfl
       ·exact bn L (aF c L a k) (dz (L.getD a aA).2 k)
       ·rw[aaH];rfl
       ·exact bf L (aF c L a k)
       ·rw[aaH];show L.length+1≤16384;omega
     refine ai ?_ trivial
     refine ai (by show a<L.length;exact hak) ?_
     refine ai (mxL (n:=L.length+1) (by omega) (by decide)) (ai (lt1 rfl) ?_)
     refine fO mixed ay Tryz.func63 rfl rfl ?_
     refine ai rfl ?_
     intro b hb
     refine bF (fun hb0=>?_) (fun hb0=>?_)
     ·have hb1:(L.getD a aA).2.length=0:=hb hb0
      refine ai (ai (by decide) (by decide)) (ai (aN 1 rfl) ?_)
      refine ai (mxL (n:=L.length+1) (by omega) (by decide)) (ai (aN 1 rfl) ?_)
      refine ei (k+1) (ai (ai rfl rfl) (ai (ai (ai rfl (ai (ai rfl rfl) (ai (ai rfl rfl) (ai (ai (ai (ai (fun _=>rfl) (aM (by omega))) rfl) (ai (ai rfl (ai rfl (ai ?_ ?_))) (ai rfl (ai rfl (ai ?_ ?_))))) (ai (ai rfl (ai ?_ ?_)) trivial))))) rfl) (ai (ai (iL (by omega)) ?_) (iM (by omega)))))
      all_goals rw[e]
      ·rw[aaH];rfl
      ·exact bq L (aF c L a k) (show dR (bI c (L.getD a aA).1 k).1=_ by rw[hcan])
      ·rw[aaH];rfl
      ·exact bn L (aF c L a k) (dQ hb1 k)
      ·rw[aaH];rfl
      ·exact bf L (aF c L a k)
      ·rw[aaH];show L.length+1≤16384;omega
     ·refine ai (mxL (n:=0+(L.getD a aA).2.length) (by omega) (by decide)) (ai (fun _ _=>rfl) ?_)
      refine ai (mxL (n:=0+(L.getD a aA).2.length+1) (by omega) (by decide)) (ai (aN 1 rfl) ?_)
      refine ai (mxL (n:=L.length+1) (by omega) (by decide)) (ai (aN 1 rfl) ?_)
      refine ei (k+1) (ai (ai rfl rfl) (ai (ai (ai rfl (ai (ai rfl rfl) (ai (ai rfl rfl) (ai (ai (ai (ai (fun _=>rfl) (aM (by omega))) rfl) (ai (ai rfl (ai rfl (ai ?_ ?_))) (ai rfl (ai rfl (ai ?_ ?_))))) (ai (ai rfl (ai ?_ ?_)) trivial))))) rfl) (ai (ai (iL (by omega)) ?_) (iM (by omega)))))
      all_goals rw[e]
      ·rw[aaH];rfl
      ·exact bq L (aF c L a k) (show dR (bI c (L.getD a aA).1 k).1=_ by rw[hcan])
      ·rw[aaH];rfl
      ·exact bn L (aF c L a k) (dz (L.getD a aA).2 k)
      ·rw[aaH];rfl
      ·exact bf L (aF c L a k)
      ·rw[aaH];show L.length+1≤16384;omega
    refine ai ?_ ?_
    ·refine ai (by show a<L.length;exact hak) ?_
     refine ai ?_ ?_
     ·refine ai ?_ ?_
      ·refine ai (mxL (n:=L.length+1) (by omega) (by decide)) (ai (lt1 rfl) ?_)
       refine ai ?_ ?_
       ·refine fO mixed ay Tryz.func63 rfl rfl ?_
        refine ai rfl ?_
        intro b hb
        refine bF (fun hb0=>?_) (fun hb0=>?_)
        ·have hb1:(L.getD a aA).2.length=0:=hb hb0
         refine ai (ai (by decide) (by decide)) (ai (aN 1 rfl) ?_)
         refine ai (mxL (n:=L.length+1) (by omega) (by decide)) (ai (aN 1 rfl) ?_)
         refine ei (k+1) (ai (ai rfl rfl) (ai (ai (ai rfl (ai (ai rfl rfl) (ai (ai rfl rfl) (ai (ai (ai (ai (fun _=>rfl) (aM (by omega))) rfl) (ai (ai rfl (ai rfl (ai ?_ ?_))) (ai rfl (ai rfl (ai ?_ ?_))))) (ai (ai rfl (ai ?_ ?_)) trivial))))) rfl) (ai (ai (iL (by omega)) ?_) (iM (by omega)))))
         all_goals rw[e]
         ·rw[aaH];rfl
         ·exact bq L (aF c L a k) (show dR (bI c (L.getD a aA).1 k).1=_ by rw[hcan])
         ·rw[aaH];rfl
         ·exact bn L (aF c L a k) (dQ hb1 k)
         ·rw[aaH];rfl
         ·exact bf L (aF c L a k)
         ·rw[aaH];show L.length+1≤16384;omega
        ·refine ai (mxL (n:=0+(L.getD a aA).2.length) (by omega) (by decide)) (ai (fun _ _=>rfl) ?_)
         refine ai (mxL (n:=0+(L.getD a aA).2.length+1) (by omega) (by decide)) (ai (aN 1 rfl) ?_)
         refine ai (mxL (n:=L.length+1) (by omega) (by decide)) (ai (aN 1 rfl) ?_)
         refine ei (k+1) (ai (ai rfl rfl) (ai (ai (ai rfl (ai (ai rfl rfl) (ai (ai rfl rfl) (ai (ai (ai (ai (fun _=>rfl) (aM (by omega))) rfl) (ai (ai rfl (ai rfl (ai ?_ ?_))) (ai rfl (ai rfl (ai ?_ ?_))))) (ai (ai rfl (ai ?_ ?_)) trivial))))) rfl) (ai (ai (iL (by omega)) ?_) (iM (by omega)))))
         all_goals rw[e]
         ·rw[aaH];rfl
         ·exact bq L (aF c L a k) (show dR (bI c (L.getD a aA).1 k).1=_ by rw[hcan])
         ·rw[aaH];rfl
         ·exact bn L (aF c L a k) (dz (L.getD a aA).2 k)
         ·rw[aaH];rfl
         ·exact bf L (aF c L a k)
         ·rw[aaH];show L.length+1≤16384;omega
       refine ai ?_ trivial
       refine fO mixed ay Tryz.func63 rfl rfl ?_
       refine ai rfl ?_
       intro b hb
       refine bF (fun hb0=>?_) (fun hb0=>?_)
       ·have hb1:(L.getD a aA).2.length=0:=hb hb0
        refine ai (ai (by decide) (by decide)) (ai (aN 1 rfl) ?_)
        refine ai (mxL (n:=L.length+1) (by omega) (by decide)) (ai (aN 1 rfl) ?_)
        refine ei (k+1) (ai (ai rfl rfl) (ai (ai (ai rfl (ai (ai rfl rfl) (ai (ai rfl rfl) (ai (ai (ai (ai (fun _=>rfl) (aM (by omega))) rfl) (ai (ai rfl (ai rfl (ai ?_ ?_))) (ai rfl (ai rfl (ai ?_ ?_))))) (ai (ai rfl (ai ?_ ?_)) trivial))))) rfl) (ai (ai (iL (by omega)) ?_) (iM (by omega)))))
        all_goals rw[e]
        ·rw[aaH];rfl
        ·exact bq L (aF c L a k) (show dR (bI c (L.getD a aA).1 k).1=_ by rw[hcan])
        ·rw[aaH];rfl
        ·exact bn L (aF c L a k) (dQ hb1 k)
        ·rw[aaH];rfl
        ·exact bf L (aF c L a k)
        ·rw[aaH];show L.length+1≤16384;omega
       ·refine ai (mxL (n:=0+(L.getD a aA).2.length) (by omega) (by decide)) (ai (fun _ _=>rfl) ?_)
        refine ai (mxL (n:=0+(L.getD a aA).2.length+1) (by omega) (by decide)) (ai (aN 1 rfl) ?_)
        refine ai (mxL (n:=L.length+1) (by omega) (by decide)) (ai (aN 1 rfl) ?_)
        refine ei (k+1) (ai (ai rfl rfl) (ai (ai (ai rfl (ai (ai rfl rfl) (ai (ai rfl rfl) (ai (ai (ai (ai (fun _=>rfl) (aM (by omega))) rfl) (ai (ai rfl (ai rfl (ai ?_ ?_))) (ai rfl (ai rfl (ai ?_ ?_))))) (ai (ai rfl (ai ?_ ?_)) trivial))))) rfl) (ai (ai (iL (by omega)) ?_) (iM (by omega)))))
        all_goals rw[e]
        ·rw[aaH];rfl
        ·exact bq L (aF c L a k) (show dR (bI c (L.getD a aA).1 k).1=_ by rw[hcan])
        ·rw[aaH];rfl
        ·exact bn L (aF c L a k) (dz (L.getD a aA).2 k)
        ·rw[aaH];rfl
        ·exact bf L (aF c L a k)
        ·rw[aaH];show L.length+1≤16384;omega
      refine ai ?_ trivial
      refine ai (mxL (n:=L.length+1) (by omega) (by decide)) (ai (lt1 rfl) ?_)
      refine fO mixed ay Tryz.func63 rfl rfl ?_
      refine ai rfl ?_
      intro b hb
      refine bF (fun hb0=>?_) (fun hb0=>?_)
      ·have hb1:(L.getD a aA).2.length=0:=hb hb0
       refine ai (ai (by decide) (by decide)) (ai (aN 1 rfl) ?_)
       refine ai (mxL (n:=L.length+1) (by omega) (by decide)) (ai (aN 1 rfl) ?_)
       refine ei (k+1) (ai (ai rfl rfl) (ai (ai (ai rfl (ai (ai rfl rfl) (ai (ai rfl rfl) (ai (ai (ai (ai (fun _=>rfl) (aM (by omega))) rfl) (ai (ai rfl (ai rfl (ai ?_ ?_))) (ai rfl (ai rfl (ai ?_ ?_))))) (ai (ai rfl (ai ?_ ?_)) trivial))))) rfl) (ai (ai (iL (by omega)) ?_) (iM (by omega)))))
       all_goals rw[e]
       ·rw[aaH];rfl
       ·exact bq L (aF c L a k) (show dR (bI c (L.getD a aA).1 k).1=_ by rw[hcan])
       ·rw[aaH];rfl
       ·exact bn L (aF c L a k) (dQ hb1 k)
       ·rw[aaH];rfl
       ·exact bf L (aF c L a k)
       ·rw[aaH];show L.length+1≤16384;omega
      ·refine ai (mxL (n:=0+(L.getD a aA).2.length) (by omega) (by decide)) (ai (fun _ _=>rfl) ?_)
       refine ai (mxL (n:=0+(L.getD a aA).2.length+1) (by omega) (by decide)) (ai (aN 1 rfl) ?_)
       refine ai (mxL (n:=L.length+1) (by omega) (by decide)) (ai (aN 1 rfl) ?_)
       refine ei (k+1) (ai (ai rfl rfl) (ai (ai (ai rfl (ai (ai rfl rfl) (ai (ai rfl rfl) (ai (ai (ai (ai (fun _=>rfl) (aM (by omega))) rfl) (ai (ai rfl (ai rfl (ai ?_ ?_))) (ai rfl (ai rfl (ai ?_ ?_))))) (ai (ai rfl (ai ?_ ?_)) trivial))))) rfl) (ai (ai (iL (by omega)) ?_) (iM (by omega)))))
       all_goals rw[e]
       ·rw[aaH];rfl
       ·exact bq L (aF c L a k) (show dR (bI c (L.getD a aA).1 k).1=_ by rw[hcan])
       ·rw[aaH];rfl
       ·exact bn L (aF c L a k) (dz (L.getD a aA).2 k)
       ·rw[aaH];rfl
       ·exact bf L (aF c L a k)
       ·rw[aaH];show L.length+1≤16384;omega
     refine ai ?_ trivial
     refine ai (mxL (n:=L.length+1) (by omega) (by decide)) (ai (lt1 rfl) ?_)
     refine fO mixed ay Tryz.func63 rfl rfl ?_
     refine ai rfl ?_
     intro b hb
     refine bF (fun hb0=>?_) (fun hb0=>?_)
     ·have hb1:(L.getD a aA).2.length=0:=hb hb0
      refine ai (ai (by decide) (by decide)) (ai (aN 1 rfl) ?_)
      refine ai (mxL (n:=L.length+1) (by omega) (by decide)) (ai (aN 1 rfl) ?_)
      refine ei (k+1) (ai (ai rfl rfl) (ai (ai (ai rfl (ai (ai rfl rfl) (ai (ai rfl rfl) (ai (ai (ai (ai (fun _=>rfl) (aM (by omega))) rfl) (ai (ai rfl (ai rfl (ai ?_ ?_))) (ai rfl (ai rfl (ai ?_ ?_))))) (ai (ai rfl (ai ?_ ?_)) trivial))))) rfl) (ai (ai (iL (by omega)) ?_) (iM (by omega)))))
      all_goals rw[e]
      ·rw[aaH];rfl
      ·exact bq L (aF c L a k) (show dR (bI c (L.getD a aA).1 k).1=_ by rw[hcan])
      ·rw[aaH];rfl
      ·exact bn L (aF c L a k) (dQ hb1 k)
      ·rw[aaH];rfl
      ·exact bf L (aF c L a k)
      ·rw[aaH];show L.length+1≤16384;omega
     ·refine ai (mxL (n:=0+(L.getD a aA).2.length) (by omega) (by decide)) (ai (fun _ _=>rfl) ?_)
      refine ai (mxL (n:=0+(L.getD a aA).2.length+1) (by omega) (by decide)) (ai (aN 1 rfl) ?_)
      refine ai (mxL (n:=L.length+1) (by omega) (by decide)) (ai (aN 1 rfl) ?_)
      refine ei (k+1) (ai (ai rfl rfl) (ai (ai (ai rfl (ai (ai rfl rfl) (ai (ai rfl rfl) (ai (ai (ai (ai (fun _=>rfl) (aM (by omega))) rfl) (ai (ai rfl (ai rfl (ai ?_ ?_))) (ai rfl (ai rfl (ai ?_ ?_))))) (ai (ai rfl (ai ?_ ?_)) trivial))))) rfl) (ai (ai (iL (by omega)) ?_) (iM (by omega)))))
      all_goals rw[e]
      ·rw[aaH];rfl
      ·exact bq L (aF c L a k) (show dR (bI c (L.getD a aA).1 k).1=_ by rw[hcan])
      ·rw[aaH];rfl
      ·exact bn L (aF c L a k) (dz (L.getD a aA).2 k)
      ·rw[aaH];rfl
      ·exact bf L (aF c L a k)
      ·rw[aaH];show L.length+1≤16384;omega
    refine ai ?_ trivial
    refine ai ?_ ?_
    ·refine ai ?_ ?_
     ·refine ai (mxL (n:=L.length+1) (by omega) (by decide)) (ai (lt1 rfl) ?_)
      refine ai (by show a<L.length;exact hak) ?_
      refine fO mixed ay Tryz.func63 rfl rfl ?_
      refine ai rfl ?_
      intro b hb
      refine bF (fun hb0=>?_) (fun hb0=>?_)
      ·have hb1:(L.getD a aA).2.length=0:=hb hb0
       refine ai (ai (by decide) (by decide)) (ai (aN 1 rfl) ?_)
       refine ai (mxL (n:=L.length+1) (by omega) (by decide)) (ai (aN 1 rfl) ?_)
       refine ei (k+1) (ai (ai rfl rfl) (ai (ai (ai rfl (ai (ai rfl rfl) (ai (ai rfl rfl) (ai (ai (ai (ai (fun _=>rfl) (aM (by omega))) rfl) (ai (ai rfl (ai rfl (ai ?_ ?_))) (ai rfl (ai rfl (ai ?_ ?_))))) (ai (ai rfl (ai ?_ ?_)) trivial))))) rfl) (ai (ai (iL (by omega)) ?_) (iM (by omega)))))
       all_goals rw[e]
       ·rw[aaH];rfl
       ·exact bq L (aF c L a k) (show dR (bI c (L.getD a aA).1 k).1=_ by rw[hcan])
       ·rw[aaH];rfl
       ·exact bn L (aF c L a k) (dQ hb1 k)
       ·rw[aaH];rfl
       ·exact bf L (aF c L a k)
       ·rw[aaH];show L.length+1≤16384;omega
      ·refine ai (mxL (n:=0+(L.getD a aA).2.length) (by omega) (by decide)) (ai (fun _ _=>rfl) ?_)
       refine ai (mxL (n:=0+(L.getD a aA).2.length+1) (by omega) (by decide)) (ai (aN 1 rfl) ?_)
       refine ai (mxL (n:=L.length+1) (by omega) (by decide)) (ai (aN 1 rfl) ?_)
       refine ei (k+1) (ai (ai rfl rfl) (ai (ai (ai rfl (ai (ai rfl rfl) (ai (ai rfl rfl) (ai (ai (ai (ai (fun _=>rfl) (aM (by omega))) rfl) (ai (ai rfl (ai rfl (ai ?_ ?_))) (ai rfl (ai rfl (ai ?_ ?_))))) (ai (ai rfl (ai ?_ ?_)) trivial))))) rfl) (ai (ai (iL (by omega)) ?_) (iM (by omega)))))
       all_goals rw[e]
       ·rw[aaH];rfl
       ·exact bq L (aF c L a k) (show dR (bI c (L.getD a aA).1 k).1=_ by rw[hcan])
       ·rw[aaH];rfl
       ·exact bn L (aF c L a k) (dz (L.getD a aA).2 k)
       ·rw[aaH];rfl
       ·exact bf L (aF c L a k)
       ·rw[aaH];show L.length+1≤16384;omega
     refine ai ?_ trivial
     refine ai (by show a<L.length;exact hak) ?_
     refine ai (mxL (n:=L.length+1) (by omega) (by decide)) (ai (lt1 rfl) ?_)
     refine fO mixed ay Tryz.func63 rfl rfl ?_
     refine ai rfl ?_
     intro b hb
     refine bF (fun hb0=>?_) (fun hb0=>?_)
     ·have hb1:(L.getD a aA).2.length=0:=hb hb0
      refine ai (ai (by decide) (by decide)) (ai (aN 1 rfl) ?_)
      refine ai (mxL (n:=L.length+1) (by omega) (by decide)) (ai (aN 1 rfl) ?_)
      refine ei (k+1) (ai (ai rfl rfl) (ai (ai (ai rfl (ai (ai rfl rfl) (ai (ai rfl rfl) (ai (ai (ai (ai (fun _=>rfl) (aM (by omega))) rfl) (ai (ai rfl (ai rfl (ai ?_ ?_))) (ai rfl (ai rfl (ai ?_ ?_))))) (ai (ai rfl (ai ?_ ?_)) trivial))))) rfl) (ai (ai (iL (by omega)) ?_) (iM (by omega)))))
      all_goals rw[e]
      ·rw[aaH];rfl
      ·exact bq L (aF c L a k) (show dR (bI c (L.getD a aA).1 k).1=_ by rw[hcan])
      ·rw[aaH];rfl
      ·exact bn L (aF c L a k) (dQ hb1 k)
      ·rw[aaH];rfl
      ·exact bf L (aF c L a k)
      ·rw[aaH];show L.length+1≤16384;omega
     ·refine ai (mxL (n:=0+(L.getD a aA).2.length) (by omega) (by decide)) (ai (fun _ _=>rfl) ?_)
      refine ai (mxL (n:=0+(L.getD a aA).2.length+1) (by omega) (by decide)) (ai (aN 1 rfl) ?_)
      refine ai (mxL (n:=L.length+1) (by omega) (by decide)) (ai (aN 1 rfl) ?_)
      refine ei (k+1) (ai (ai rfl rfl) (ai (ai (ai rfl (ai (ai rfl rfl) (ai (ai rfl rfl) (ai (ai (ai (ai (fun _=>rfl) (aM (by omega))) rfl) (ai (ai rfl (ai rfl (ai ?_ ?_))) (ai rfl (ai rfl (ai ?_ ?_))))) (ai (ai rfl (ai ?_ ?_)) trivial))))) rfl) (ai (ai (iL (by omega)) ?_) (iM (by omega)))))
      all_goals rw[e]
      ·rw[aaH];rfl
      ·exact bq L (aF c L a k) (show dR (bI c (L.getD a aA).1 k).1=_ by rw[hcan])
      ·rw[aaH];rfl
      ·exact bn L (aF c L a k) (dz (L.getD a aA).2 k)
      ·rw[aaH];rfl
      ·exact bf L (aF c L a k)
      ·rw[aaH];show L.length+1≤16384;omega
    refine ai ?_ trivial
    refine ai (by show a<L.length;exact hak) ?_
    refine ai (mxL (n:=L.length+1) (by omega) (by decide)) (ai (lt1 rfl) ?_)
    refine fO mixed ay Tryz.func63 rfl rfl ?_
    refine ai rfl ?_
    intro b hb
    refine bF (fun hb0=>?_) (fun hb0=>?_)
    ·have hb1:(L.getD a aA).2.length=0:=hb hb0
     refine ai (ai (by decide) (by decide)) (ai (aN 1 rfl) ?_)
     refine ai (mxL (n:=L.length+1) (by omega) (by decide)) (ai (aN 1 rfl) ?_)
     refine ei (k+1) (ai (ai rfl rfl) (ai (ai (ai rfl (ai (ai rfl rfl) (ai (ai rfl rfl) (ai (ai (ai (ai (fun _=>rfl) (aM (by omega))) rfl) (ai (ai rfl (ai rfl (ai ?_ ?_))) (ai rfl (ai rfl (ai ?_ ?_))))) (ai (ai rfl (ai ?_ ?_)) trivial))))) rfl) (ai (ai (iL (by omega)) ?_) (iM (by omega)))))
     all_goals rw[e]
     ·rw[aaH];rfl
     ·exact bq L (aF c L a k) (show dR (bI c (L.getD a aA).1 k).1=_ by rw[hcan])
     ·rw[aaH];rfl
     ·exact bn L (aF c L a k) (dQ hb1 k)
     ·rw[aaH];rfl
     ·exact bf L (aF c L a k)
     ·rw[aaH];show L.length+1≤16384;omega
    ·refine ai (mxL (n:=0+(L.getD a aA).2.length) (by omega) (by decide)) (ai (fun _ _=>rfl) ?_)
     refine ai (mxL (n:=0+(L.getD a aA).2.length+1) (by omega) (by decide)) (ai (aN 1 rfl) ?_)
     refine ai (mxL (n:=L.length+1) (by omega) (by decide)) (ai (aN 1 rfl) ?_)
     refine ei (k+1) (ai (ai rfl rfl) (ai (ai (ai rfl (ai (ai rfl rfl) (ai (ai rfl rfl) (ai (ai (ai (ai (fun _=>rfl) (aM (by omega))) rfl) (ai (ai rfl (ai rfl (ai ?_ ?_))) (ai rfl (ai rfl (ai ?_ ?_))))) (ai (ai rfl (ai ?_ ?_)) trivial))))) rfl) (ai (ai (iL (by omega)) ?_) (iM (by omega)))))
     all_goals rw[e]
     ·rw[aaH];rfl
     ·exact bq L (aF c L a k) (show dR (bI c (L.getD a aA).1 k).1=_ by rw[hcan])
     ·rw[aaH];rfl
     ·exact bn L (aF c L a k) (dz (L.getD a aA).2 k)
     ·rw[aaH];rfl
     ·exact bf L (aF c L a k)
     ·rw[aaH];show L.length+1≤16384;omega
   ·refine ei _ (ai (aaM) (ei ((c,(L.getD a aA).1,k)) (ei [] (ai (a4 (ai (fun _=>Or.inl rfl) (ai nof (Or.inl rfl)))) (ai (by exact (ai (ai rfl (ai (ai rfl (fun _ _=>rfl)) (ai (ai rfl (fun _ _=>rfl)) (ai rfl (fun _ _=>rfl))))) (ai (ai rfl (fun _ _=>rfl)) rfl))) (ai trivial (ai (⟨hc,ho,hga.1,h2⟩) ?_)))))))
    refine aZ (b:=!(bI c (L.getD a aA).1 k).2) rfl (fun h3=>?_) (fun h3=>?_)
    ·have h3:allM (L.getD a aA).1 (yX c k).fr=false:=by
      have h3:(bI c (L.getD a aA).1 k).2=false:=by simpa using h3
      unfold bI at h3
      split at h3
      ·cases h3
      ·rename_i h;exact ar2.2 h
     have e:fU c l a (k+1)=L:=by rw[hst];unfold lI adds;rw[h3];simp
     refine ei (k+1) (ai (ai rfl rfl) (ai (ai (ai rfl (ai (ai rfl rfl) (ai (ai rfl rfl) (ai (ai (ai (ai (fun _=>rfl) (aM (by omega))) rfl) (ai (ai rfl (ai rfl (ai ?_ ?_))) (ai rfl (ai rfl (ai ?_ ?_))))) (ai (ai rfl (ai ?_ ?_)) trivial))))) rfl) (ai (ai (iL (by omega)) ?_) (iM (by omega)))))
     all_goals rw[e]
     ·exact fun _ _=>rfl
     ·exact fun k _=>cB.rfl' _
     ·exact fun _=>rfl
     ·exact hkl
    have h3:allM (L.getD a aA).1 (yX c k).fr=true:=by
     have h3:(bI c (L.getD a aA).1 k).2=true:=by simpa using h3
     unfold bI at h3
     split at h3
     ·assumption
     ·cases h3
    have hcan:(bI c (L.getD a aA).1 k).1=(aF c L a k).1:=by unfold bI;exact congrArg Prod.fst (if_pos h3)
    have hkey:∀q,q<24→gT (bI c (L.getD a aA).1 k).1 q=.val (.bool ((dF (aF c L a k).1).getD q false)):=fun q _=>by rw[hcan,uj];rfl
    refine ai (ai rfl rfl) (ei (dF (aF c L a k).1) (ai (ai (oP (by omega)) hkey) ?_))
    refine ei (bP (rY L (aF c L a k).1)) (ei (rY L (aF c L a k).1) (ai ?_ ?_))
    ·show (∀d',ze L (.bools (dF (aF c L a k).1))=some d'→_)∧(ze L (.bools (dF (aF c L a k).1))=none→_)
     rw[adL hln]
     cases rY L (aF c L a k).1
     ·exact ⟨fun d' h=>by simp at h,fun _=>⟨rfl,rfl⟩⟩
     ·exact ⟨fun d' h=>by simp at h;exact ⟨h.symm,rfl⟩,fun h=>by simp at h⟩
    refine aZ (b:=rY L (aF c L a k).1) rfl (fun h4=>?_) (fun h4=>?_)
    ·have e:fU c l a (k+1)=L:=by rw[hst];unfold lI adds;rw[h4];simp
     refine ei (k+1) (ai (ai rfl rfl) (ai (ai (ai rfl (ai (ai rfl rfl) (ai (ai rfl rfl) (ai (ai (ai (ai (fun _=>rfl) (aM (by omega))) rfl) (ai (ai rfl (ai rfl (ai ?_ ?_))) (ai rfl (ai rfl (ai ?_ ?_))))) (ai (ai rfl (ai ?_ ?_)) trivial))))) rfl) (ai (ai (iL (by omega)) ?_) (iM (by omega)))))
     all_goals rw[e]
     ·exact fun _ _=>rfl
     ·exact fun k _=>cB.rfl' _
     ·exact fun _=>rfl
     ·exact hkl
    have hn:adds c L a k=true:=by unfold adds;rw[h3,h4];rfl
    have e:fU c l a (k+1)=L++[aF c L a k]:=by rw[hst];unfold lI;rw[if_pos hn]
    refine ah (p:=L.length=16384) (bC (by omega)) (fun h5=>?_) (fun h5=>?_)
    ·refine ai (ai (fun h=>absurd (show false=true from h) (by decide)) ?_) trivial
     show au _ (xq c)
     rw[xq,hrun (by rw[e,aaH];show 16384<L.length+1;omega)]
     exact (ai rfl (ai rfl rfl))
    refine ai rfl (ei (dF (aF c L a k).1) (ai (ai (oP (by omega)) hkey) ?_))
    refine ei (L.length+1) (ai (ai (fun _=>rfl) (fun d hd=>absurd ((agW hln h4).symm.trans hd) (by simp))) ?_)
    refine ei (.one 0 (.one 1 (.one 4 (.one 5 (.one 6 (.one 7 (.one 10 (.alt 2 (.alt 3 (.one 8 (.altw 9 (.one 11 (.one 12 (.one 13 (.one 14 (.one 15 (.one 16 .done)))))) (.alt 11 (.wr 9 (.one 12 (.one 13 (.one 14 (.one 15 (.one 16 .done)))))) .stop))) (.alt 8 (.alt 3 (.altw 9 (.one 11 (.one 12 (.one 13 (.one 14 (.one 15 (.one 16 .done)))))) (.alt 11 (.wr 9 (.one 12 (.one 13 (.one 14 (.one 15 (.one 16 .done)))))) .stop)) (.alt 11 (.one 3 (.wr 9 (.one 12 (.one 13 (.one 14 (.one 15 (.one 16 .done))))))) .stop)) (.alt 11 (.alt 3 (.one 8 (.wr 9 (.one 12 (.one 13 (.one 14 (.one 15 (.one 16 .done))))))) (.alt 8 (.one 3 (.wr 9 (.one 12 (.one 13 (.one 14 (.one 15 (.one 16 .done))))))) .stop)) .stop))) (.alt 8 (.alt 2 (.alt 3 (.altw 9 (.one 11 (.one 12 (.one 13 (.one 14 (.one 15 (.one 16 .done)))))) (.alt 11 (.wr 9 (.one 12 (.one 13 (.one 14 (.one 15 (.one 16 .done)))))) .stop)) (.alt 11 (.one 3 (.wr 9 (.one 12 (.one 13 (.one 14 (.one 15 (.one 16 .done))))))) .stop)) (.alt 11 (.one 2 (.one 3 (.wr 9 (.one 12 (.one 13 (.one 14 (.one 15 (.one 16 .done)))))))) .stop)) (.alt 11 (.alt 2 (.alt 3 (.one 8 (.wr 9 (.one 12 (.one 13 (.one 14 (.one 15 (.one 16 .done))))))) (.alt 8 (.one 3 (.wr 9 (.one 12 (.one 13 (.one 14 (.one 15 (.one 16 .done))))))) .stop)) (.alt 8 (.one 2 (.one 3 (.wr 9 (.one 12 (.one 13 (.one 14 (.one 15 (.one 16 .done)))))))) .stop)) .stop)))))))))) (ai (by kernel_rfl) ?_)
    refine ai (ai (abr _) (by show (a:Int)<(L.length:Int);omega)) ?_
    refine ai ?_ ?_
    ·refine ai ?_ ?_
     ·refine ai (mxL (n:=L.length+1) (by omega) (by decide)) (ai (lt1 rfl) ?_)
      refine ai (by show a<L.length;exact hak) ?_
      refine ai ?_ ?_
      ·refine fO mixed ay Tryz.func63 rfl rfl ?_
       refine ai rfl ?_
       intro b hb
       refine bF (fun hb0=>?_) (fun hb0=>?_)
       ·have hb1:(L.getD a aA).2.length=0:=hb hb0
        refine ai (ai (by decide) (by decide)) (ai (aN 1 rfl) ?_)
        refine ai (mxL (n:=L.length+1) (by omega) (by decide)) (ai (aN 1 rfl) ?_)
        refine ei (k+1) (ai (ai rfl rfl) (ai (ai (ai rfl (ai (ai rfl rfl) (ai (ai rfl rfl) (ai (ai (ai (ai (fun _=>rfl) (aM (by omega))) rfl) (ai (ai rfl (ai rfl (ai ?_ ?_))) (ai rfl (ai rfl (ai ?_ ?_))))) (ai (ai rfl (ai ?_ ?_)) trivial))))) rfl) (ai (ai (iL (by omega)) ?_) (iM (by omega)))))
        all_goals rw[e]
        ·rw[aaH];rfl
        ·exact bq L (aF c L a k) (show dR (bI c (L.getD a aA).1 k).1=_ by rw[hcan])
        ·rw[aaH];rfl
        ·exact bn L (aF c L a k) (dQ hb1 k)
        ·rw[aaH];rfl
        ·exact bf L (aF c L a k)
        ·rw[aaH];show L.length+1≤16384;omega
       ·refine ai (mxL (n:=0+(L.getD a aA).2.length) (by omega) (by decide)) (ai (fun _ _=>rfl) ?_)
        refine ai (mxL (n:=0+(L.getD a aA).2.length+1) (by omega) (by decide)) (ai (aN 1 rfl) ?_)
        refine ai (mxL (n:=L.length+1) (by omega) (by decide)) (ai (aN 1 rfl) ?_)
        refine ei (k+1) (ai (ai rfl rfl) (ai (ai (ai rfl (ai (ai rfl rfl) (ai (ai rfl rfl) (ai (ai (ai (ai (fun _=>rfl) (aM (by omega))) rfl) (ai (ai rfl (ai rfl (ai ?_ ?_))) (ai rfl (ai rfl (ai ?_ ?_))))) (ai (ai rfl (ai ?_ ?_)) trivial))))) rfl) (ai (ai (iL (by omega)) ?_) (iM (by omega)))))
        all_goals rw[e]
        ·rw[aaH];rfl
        ·exact bq L (aF c L a k) (show dR (bI c (L.getD a aA).1 k).1=_ by rw[hcan])
        ·rw[aaH];rfl
        ·exact bn L (aF c L a k) (dz (L.getD a aA).2 k)
        ·rw[aaH];rfl
        ·exact bf L (aF c L a k)
        ·rw[aaH];show L.length+1≤16384;omega
      refine ai ?_ trivial
      refine fO mixed ay Tryz.func63 rfl rfl ?_
      refine ai rfl ?_
      intro b hb
      refine bF (fun hb0=>?_) (fun hb0=>?_)
      ·have hb1:(L.getD a aA).2.length=0:=hb hb0
       refine ai (ai (by decide) (by decide)) (ai (aN 1 rfl) ?_)
       refine ai (mxL (n:=L.length+1) (by omega) (by decide)) (ai (aN 1 rfl) ?_)
       refine ei (k+1) (ai (ai rfl rfl) (ai (ai (ai rfl (ai (ai rfl rfl) (ai (ai rfl rfl) (ai (ai (ai (ai (fun _=>rfl) (aM (by omega))) rfl) (ai (ai rfl (ai rfl (ai ?_ ?_))) (ai rfl (ai rfl (ai ?_ ?_))))) (ai (ai rfl (ai ?_ ?_)) trivial))))) rfl) (ai (ai (iL (by omega)) ?_) (iM (by omega)))))
       all_goals rw[e]
       ·rw[aaH];rfl
       ·exact bq L (aF c L a k) (show dR (bI c (L.getD a aA).1 k).1=_ by rw[hcan])
       ·rw[aaH];rfl
       ·exact bn L (aF c L a k) (dQ hb1 k)
       ·rw[aaH];rfl
       ·exact bf L (aF c L a k)
       ·rw[aaH];show L.length+1≤16384;omega
      ·refine ai (mxL (n:=0+(L.getD a aA).2.length) (by omega) (by decide)) (ai (fun _ _=>rfl) ?_)
       refine ai (mxL (n:=0+(L.getD a aA).2.length+1) (by omega) (by decide)) (ai (aN 1 rfl) ?_)
       refine ai (mxL (n:=L.length+1) (by omega) (by decide)) (ai (aN 1 rfl) ?_)
       refine ei (k+1) (ai (ai rfl rfl) (ai (ai (ai rfl (ai (ai rfl rfl) (ai (ai rfl rfl) (ai (ai (ai (ai (fun _=>rfl) (aM (by omega))) rfl) (ai (ai rfl (ai rfl (ai ?_ ?_))) (ai rfl (ai rfl (ai ?_ ?_))))) (ai (ai rfl (ai ?_ ?_)) trivial))))) rfl) (ai (ai (iL (by omega)) ?_) (iM (by omega)))))
       all_goals rw[e]
       ·rw[aaH];rfl
       ·exact bq L (aF c L a k) (show dR (bI c (L.getD a aA).1 k).1=_ by rw[hcan])
       ·rw[aaH];rfl
       ·exact bn L (aF c L a k) (dz (L.getD a aA).2 k)
       ·rw[aaH];rfl
       ·exact bf L (aF c L a k)
       ·rw[aaH];show L.length+1≤16384;omega
     refine ai ?_ ?_
     ·refine ai (by show a<L.length;exact hak) ?_
      refine ai ?_ ?_
      ·refine ai (mxL (n:=L.length+1) (by omega) (by decide)) (ai (lt1 rfl) ?_)
       refine ai ?_ ?_
       ·refine fO mixed ay Tryz.func63 rfl rfl ?_
        refine ai rfl ?_
        intro b hb
        refine bF (fun hb0=>?_) (fun hb0=>?_)
        ·have hb1:(L.getD a aA).2.length=0:=hb hb0
         refine ai (ai (by decide) (by decide)) (ai (aN 1 rfl) ?_)
         refine ai (mxL (n:=L.length+1) (by omega) (by decide)) (ai (aN 1 rfl) ?_)
         refine ei (k+1) (ai (ai rfl rfl) (ai (ai (ai rfl (ai (ai rfl rfl) (ai (ai rfl rfl) (ai (ai (ai (ai (fun _=>rfl) (aM (by omega))) rfl) (ai (ai rfl (ai rfl (ai ?_ ?_))) (ai rfl (ai rfl (ai ?_ ?_))))) (ai (ai rfl (ai ?_ ?_)) trivial))))) rfl) (ai (ai (iL (by omega)) ?_) (iM (by omega)))))
         all_goals rw[e]
         ·rw[aaH];rfl
         ·exact bq L (aF c L a k) (show dR (bI c (L.getD a aA).1 k).1=_ by rw[hcan])
         ·rw[aaH];rfl
         ·exact bn L (aF c L a k) (dQ hb1 k)
         ·rw[aaH];rfl
         ·exact bf L (aF c L a k)
         ·rw[aaH];show L.length+1≤16384;omega
        ·refine ai (mxL (n:=0+(L.getD a aA).2.length) (by omega) (by decide)) (ai (fun _ _=>rfl) ?_)
         refine ai (mxL (n:=0+(L.getD a aA).2.length+1) (by omega) (by decide)) (ai (aN 1 rfl) ?_)
         refine ai (mxL (n:=L.length+1) (by omega) (by decide)) (ai (aN 1 rfl) ?_)
         refine ei (k+1) (ai (ai rfl rfl) (ai (ai (ai rfl (ai (ai rfl rfl) (ai (ai rfl rfl) (ai (ai (ai (ai (fun _=>rfl) (aM (by omega))) rfl) (ai (ai rfl (ai rfl (ai ?_ ?_))) (ai rfl (ai rfl (ai ?_ ?_))))) (ai (ai rfl (ai ?_ ?_)) trivial))))) rfl) (ai (ai (iL (by omega)) ?_) (iM (by omega)))))
         all_goals rw[e]
         ·rw[aaH];rfl
         ·exact bq L (aF c L a k) (show dR (bI c (L.getD a aA).1 k).1=_ by rw[hcan])
         ·rw[aaH];rfl
         ·exact bn L (aF c L a k) (dz (L.getD a aA).2 k)
         ·rw[aaH];rfl
         ·exact bf L (aF c L a k)
         ·rw[aaH];show L.length+1≤16384;omega
       refine ai ?_ trivial
       refine fO mixed ay Tryz.func63 rfl rfl ?_
       refine ai rfl ?_
       intro b hb
       refine bF (fun hb0=>?_) (fun hb0=>?_)
       ·have hb1:(L.getD a aA).2.length=0:=hb hb0
        refine ai (ai (by decide) (by decide)) (ai (aN 1 rfl) ?_)
        refine ai (mxL (n:=L.length+1) (by omega) (by decide)) (ai (aN 1 rfl) ?_)
        refine ei (k+1) (ai (ai rfl rfl) (ai (ai (ai rfl (ai (ai rfl rfl) (ai (ai rfl rfl) (ai (ai (ai (ai (fun _=>rfl) (aM (by omega))) rfl) (ai (ai rfl (ai rfl (ai ?_ ?_))) (ai rfl (ai rfl (ai ?_ ?_))))) (ai (ai rfl (ai ?_ ?_)) trivial))))) rfl) (ai (ai (iL (by omega)) ?_) (iM (by omega)))))
        all_goals rw[e]
        ·rw[aaH];rfl
        ·exact bq L (aF c L a k) (show dR (bI c (L.getD a aA).1 k).1=_ by rw[hcan])
        ·rw[aaH];rfl
        ·exact bn L (aF c L a k) (dQ hb1 k)
        ·rw[aaH];rfl
        ·exact bf L (aF c L a k)
        ·rw[aaH];show L.length+1≤16384;omega
       ·refine ai (mxL (n:=0+(L.getD a aA).2.length) (by omega) (by decide)) (ai (fun _ _=>rfl) ?_)
        refine ai (mxL (n:=0+(L.getD a aA).2.length+1) (by omega) (by decide)) (ai (aN 1 rfl) ?_)
        refine ai (mxL (n:=L.length+1) (by omega) (by decide)) (ai (aN 1 rfl) ?_)
        refine ei (k+1) (ai (ai rfl rfl) (ai (ai (ai rfl (ai (ai rfl rfl) (ai (ai rfl rfl) (ai (ai (ai (ai (fun _=>rfl) (aM (by omega))) rfl) (ai (ai rfl (ai rfl (ai ?_ ?_))) (ai rfl (ai rfl (ai ?_ ?_))))) (ai (ai rfl (ai ?_ ?_)) trivial))))) rfl) (ai (ai (iL (by omega)) ?_) (iM (by omega)))))
        all_goals rw[e]
        ·rw[aaH];rfl
        ·exact bq L (aF c L a k) (show dR (bI c (L.getD a aA).1 k).1=_ by rw[hcan])
        ·rw[aaH];rfl
        ·exact bn L (aF c L a k) (dz (L.getD a aA).2 k)
        ·rw[aaH];rfl
        ·exact bf L (aF c L a k)
        ·rw[aaH];show L.length+1≤16384;omega
      refine ai ?_ trivial
      refine ai (mxL (n:=L.length+1) (by omega) (by decide)) (ai (lt1 rfl) ?_)
      refine fO mixed ay Tryz.func63 rfl rfl ?_
      refine ai rfl ?_
      intro b hb
      refine bF (fun hb0=>?_) (fun hb0=>?_)
      ·have hb1:(L.getD a aA).2.length=0:=hb hb0
       refine ai (ai (by decide) (by decide)) (ai (aN 1 rfl) ?_)
       refine ai (mxL (n:=L.length+1) (by omega) (by decide)) (ai (aN 1 rfl) ?_)
       refine ei (k+1) (ai (ai rfl rfl) (ai (ai (ai rfl (ai (ai rfl rfl) (ai (ai rfl rfl) (ai (ai (ai (ai (fun _=>rfl) (aM (by omega))) rfl) (ai (ai rfl (ai rfl (ai ?_ ?_))) (ai rfl (ai rfl (ai ?_ ?_))))) (ai (ai rfl (ai ?_ ?_)) trivial))))) rfl) (ai (ai (iL (by omega)) ?_) (iM (by omega)))))
       all_goals rw[e]
       ·rw[aaH];rfl
       ·exact bq L (aF c L a k) (show dR (bI c (L.getD a aA).1 k).1=_ by rw[hcan])
       ·rw[aaH];rfl
       ·exact bn L (aF c L a k) (dQ hb1 k)
       ·rw[aaH];rfl
       ·exact bf L (aF c L a k)
       ·rw[aaH];show L.length+1≤16384;omega
      ·refine ai (mxL (n:=0+(L.getD a aA).2.length) (by omega) (by decide)) (ai (fun _ _=>rfl) ?_)
       refine ai (mxL (n:=0+(L.getD a aA).2.length+1) (by omega) (by decide)) (ai (aN 1 rfl) ?_)
       refine ai (mxL (n:=L.length+1) (by omega) (by decide)) (ai (aN 1 rfl) ?_)
       refine ei (k+1) (ai (ai rfl rfl) (ai (ai (ai rfl (ai (ai rfl rfl) (ai (ai rfl rfl) (ai (ai (ai (ai (fun _=>rfl) (aM (by omega))) rfl) (ai (ai rfl (ai rfl (ai ?_ ?_))) (ai rfl (ai rfl (ai ?_ ?_))))) (ai (ai rfl (ai ?_ ?_)) trivial))))) rfl) (ai (ai (iL (by omega)) ?_) (iM (by omega)))))
       all_goals rw[e]
       ·rw[aaH];rfl
       ·exact bq L (aF c L a k) (show dR (bI c (L.getD a aA).1 k).1=_ by rw[hcan])
       ·rw[aaH];rfl
       ·exact bn L (aF c L a k) (dz (L.getD a aA).2 k)
       ·rw[aaH];rfl
       ·exact bf L (aF c L a k)
       ·rw[aaH];show L.length+1≤16384;omega
     refine ai ?_ trivial
     refine ai ?_ ?_
     ·refine ai (mxL (n:=L.length+1) (by omega) (by decide)) (ai (lt1 rfl) ?_)
      refine ai (by show a<L.length;exact hak) ?_
      refine fO mixed ay Tryz.func63 rfl rfl ?_
      refine ai rfl ?_
      intro b hb
      refine bF (fun hb0=>?_) (fun hb0=>?_)
      ·have hb1:(L.getD a aA).2.length=0:=hb hb0
       refine ai (ai (by decide) (by decide)) (ai (aN 1 rfl) ?_)
       refine ai (mxL (n:=L.length+1) (by omega) (by decide)) (ai (aN 1 rfl) ?_)
       refine ei (k+1) (ai (ai rfl rfl) (ai (ai (ai rfl (ai (ai rfl rfl) (ai (ai rfl rfl) (ai (ai (ai (ai (fun _=>rfl) (aM (by omega))) rfl) (ai (ai rfl (ai rfl (ai ?_ ?_))) (ai rfl (ai rfl (ai ?_ ?_))))) (ai (ai rfl (ai ?_ ?_)) trivial))))) rfl) (ai (ai (iL (by omega)) ?_) (iM (by omega)))))
       all_goals rw[e]
       ·rw[aaH];rfl
       ·exact bq L (aF c L a k) (show dR (bI c (L.getD a aA).1 k).1=_ by rw[hcan])
       ·rw[aaH];rfl
       ·exact bn L (aF c L a k) (dQ hb1 k)
       ·rw[aaH];rfl
       ·exact bf L (aF c L a k)
       ·rw[aaH];show L.length+1≤16384;omega
      ·refine ai (mxL (n:=0+(L.getD a aA).2.length) (by omega) (by decide)) (ai (fun _ _=>rfl) ?_)
       refine ai (mxL (n:=0+(L.getD a aA).2.length+1) (by omega) (by decide)) (ai (aN 1 rfl) ?_)
       refine ai (mxL (n:=L.length+1) (by omega) (by decide)) (ai (aN 1 rfl) ?_)
       refine ei (k+1) (ai (ai rfl rfl) (ai (ai (ai rfl (ai (ai rfl rfl) (ai (ai rfl rfl) (ai (ai (ai (ai (fun _=>rfl) (aM (by omega))) rfl) (ai (ai rfl (ai rfl (ai ?_ ?_))) (ai rfl (ai rfl (ai ?_ ?_))))) (ai (ai rfl (ai ?_ ?_)) trivial))))) rfl) (ai (ai (iL (by omega)) ?_) (iM (by omega)))))
       all_goals rw[e]
       ·rw[aaH];rfl
       ·exact bq L (aF c L a k) (show dR (bI c (L.getD a aA).1 k).1=_ by rw[hcan])
       ·rw[aaH];rfl
       ·exact bn L (aF c L a k) (dz (L.getD a aA).2 k)
       ·rw[aaH];rfl
       ·exact bf L (aF c L a k)
       ·rw[aaH];show L.length+1≤16384;omega
     refine ai ?_ trivial
     refine ai (by show a<L.length;exact hak) ?_
     refine ai (mxL (n:=L.length+1) (by omega) (by decide)) (ai (lt1 rfl) ?_)
     refine fO mixed ay Tryz.func63 rfl rfl ?_
     refine ai rfl ?_
     intro b hb
     refine bF (fun hb0=>?_) (fun hb0=>?_)
     ·have hb1:(L.getD a aA).2.length=0:=hb hb0
      refine ai (ai (by decide) (by decide)) (ai (aN 1 rfl) ?_)
      refine ai (mxL (n:=L.length+1) (by omega) (by decide)) (ai (aN 1 rfl) ?_)
      refine ei (k+1) (ai (ai rfl rfl) (ai (ai (ai rfl (ai (ai rfl rfl) (ai (ai rfl rfl) (ai (ai (ai (ai (fun _=>rfl) (aM (by omega))) rfl) (ai (ai rfl (ai rfl (ai ?_ ?_))) (ai rfl (ai rfl (ai ?_ ?_))))) (ai (ai rfl (ai ?_ ?_)) trivial))))) rfl) (ai (ai (iL (by omega)) ?_) (iM (by omega)))))
      all_goals rw[e]
      ·rw[aaH];rfl
      ·exact bq L (aF c L a k) (show dR (bI c (L.getD a aA).1 k).1=_ by rw[hcan])
      ·rw[aaH];rfl
      ·exact bn L (aF c L a k) (dQ hb1 k)
      ·rw[aaH];rfl
      ·exact bf L (aF c L a k)
      ·rw[aaH];show L.length+1≤16384;omega
     ·refine ai (mxL (n:=0+(L.getD a aA).2.length) (by omega) (by decide)) (ai (fun _ _=>rfl) ?_)
      refine ai (mxL (n:=0+(L.getD a aA).2.length+1) (by omega) (by decide)) (ai (aN 1 rfl) ?_)
      refine ai (mxL (n:=L.length+1) (by omega) (by decide)) (ai (aN 1 rfl) ?_)
      refine ei (k+1) (ai (ai rfl rfl) (ai (ai (ai rfl (ai (ai rfl rfl) (ai (ai rfl rfl) (ai (ai (ai (ai (fun _=>rfl) (aM (by omega))) rfl) (ai (ai rfl (ai rfl (ai ?_ ?_))) (ai rfl (ai rfl (ai ?_ ?_))))) (ai (ai rfl (ai ?_ ?_)) trivial))))) rfl) (ai (ai (iL (by omega)) ?_) (iM (by omega)))))
      all_goals rw[e]
      ·rw[aaH];rfl
      ·exact bq L (aF c L a k) (show dR (bI c (L.getD a aA).1 k).1=_ by rw[hcan])
      ·rw[aaH];rfl
      ·exact bn L (aF c L a k) (dz (L.getD a aA).2 k)
      ·rw[aaH];rfl
      ·exact bf L (aF c L a k)
      ·rw[aaH];show L.length+1≤16384;omega
    refine ai ?_ ?_
    ·refine ai (by show a<L.length;exact hak) ?_
     refine ai ?_ ?_
     ·refine ai ?_ ?_
      ·refine ai (mxL (n:=L.length+1) (by omega) (by decide)) (ai (lt1 rfl) ?_)
       refine ai ?_ ?_
       ·refine fO mixed ay Tryz.func63 rfl rfl ?_
        refine ai rfl ?_
        intro b hb
        refine bF (fun hb0=>?_) (fun hb0=>?_)
        ·have hb1:(L.getD a aA).2.length=0:=hb hb0
         refine ai (ai (by decide) (by decide)) (ai (aN 1 rfl) ?_)
         refine ai (mxL (n:=L.length+1) (by omega) (by decide)) (ai (aN 1 rfl) ?_)
         refine ei (k+1) (ai (ai rfl rfl) (ai (ai (ai rfl (ai (ai rfl rfl) (ai (ai rfl rfl) (ai (ai (ai (ai (fun _=>rfl) (aM (by omega))) rfl) (ai (ai rfl (ai rfl (ai ?_ ?_))) (ai rfl (ai rfl (ai ?_ ?_))))) (ai (ai rfl (ai ?_ ?_)) trivial))))) rfl) (ai (ai (iL (by omega)) ?_) (iM (by omega)))))
         all_goals rw[e]
         ·rw[aaH];rfl
         ·exact bq L (aF c L a k) (show dR (bI c (L.getD a aA).1 k).1=_ by rw[hcan])
         ·rw[aaH];rfl
         ·exact bn L (aF c L a k) (dQ hb1 k)
         ·rw[aaH];rfl
         ·exact bf L (aF c L a k)
         ·rw[aaH];show L.length+1≤16384;omega
        ·refine ai (mxL (n:=0+(L.getD a aA).2.length) (by omega) (by decide)) (ai (fun _ _=>rfl) ?_)
         refine ai (mxL (n:=0+(L.getD a aA).2.length+1) (by omega) (by decide)) (ai (aN 1 rfl) ?_)
         refine ai (mxL (n:=L.length+1) (by omega) (by decide)) (ai (aN 1 rfl) ?_)
         refine ei (k+1) (ai (ai rfl rfl) (ai (ai (ai rfl (ai (ai rfl rfl) (ai (ai rfl rfl) (ai (ai (ai (ai (fun _=>rfl) (aM (by omega))) rfl) (ai (ai rfl (ai rfl (ai ?_ ?_))) (ai rfl (ai rfl (ai ?_ ?_))))) (ai (ai rfl (ai ?_ ?_)) trivial))))) rfl) (ai (ai (iL (by omega)) ?_) (iM (by omega)))))
         all_goals rw[e]
         ·rw[aaH];rfl
         ·exact bq L (aF c L a k) (show dR (bI c (L.getD a aA).1 k).1=_ by rw[hcan])
         ·rw[aaH];rfl
         ·exact bn L (aF c L a k) (dz (L.getD a aA).2 k)
         ·rw[aaH];rfl
         ·exact bf L (aF c L a k)
         ·rw[aaH];show L.length+1≤16384;omega
       refine ai ?_ trivial
       refine fO mixed ay Tryz.func63 rfl rfl ?_
       refine ai rfl ?_
       intro b hb
       refine bF (fun hb0=>?_) (fun hb0=>?_)
       ·have hb1:(L.getD a aA).2.length=0:=hb hb0
        refine ai (ai (by decide) (by decide)) (ai (aN 1 rfl) ?_)
        refine ai (mxL (n:=L.length+1) (by omega) (by decide)) (ai (aN 1 rfl) ?_)
        refine ei (k+1) (ai (ai rfl rfl) (ai (ai (ai rfl (ai (ai rfl rfl) (ai (ai rfl rfl) (ai (ai (ai (ai (fun _=>rfl) (aM (by omega))) rfl) (ai (ai rfl (ai rfl (ai ?_ ?_))) (ai rfl (ai rfl (ai ?_ ?_))))) (ai (ai rfl (ai ?_ ?_)) trivial))))) rfl) (ai (ai (iL (by omega)) ?_) (iM (by omega)))))
        all_goals rw[e]
        ·rw[aaH];rfl
        ·exact bq L (aF c L a k) (show dR (bI c (L.getD a aA).1 k).1=_ by rw[hcan])
        ·rw[aaH];rfl
        ·exact bn L (aF c L a k) (dQ hb1 k)
        ·rw[aaH];rfl
        ·exact bf L (aF c L a k)
        ·rw[aaH];show L.length+1≤16384;omega
       ·refine ai (mxL (n:=0+(L.getD a aA).2.length) (by omega) (by decide)) (ai (fun _ _=>rfl) ?_)
        refine ai (mxL (n:=0+(L.getD a aA).2.length+1) (by omega) (by decide)) (ai (aN 1 rfl) ?_)
        refine ai (mxL (n:=L.length+1) (by omega) (by decide)) (ai (aN 1 rfl) ?_)
        refine ei (k+1) (ai (ai rfl rfl) (ai (ai (ai rfl (ai (ai rfl rfl) (ai (ai rfl rfl) (ai (ai (ai (ai (fun _=>rfl) (aM (by omega))) rfl) (ai (ai rfl (ai rfl (ai ?_ ?_))) (ai rfl (ai rfl (ai ?_ ?_))))) (ai (ai rfl (ai ?_ ?_)) trivial))))) rfl) (ai (ai (iL (by omega)) ?_) (iM (by omega)))))
        all_goals rw[e]
        ·rw[aaH];rfl
        ·exact bq L (aF c L a k) (show dR (bI c (L.getD a aA).1 k).1=_ by rw[hcan])
        ·rw[aaH];rfl
        ·exact bn L (aF c L a k) (dz (L.getD a aA).2 k)
        ·rw[aaH];rfl
        ·exact bf L (aF c L a k)
        ·rw[aaH];show L.length+1≤16384;omega
      refine ai ?_ trivial
      refine ai (mxL (n:=L.length+1) (by omega) (by decide)) (ai (lt1 rfl) ?_)
      refine fO mixed ay Tryz.func63 rfl rfl ?_
      refine ai rfl ?_
      intro b hb
      refine bF (fun hb0=>?_) (fun hb0=>?_)
      ·have hb1:(L.getD a aA).2.length=0:=hb hb0
       refine ai (ai (by decide) (by decide)) (ai (aN 1 rfl) ?_)
       refine ai (mxL (n:=L.length+1) (by omega) (by decide)) (ai (aN 1 rfl) ?_)
       refine ei (k+1) (ai (ai rfl rfl) (ai (ai (ai rfl (ai (ai rfl rfl) (ai (ai rfl rfl) (ai (ai (ai (ai (fun _=>rfl) (aM (by omega))) rfl) (ai (ai rfl (ai rfl (ai ?_ ?_))) (ai rfl (ai rfl (ai ?_ ?_))))) (ai (ai rfl (ai ?_ ?_)) trivial))))) rfl) (ai (ai (iL (by omega)) ?_) (iM (by omega)))))
       all_goals rw[e]
       ·rw[aaH];rfl
       ·exact bq L (aF c L a k) (show dR (bI c (L.getD a aA).1 k).1=_ by rw[hcan])
       ·rw[aaH];rfl
       ·exact bn L (aF c L a k) (dQ hb1 k)
       ·rw[aaH];rfl
       ·exact bf L (aF c L a k)
       ·rw[aaH];show L.length+1≤16384;omega
      ·refine ai (mxL (n:=0+(L.getD a aA).2.length) (by omega) (by decide)) (ai (fun _ _=>rfl) ?_)
       refine ai (mxL (n:=0+(L.getD a aA).2.length+1) (by omega) (by decide)) (ai (aN 1 rfl) ?_)
       refine ai (mxL (n:=L.length+1) (by omega) (by decide)) (ai (aN 1 rfl) ?_)
       refine ei (k+1) (ai (ai rfl rfl) (ai (ai (ai rfl (ai (ai rfl rfl) (ai (ai rfl rfl) (ai (ai (ai (ai (fun _=>rfl) (aM (by omega))) rfl) (ai (ai rfl (ai rfl (ai ?_ ?_))) (ai rfl (ai rfl (ai ?_ ?_))))) (ai (ai rfl (ai ?_ ?_)) trivial))))) rfl) (ai (ai (iL (by omega)) ?_) (iM (by omega)))))
       all_goals rw[e]
       ·rw[aaH];rfl
       ·exact bq L (aF c L a k) (show dR (bI c (L.getD a aA).1 k).1=_ by rw[hcan])
       ·rw[aaH];rfl
       ·exact bn L (aF c L a k) (dz (L.getD a aA).2 k)
       ·rw[aaH];rfl
       ·exact bf L (aF c L a k)
       ·rw[aaH];show L.length+1≤16384;omega
     refine ai ?_ trivial
     refine ai (mxL (n:=L.length+1) (by omega) (by decide)) (ai (lt1 rfl) ?_)
     refine fO mixed ay Tryz.func63 rfl rfl ?_
     refine ai rfl ?_
     intro b hb
     refine bF (fun hb0=>?_) (fun hb0=>?_)
     ·have hb1:(L.getD a aA).2.length=0:=hb hb0
      refine ai (ai (by decide) (by decide)) (ai (aN 1 rfl) ?_)
      refine ai (mxL (n:=L.length+1) (by omega) (by decide)) (ai (aN 1 rfl) ?_)
      refine ei (k+1) (ai (ai rfl rfl) (ai (ai (ai rfl (ai (ai rfl rfl) (ai (ai rfl rfl) (ai (ai (ai (ai (fun _=>rfl) (aM (by omega))) rfl) (ai (ai rfl (ai rfl (ai ?_ ?_))) (ai rfl (ai rfl (ai ?_ ?_))))) (ai (ai rfl (ai ?_ ?_)) trivial))))) rfl) (ai (ai (iL (by omega)) ?_) (iM (by omega)))))
      all_goals rw[e]
      ·rw[aaH];rfl
      ·exact bq L (aF c L a k) (show dR (bI c (L.getD a aA).1 k).1=_ by rw[hcan])
      ·rw[aaH];rfl
      ·exact bn L (aF c L a k) (dQ hb1 k)
      ·rw[aaH];rfl
      ·exact bf L (aF c L a k)
      ·rw[aaH];show L.length+1≤16384;omega
     ·refine ai (mxL (n:=0+(L.getD a aA).2.length) (by omega) (by decide)) (ai (fun _ _=>rfl) ?_)
      refine ai (mxL (n:=0+(L.getD a aA).2.length+1) (by omega) (by decide)) (ai (aN 1 rfl) ?_)
      refine ai (mxL (n:=L.length+1) (by omega) (by decide)) (ai (aN 1 rfl) ?_)
      refine ei (k+1) (ai (ai rfl rfl) (ai (ai (ai rfl (ai (ai rfl rfl) (ai (ai rfl rfl) (ai (ai (ai (ai (fun _=>rfl) (aM (by omega))) rfl) (ai (ai rfl (ai rfl (ai ?_ ?_))) (ai rfl (ai rfl (ai ?_ ?_))))) (ai (ai rfl (ai ?_ ?_)) trivial))))) rfl) (ai (ai (iL (by omega)) ?_) (iM (by omega)))))
      all_goals rw[e]
      ·rw[aaH];rfl
      ·exact bq L (aF c L a k) (show dR (bI c (L.getD a aA).1 k).1=_ by rw[hcan])
      ·rw[aaH];rfl
      ·exact bn L (aF c L a k) (dz (L.getD a aA).2 k)
      ·rw[aaH];rfl
      ·exact bf L (aF c L a k)
      ·rw[aaH];show L.length+1≤16384;omega
    refine ai ?_ trivial
    refine ai ?_ ?_
    ·refine ai ?_ ?_
     ·refine ai (mxL (n:=L.length+1) (by omega) (by decide)) (ai (lt1 rfl) ?_)
      refine ai (by show a<L.length;exact hak) ?_
      refine fO mixed ay Tryz.func63 rfl rfl ?_
      refine ai rfl ?_
      intro b hb
      refine bF (fun hb0=>?_) (fun hb0=>?_)
      ·have hb1:(L.getD a aA).2.length=0:=hb hb0
       refine ai (ai (by decide) (by decide)) (ai (aN 1 rfl) ?_)
       refine ai (mxL (n:=L.length+1) (by omega) (by decide)) (ai (aN 1 rfl) ?_)
       refine ei (k+1) (ai (ai rfl rfl) (ai (ai (ai rfl (ai (ai rfl rfl) (ai (ai rfl rfl) (ai (ai (ai (ai (fun _=>rfl) (aM (by omega))) rfl) (ai (ai rfl (ai rfl (ai ?_ ?_))) (ai rfl (ai rfl (ai ?_ ?_))))) (ai (ai rfl (ai ?_ ?_)) trivial))))) rfl) (ai (ai (iL (by omega)) ?_) (iM (by omega)))))
       all_goals rw[e]
       ·rw[aaH];rfl
       ·exact bq L (aF c L a k) (show dR (bI c (L.getD a aA).1 k).1=_ by rw[hcan])
       ·rw[aaH];rfl
       ·exact bn L (aF c L a k) (dQ hb1 k)
       ·rw[aaH];rfl
       ·exact bf L (aF c L a k)
       ·rw[aaH];show L.length+1≤16384;omega
      ·refine ai (mxL (n:=0+(L.getD a aA).2.length) (by omega) (by decide)) (ai (fun _ _=>rfl) ?_)
       refine ai (mxL (n:=0+(L.getD a aA).2.length+1) (by omega) (by decide)) (ai (aN 1 rfl) ?_)
       refine ai (mxL (n:=L.length+1) (by omega) (by decide)) (ai (aN 1 rfl) ?_)
       refine ei (k+1) (ai (ai rfl rfl) (ai (ai (ai rfl (ai (ai rfl rfl) (ai (ai rfl rfl) (ai (ai (ai (ai (fun _=>rfl) (aM (by omega))) rfl) (ai (ai rfl (ai rfl (ai ?_ ?_))) (ai rfl (ai rfl (ai ?_ ?_))))) (ai (ai rfl (ai ?_ ?_)) trivial))))) rfl) (ai (ai (iL (by omega)) ?_) (iM (by omega)))))
       all_goals rw[e]
       ·rw[aaH];rfl
       ·exact bq L (aF c L a k) (show dR (bI c (L.getD a aA).1 k).1=_ by rw[hcan])
       ·rw[aaH];rfl
       ·exact bn L (aF c L a k) (dz (L.getD a aA).2 k)
       ·rw[aaH];rfl
       ·exact bf L (aF c L a k)
       ·rw[aaH];show L.length+1≤16384;omega
     refine ai ?_ trivial
     refine ai (by show a<L.length;exact hak) ?_
     refine ai (mxL (n:=L.length+1) (by omega) (by decide)) (ai (lt1 rfl) ?_)
     refine fO mixed ay Tryz.func63 rfl rfl ?_
     refine ai rfl ?_
     intro b hb
     refine bF (fun hb0=>?_) (fun hb0=>?_)
     ·have hb1:(L.getD a aA).2.length=0:=hb hb0
      refine ai (ai (by decide) (by decide)) (ai (aN 1 rfl) ?_)
      refine ai (mxL (n:=L.length+1) (by omega) (by decide)) (ai (aN 1 rfl) ?_)
      refine ei (k+1) (ai (ai rfl rfl) (ai (ai (ai rfl (ai (ai rfl rfl) (ai (ai rfl rfl) (ai (ai (ai (ai (fun _=>rfl) (aM (by omega))) rfl) (ai (ai rfl (ai rfl (ai ?_ ?_))) (ai rfl (ai rfl (ai ?_ ?_))))) (ai (ai rfl (ai ?_ ?_)) trivial))))) rfl) (ai (ai (iL (by omega)) ?_) (iM (by omega)))))
      all_goals rw[e]
      ·rw[aaH];rfl
      ·exact bq L (aF c L a k) (show dR (bI c (L.getD a aA).1 k).1=_ by rw[hcan])
      ·rw[aaH];rfl
      ·exact bn L (aF c L a k) (dQ hb1 k)
      ·rw[aaH];rfl
      ·exact bf L (aF c L a k)
      ·rw[aaH];show L.length+1≤16384;omega
     ·refine ai (mxL (n:=0+(L.getD a aA).2.length) (by omega) (by decide)) (ai (fun _ _=>rfl) ?_)
      refine ai (mxL (n:=0+(L.getD a aA).2.length+1) (by omega) (by decide)) (ai (aN 1 rfl) ?_)
      refine ai (mxL (n:=L.length+1) (by omega) (by decide)) (ai (aN 1 rfl) ?_)
      refine ei (k+1) (ai (ai rfl rfl) (ai (ai (ai rfl (ai (ai rfl rfl) (ai (ai rfl rfl) (ai (ai (ai (ai (fun _=>rfl) (aM (by omega))) rfl) (ai (ai rfl (ai rfl (ai ?_ ?_))) (ai rfl (ai rfl (ai ?_ ?_))))) (ai (ai rfl (ai ?_ ?_)) trivial))))) rfl) (ai (ai (iL (by omega)) ?_) (iM (by omega)))))
      all_goals rw[e]
      ·rw[aaH];rfl
      ·exact bq L (aF c L a k) (show dR (bI c (L.getD a aA).1 k).1=_ by rw[hcan])
      ·rw[aaH];rfl
      ·exact bn L (aF c L a k) (dz (L.getD a aA).2 k)
      ·rw[aaH];rfl
      ·exact bf L (aF c L a k)
      ·rw[aaH];show L.length+1≤16384;omega
    refine ai ?_ trivial
    refine ai (by show a<L.length;exact hak) ?_
    refine ai (mxL (n:=L.length+1) (by omega) (by decide)) (ai (lt1 rfl) ?_)
    refine fO mixed ay Tryz.func63 rfl rfl ?_
    refine ai rfl ?_
    intro b hb
    refine bF (fun hb0=>?_) (fun hb0=>?_)
    ·have hb1:(L.getD a aA).2.length=0:=hb hb0
     refine ai (ai (by decide) (by decide)) (ai (aN 1 rfl) ?_)
     refine ai (mxL (n:=L.length+1) (by omega) (by decide)) (ai (aN 1 rfl) ?_)
     refine ei (k+1) (ai (ai rfl rfl) (ai (ai (ai rfl (ai (ai rfl rfl) (ai (ai rfl rfl) (ai (ai (ai (ai (fun _=>rfl) (aM (by omega))) rfl) (ai (ai rfl (ai rfl (ai ?_ ?_))) (ai rfl (ai rfl (ai ?_ ?_))))) (ai (ai rfl (ai ?_ ?_)) trivial))))) rfl) (ai (ai (iL (by omega)) ?_) (iM (by omega)))))
     all_goals rw[e]
     ·rw[aaH];rfl
     ·exact bq L (aF c L a k) (show dR (bI c (L.getD a aA).1 k).1=_ by rw[hcan])
     ·rw[aaH];rfl
     ·exact bn L (aF c L a k) (dQ hb1 k)
     ·rw[aaH];rfl
     ·exact bf L (aF c L a k)
     ·rw[aaH];show L.length+1≤16384;omega
    ·refine ai (mxL (n:=0+(L.getD a aA).2.length) (by omega) (by decide)) (ai (fun _ _=>rfl) ?_)
     refine ai (mxL (n:=0+(L.getD a aA).2.length+1) (by omega) (by decide)) (ai (aN 1 rfl) ?_)
     refine ai (mxL (n:=L.length+1) (by omega) (by decide)) (ai (aN 1 rfl) ?_)
     refine ei (k+1) (ai (ai rfl rfl) (ai (ai (ai rfl (ai (ai rfl rfl) (ai (ai rfl rfl) (ai (ai (ai (ai (fun _=>rfl) (aM (by omega))) rfl) (ai (ai rfl (ai rfl (ai ?_ ?_))) (ai rfl (ai rfl (ai ?_ ?_))))) (ai (ai rfl (ai ?_ ?_)) trivial))))) rfl) (ai (ai (iL (by omega)) ?_) (iM (by omega)))))
     all_goals rw[e]
     ·rw[aaH];rfl
     ·exact bq L (aF c L a k) (show dR (bI c (L.getD a aA).1 k).1=_ by rw[hcan])
     ·rw[aaH];rfl
     ·exact bn L (aF c L a k) (dz (L.getD a aA).2 k)
     ·rw[aaH];rfl
     ·exact bf L (aF c L a k)
     ·rw[aaH];show L.length+1≤16384;omega
  ·obtain rfl:k=c.trs.length:=by omega
   refine ei ((a+1,fU c l a c.trs.length)) (ai (ai rfl rfl) (ai (ai ?_ rfl) (ai ?_ ?_)))
   ·refine (ai rfl (ai (ai rfl rfl) (ai (ai rfl rfl) (ai (ai (ai (ai (fun _=>rfl) (aM (by omega))) rfl) (ai (ai rfl (ai rfl (ai rfl (fun _ _=>rfl)))) (ai rfl (ai rfl (ai rfl ?_))))) (ai (ai rfl (ai rfl (fun _=>rfl))) trivial)))))
    exact fun k _=>cB.rfl' _
   ·exact ⟨by show a+1≤(fU c l a c.trs.length).length;rw[ht,aaH];omega,hkl,⟨hgk,hways⟩,(amt h1 hkl).symm.trans (by rw[←hr,show 16385-a=16385-(a+1)+1 by omega])⟩
   ·show 16385-(a+1)<16385-a;omega
 ·have e:uO c=some l:=by rw[←hr];exact al7 (by omega)
  refine ai (ai (fun h=>absurd (show false=true from h) (by decide)) ?_) trivial
  show au _ (xq c)
  rw[xq,e]
  exact (ai (ai rfl (fun _ _=>rfl)) (ai (ai rfl (fun _ _=>rfl)) rfl))
def uT (c:bD):Int:=if bJ c=0 then (match uO c with | some _=>0 | none=>12) else bJ c
def mI (c:bD):List Mk:=if bJ c=0 then (match uO c with | some l=>l | none=>[]) else []
def vg (c:bD):PV:=.tup [am6 (mI c),al0 (mI c),iP (uT c)]
theorem amG {c:bD} (h:bJ c=0):xq c=vg c:=by
 unfold xq vg mI uT
 rw[if_pos h,if_pos h]
 cases uO c<;>rfl
theorem abn:aL Tryz.prog 60 (jF (fun c:bD=>[kF c]) jP vg):=by
 refine bg (Tb:=tab) mixed ay Tryz.func60 rfl rfl ?_
 rintro (c:bD) hpre
 refine ai (ai rfl (ai rfl rfl)) ?_
 refine ei _ (ai (aav) (ei (c) (ei [] (ai (a4 (ai (fun _=>Or.inl rfl) (ai nof (Or.inl rfl)))) (ai (by exact (ai rfl (ai (ai rfl (fun _ _=>rfl)) (ai (ai rfl (fun _ _=>rfl)) (ai rfl (fun _ _=>rfl)))))) (ai trivial (ai (hpre) ?_)))))))
 refine bH (p:=bJ c=0) (bU (by omega)) (fun h1=>?_) (fun h1=>?_)
 ·have e1:uT c=bJ c:=if_neg h1
  have e2:mI c=[]:=if_neg h1
  refine ai (ai (fun h=>absurd (show false=true from h) (by decide)) ?_) trivial
  show au _ (vg c)
  rw[vg,e1,e2]
  exact (ai rfl (ai rfl rfl))
 refine ei _ (ai ((kM ajh c ⟨h1,hpre⟩ (r:=vg c) (amG h1))) (ei (()) (ei [] (ai (a4 (ai (fun _=>Or.inl rfl) (ai nof (Or.inl rfl)))) (ai (by exact (ai rfl (ai (ai rfl (fun _ _=>rfl)) (ai (ai rfl (fun _ _=>rfl)) (ai rfl (fun _ _=>rfl)))))) (ai trivial (ai (trivial) ?_)))))))
 refine ai (ai (fun h=>absurd (show false=true from h) (by decide)) ?_) trivial
 show au _ (vg c)
 rw[vg]
 exact (ai (ai rfl (fun _ _=>rfl)) (ai (ai rfl (fun _ _=>rfl)) rfl))
theorem agJ {c:bD} (h:uT c=0):bJ c=0∧uO c=some (mI c):=by
 unfold uT at h
 split at h
 ·rename_i h1
  refine ⟨h1,?_⟩
  unfold mI;rw[if_pos h1]
  cases e:uO c with
  | none=>rw[e] at h;cases h
  | some l=>rfl
 ·rename_i h1;exact absurd h h1
end Go.Sx.Pe
