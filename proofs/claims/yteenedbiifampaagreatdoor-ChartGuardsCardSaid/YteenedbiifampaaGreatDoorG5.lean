/- ChartGuards, part 5 of its proof: declarations that the last part uses. -/
import Derived.Test.YteenedbiifampaaGreatDoorG4
set_option maxHeartbeats 1000000
set_option maxRecDepth 4000
set_option linter.unusedSimpArgs false
set_option linter.unusedVariables false
set_option linter.unusedSectionVars false
namespace Go.Sx.Pe
open Go Go.Proofs Go.Sx.Pn
theorem ak8:aL Tryz.prog 26 aqf:=by
 refine aX (Tb:=tab) mixed aB Tryz.func26 rfl rfl ?_
 rintro (c:aS) hpre
 refine ai (ai rfl (ai rfl rfl)) ?_
 obtain ⟨hst,htr⟩:=hpre
 refine ah (p:=c.act<1) (au (by omega)) (fun h1=>?_) (fun h1=>?_)
 ·refine ai (ai (fun _=>trivial) ?_) trivial
  show ak _ (iP (bD c))
  rw[bD,if_pos (.inl h1)]
  exact rfl
 refine ah (p:=6<c.act) (au (by omega)) (fun h2=>?_) (fun h2=>?_)
 ·refine ai (ai (fun _=>trivial) ?_) trivial
  show ak _ (iP (bD c))
  rw[bD,if_pos (.inr h2)]
  exact rfl
 have e0:¬(c.act<1∨6<c.act):=fun h=>h.elim h1 h2
 refine ei _ (ai (alf) (ei (c.ins) (ei [] (ai (a4 (ai (fun _=>Or.inl rfl) (ai nof (Or.inl rfl)))) (ai (by exact (ai rfl (fun _ _=>rfl))) (ai trivial (ai (trivial) ?_)))))))
 refine bE (p:=dJ c.ins=0) (bT (by omega)) (fun h3=>?_) (fun h3=>?_)
 ·refine ai (ai (fun _=>trivial) ?_) trivial
  show ak _ (iP (bD c))
  rw[bD,if_neg e0,if_pos h3]
  exact rfl
 have h16:=rJ h3
 have e1:¬¬dJ c.ins=0:=fun h=>h h3
 refine ah (p:=c.sts.length=0) (gY (by omega)) (fun h4=>?_) (fun h4=>?_)
 ·refine ai (ai (fun _=>trivial) ?_) trivial
  show ak _ (iP (bD c))
  rw[bD,if_neg e0,if_neg e1,if_pos h4]
  exact rfl
 refine ah (p:=24<c.sts.length) (au (by omega)) (fun h5=>?_) (fun h5=>?_)
 ·refine ai (ai (fun _=>trivial) ?_) trivial
  show ak _ (iP (bD c))
  rw[bD,if_neg e0,if_neg e1,if_neg h4,if_pos (.inl h5)]
  exact rfl
 refine ah (p:=32<c.trs.length) (au (by omega)) (fun h6=>?_) (fun h6=>?_)
 ·refine ai (ai (fun _=>trivial) ?_) trivial
  show ak _ (iP (bD c))
  rw[bD,if_neg e0,if_neg e1,if_neg h4,if_pos (.inr h6)]
  exact rfl
 have e2:¬(24<c.sts.length∨32<c.trs.length):=fun h=>h.elim h5 h6
 refine ei (.seq [0,1,2,3,4,5]) (ai (by kernel_rfl) ?_)
 refine ei _ (ai (ajV) (ei ((c,c.sts)) (ei [] (ai (a4 (ai (fun _=>Or.inl rfl) (ai nof (Or.inl rfl)))) (ai (by exact (ai (ai rfl (fun _ _=>rfl)) (ai rfl rfl))) (ai trivial (ai (⟨by show c.sts.length≤1000000;omega,hst⟩) ?_)))))))
 refine bE (p:=dz (fun k=>eO c.act (c.sts.getD k st0)) c.sts.length=0) (bT (by dsimp only;omega)) (fun h7=>?_) (fun h7=>?_)
 ·refine ai (ai (fun _=>trivial) ?_) trivial
  show ak _ (iP (bD c))
  rw[bD,if_neg e0,if_neg e1,if_neg h4,if_neg e2,if_pos h7]
  exact rfl
 have hsm:xQ c:=⟨by omega,by omega,by omega,by omega⟩
 refine ei _ (ai (aiN) (ei ((c,c.trs)) (ei [] (ai (a4 (ai (fun _=>Or.inl rfl) (ai nof (Or.inl rfl)))) (ai (by exact (ai (ai rfl (fun _ _=>rfl)) (ai rfl rfl))) (ai trivial (ai (⟨by show c.trs.length≤1000000;omega,hsm,htr⟩) ?_)))))))
 refine ai (ai (fun _=>trivial) ?_) trivial
 show ak _ (iP (bD c))
 rw[bD,if_neg e0,if_neg e1,if_neg h4,if_neg e2,if_neg (fun h=>h h7)]
 exact rfl
theorem ado:aL Tryz.prog 27 aqf:=by
 refine aX (Tb:=tab) mixed aB Tryz.func27 rfl rfl ?_
 rintro (c:aS) hpre
 refine ai (ai rfl (ai rfl rfl)) ?_
 obtain ⟨hst,htr⟩:=hpre
 refine ah (p:=c.act<1) (au (by omega)) (fun h1=>?_) (fun h1=>?_)
 ·refine ai (ai (fun _=>trivial) ?_) trivial
  show ak _ (iP (bD c))
  rw[bD,if_pos (.inl h1)]
  exact rfl
 refine ah (p:=6<c.act) (au (by omega)) (fun h2=>?_) (fun h2=>?_)
 ·refine ai (ai (fun _=>trivial) ?_) trivial
  show ak _ (iP (bD c))
  rw[bD,if_pos (.inr h2)]
  exact rfl
 have e0:¬(c.act<1∨6<c.act):=fun h=>h.elim h1 h2
 refine ei _ (ai (ajs) (ei (c.ins) (ei [] (ai (a4 (ai (fun _=>Or.inl rfl) (ai nof (Or.inl rfl)))) (ai (by exact (ai rfl (fun _ _=>rfl))) (ai trivial (ai (trivial) ?_)))))))
 refine bE (p:=dJ c.ins=0) (bT (by omega)) (fun h3=>?_) (fun h3=>?_)
 ·refine ai (ai (fun _=>trivial) ?_) trivial
  show ak _ (iP (bD c))
  rw[bD,if_neg e0,if_pos h3]
  exact rfl
 have h16:=rJ h3
 have e1:¬¬dJ c.ins=0:=fun h=>h h3
 refine ah (p:=c.sts.length=0) (gY (by omega)) (fun h4=>?_) (fun h4=>?_)
 ·refine ai (ai (fun _=>trivial) ?_) trivial
  show ak _ (iP (bD c))
  rw[bD,if_neg e0,if_neg e1,if_pos h4]
  exact rfl
 refine ah (p:=24<c.sts.length) (au (by omega)) (fun h5=>?_) (fun h5=>?_)
 ·refine ai (ai (fun _=>trivial) ?_) trivial
  show ak _ (iP (bD c))
  rw[bD,if_neg e0,if_neg e1,if_neg h4,if_pos (.inl h5)]
  exact rfl
 refine ah (p:=32<c.trs.length) (au (by omega)) (fun h6=>?_) (fun h6=>?_)
 ·refine ai (ai (fun _=>trivial) ?_) trivial
  show ak _ (iP (bD c))
  rw[bD,if_neg e0,if_neg e1,if_neg h4,if_pos (.inr h6)]
  exact rfl
 have e2:¬(24<c.sts.length∨32<c.trs.length):=fun h=>h.elim h5 h6
 have hA:bD c=if ¬dz (fun k=>eO c.act (c.sts.getD k st0)) c.sts.length=0 then dz (fun k=>eO c.act (c.sts.getD k st0)) c.sts.length else dz (fun k=>iF c (c.trs.getD k aM)) c.trs.length:=by
  unfold bD;rw[if_neg e0,if_neg e1,if_neg h4,if_neg e2]
 refine ei (bC.inv { X:=Nat,up:=fun k=>[(4,.s (iA k))],uo:=fun k=>[],inv:=fun k=>k≤c.sts.length∧(∀j,j<k→eO c.act (c.sts.getD j st0)=0),meas:=fun k=>c.sts.length-k,x0:=0 }) ?_
 refine ai (ai (ai (by exact (a4 (ai rfl rfl))) (ai (by exact (ai (ai (fun _=>rfl) (iE (by simp only[zz,reduceCtorEq];rfl))) rfl)) (by exact trivial))) rfl) (ai (ai (abY _) ?_) ?_)
 ·exact fun j hj=>absurd hj (akN _)
 intro (k:Nat) ⟨hk,hall⟩
 refine ah (p:=k<c.sts.length) (au (by omega)) (fun g1=>?_) (fun g1=>?_)
 ·refine ei (.seq [0,1,2,3,4,5,6,7]) (ai (by kernel_rfl) ?_)
  refine ai (ai (aaI _) (iN (n:=c.sts.length) (by omega))) (ai rfl ?_)
  refine ei _ (ai (amQ) (ei ((c,c.sts.getD k st0)) (ei [] (ai (a4 (ai (fun _=>Or.inl rfl) (ai nof (Or.inl rfl)))) (ai (by exact (ai (ai rfl (ai (ai rfl (fun _ _=>rfl)) (ai (ai rfl (fun _ _=>rfl)) (ai rfl (fun _ _=>rfl))))) (ai (ai rfl (fun _ _=>rfl)) (iE (by simp only[zz,reduceCtorEq]))))) (ai trivial (ai (hst _ (aaS (bH st0 g1))) ?_)))))))
  refine bE (p:=eO c.act (c.sts.getD k st0)=0) (bT (by dsimp only;omega)) (fun g2=>?_) (fun g2=>?_)
  ·have e:=cO (f:=fun k=>eO c.act (c.sts.getD k st0)) g1 hall g2
   refine ai (ai (fun _=>trivial) ?_) trivial
   show ak _ (iP (bD c))
   rw[hA,if_pos (show ¬dz (fun k=>eO c.act (c.sts.getD k st0)) c.sts.length=0 by rw[e];exact g2),e]
   exact rfl
  refine ei (k+1) (ai (ai rfl rfl) (ai (ai (ai rfl (ai (ai rfl rfl) (ai (ai rfl rfl) (ai (ai (ai (fun _=>rfl) (aO (by omega))) rfl) trivial)))) rfl) (ai (ai (iL (by omega)) ?_) (iM (by omega)))))
  intro j hj
  by_cases hjk:j=k
  ·subst hjk;exact g2
  ·exact hall j (by omega)
 ·obtain rfl:k=c.sts.length:=by omega
  rw[if_neg (fun h=>h (fQ hall))] at hA
  refine ei (bC.inv { X:=Nat,up:=fun j=>[(6,.s (iA j))],uo:=fun j=>[],inv:=fun j=>j≤c.trs.length∧(∀i,i<j→iF c (c.trs.getD i aM)=0),meas:=fun j=>c.trs.length-j,x0:=0 }) ?_
  refine ai (ai (ai (by exact (a4 (ai rfl rfl))) (ai (by exact (ai (ai (fun _=>rfl) (iE (by simp only[zz,reduceCtorEq];rfl))) rfl)) (by exact trivial))) rfl) (ai (ai (abY _) ?_) ?_)
  ·exact fun i hi=>absurd hi (akN _)
  intro (j:Nat) ⟨hj,hallt⟩
  refine ah (p:=j<c.trs.length) (au (by omega)) (fun g3=>?_) (fun g3=>?_)
  ·refine ai (ai (aaI _) (iN (n:=c.trs.length) (by omega))) (ai rfl ?_)
   have hto:=htr _ (aaS (bH aM g3))
   refine ei _ (ai (ae4) (ei ((c,(c.trs.getD j aM).fr)) (ei [] (ai (a4 (ai (fun _=>Or.inl rfl) (ai nof (Or.inl rfl)))) (ai (by exact (ai (ai rfl (ai (ai rfl (fun _ _=>rfl)) (ai (ai rfl (fun _ _=>rfl)) (ai rfl (fun _ _=>rfl))))) (ai rfl (fun _ _=>rfl)))) (ai trivial (ai (hto.1) ?_)))))))
   refine bE (p:=gP c.sts.length (c.trs.getD j aM).fr=0) (bT (by dsimp only;omega)) (fun g4=>?_) (fun g4=>?_)
   ·have e:iF c (c.trs.getD j aM)=gP c.sts.length (c.trs.getD j aM).fr:=by unfold iF;rw[if_pos g4]
    refine ai (ai (fun _=>trivial) ?_) trivial
    show ak _ (iP (bD c))
    rw[hA,cO (f:=fun k=>iF c (c.trs.getD k aM)) g3 hallt (by rw[e];exact g4),e]
    exact rfl
   refine ei _ (ai (ae4) (ei ((c,(c.trs.getD j aM).to)) (ei [] (ai (a4 (ai (fun _=>Or.inl rfl) (ai nof (Or.inl rfl)))) (ai (by exact (ai (ai rfl (ai (ai rfl (fun _ _=>rfl)) (ai (ai rfl (fun _ _=>rfl)) (ai rfl (fun _ _=>rfl))))) (ai rfl (fun _ _=>rfl)))) (ai trivial (ai (hto.2.1) ?_)))))))
   refine bE (p:=gP c.sts.length (c.trs.getD j aM).to=0) (bT (by dsimp only;omega)) (fun g5=>?_) (fun g5=>?_)
   ·have e:iF c (c.trs.getD j aM)=gP c.sts.length (c.trs.getD j aM).to:=by unfold iF;rw[if_neg (fun h=>h g4),if_pos g5]
    refine ai (ai (fun _=>trivial) ?_) trivial
    show ak _ (iP (bD c))
    rw[hA,cO (f:=fun k=>iF c (c.trs.getD k aM)) g3 hallt (by rw[e];exact g5),e]
    exact rfl
   refine ei (.seq [0,1,2,3,4,5]) (ai (by kernel_rfl) ?_)
   have hsm:xQ c:=⟨by omega,by omega,by omega,by omega⟩
   refine ei _ (ai (amm) (ei (c) (ei [] (ai (a4 (ai (fun _=>Or.inl rfl) (ai nof (Or.inl rfl)))) (ai (by exact (ai rfl (ai (ai rfl (fun _ _=>rfl)) (ai (ai rfl (fun _ _=>rfl)) (ai rfl (fun _ _=>rfl)))))) (ai trivial (ai (hsm) ?_)))))))
   refine ei _ (ai (aky) (ei (((c.trs.getD j aM).wh,nU c)) (ei [] (ai (a4 (ai (fun _=>Or.inl rfl) (ai nof (Or.inl rfl)))) (ai (by exact (ai (ai (iE (by simp only[zz,reduceCtorEq])) (ai (iE (by simp only[zz,reduceCtorEq])) (ai rfl (fun _ _=>rfl)))) rfl)) (ai trivial (ai (trivial) ?_)))))))
   have e:iF c (c.trs.getD j aM)=dL (c.trs.getD j aM).wh (nU c):=by unfold iF;rw[if_neg (fun h=>h g4),if_neg (fun h=>h g5)]
   refine bE (p:=dL (c.trs.getD j aM).wh (nU c)=0) (bT (by dsimp only;omega)) (fun g6=>?_) (fun g6=>?_)
   ·refine ai (ai (fun _=>trivial) ?_) trivial
    show ak _ (iP (bD c))
    rw[hA,cO (f:=fun k=>iF c (c.trs.getD k aM)) g3 hallt (by rw[e];exact g6),e]
    exact rfl
   refine ei (j+1) (ai (ai rfl rfl) (ai (ai (ai rfl (ai (ai rfl rfl) (ai (ai rfl rfl) (ai (ai (ai (fun _=>rfl) (aO (by omega))) rfl) trivial)))) rfl) (ai (ai (iL (by omega)) ?_) (iM (by omega)))))
   intro i hi
   by_cases hij:i=j
   ·subst hij;rw[e];exact g6
   ·exact hallt i (by omega)
  ·obtain rfl:j=c.trs.length:=by omega
   refine ai (ai (fun _=>trivial) ?_) trivial
   show ak _ (iP (bD c))
   rw[hA,fQ hallt]
   exact rfl
abbrev dec (n : Nat) : List UInt8 := Lib.decDigits n
def adE (n:Nat):List UInt8:=if n=0 then [] else dec n
theorem akS (n:Nat):adE n=if n=0 then [] else adE (n / 10)++[UInt8.ofNat (48+n % 10)]:=by
 unfold adE
 by_cases h:n=0
 ·rw[if_pos h,if_pos h]
 ·rw[if_neg h,if_neg h]
  unfold dec
  rw[Lib.decDigits]
  by_cases h2:n<10
  ·rw[dif_pos h2,if_pos (by omega),ar0 h2];rfl
  ·rw[dif_neg h2,if_neg (by omega)]
theorem anR (s:List UInt8) (l h:Nat):(strOf s).extract l h=strOf ((s.take h).drop l):=by
 apply ByteArray.ext
 simp only[strOf,ByteArray.data_extract]
 apply Array.ext'
 simp[List.drop_take]
theorem wU:aL Tryz.prog 79 (bQ (fun n:Nat=>[iA n]) (fun n=>n<100) (fun n=>sP (dec n))):=
 afO (adO (α:=Nat) Tryz.func79 rfl rfl (vals:=fun n=>[.int .i64 n]) (pre:=fun n=>n<100) (ret:=fun n=>.string (strOf (dec n))) (fun _ _=>rfl)
  fun n hn w=>(Tryz.strconv_Itoa_small n hn w).mono fun e w' h=>by
   obtain ⟨h1,h2⟩:=h
   subst h2
   exact ⟨h1,RowKit.Below.refl _ _⟩) id
  (fun _ _=>rfl) (fun _ _=>rfl) (fun _ _=>rfl) (fun _ _=>rfl) (fun _ h=>h)
def ac0 (i:Nat) (d:UInt8):List UInt8:=[UInt8.ofNat (97+i),d]
def jf:Nat→List (List UInt8)
 | 0=>[]
 | n+1=>jf n++[ac0 n 48,ac0 n 49]
theorem aaf:∀n,(jf n).length=2*n
 | 0=>rfl
 | n+1=>by rw[jf,aaA,aaf n];simp;omega
def yN (k:Nat):List UInt8:=121 :: dec k
def nk:Nat→List (List UInt8)
 | 0=>[]
 | n+1=>nk n++[yN n]
theorem aar:∀n,(nk n).length=n
 | 0=>rfl
 | n+1=>by rw[nk,aaA,aar n];rfl
def dP (c:aS):List (List UInt8):=jf c.act.toNat++c.ins++nk c.sts.length
theorem aah {a b:List (List UInt8)} {n:Nat} {f g:Nat→List PV} (hn:n=a.length) (hf:∀k,k<a.length→f k=[sP (a.getD k [])]) (hg:∀k,k<b.length→g k=[sP (b.getD k [])]):∀k,k<(a++b).length→bN n f g k=[sP ((a++b).getD k [])]:=by
 intro k hk
 subst hn
 unfold bN
 by_cases h:k<a.length
 ·rw[if_pos h,hf k h,aaE,aaE,aee h]
 ·have hb:k-a.length<b.length:=by rw[aaA] at hk;omega
  rw[if_neg h,hg _ hb,aaE,aaE,aeD (by omega)]
def ssR (l:List (List UInt8)):LV:=.rw 9 1 l.length (fun k=>[sP (l.getD k [])])
def abc:List UInt8:=[97,98,99,100,101,102]
theorem ao5 {d:Nat} (h:d<6):(strOf abc).extract ((d:Int)).toNat (((d+1:Nat):Int)).toNat=strOf [UInt8.ofNat (97+d)]:=by
 rw[aps,aps,anR]
 have:∀d:Fin 6,(abc.take (d.1+1)).drop d.1=[UInt8.ofNat (97+d.1)]:=by decide
 exact congrArg strOf (this ⟨d,h⟩)
def agW (c:aS):Prop:=1≤c.act∧c.act≤6∧c.ins.length≤1000∧c.sts.length≤99
def arD:Spec:=iR (fun c:aS=>[jH c]) agW (fun c=>ssP (dP c))
theorem aoz {x y:List UInt8} {a b:ByteArray} (ha:a=strOf x) (hb:b=strOf y):∀k,k<[x,y].length→bg 1 [.val (.string a),.val (.string b)] k=[sP ([x,y].getD k [])]:=by
 intro k hk
 have hk:k<2:=hk
 subst ha;subst hb
 match k,hk with
 | 0,_=>rfl
 | 1,_=>rfl
theorem ahY {x:List UInt8} {a:ByteArray} (ha:a=strOf x):∀k,k<[x].length→bg 1 [.val (.string a)] k=[sP ([x].getD k [])]:=by
 intro k hk
 have hk:k<1:=hk
 subst ha
 obtain rfl:k=0:=by omega
 rfl
theorem aH {l:List PV} (n:Nat) (h:l.length=n):∀k,k<n→(bg 1 l k).length=1:=by
 intro k hk
 subst h
 induction l generalizing k with
 | nil=>simp at hk
 | cons d l ih=>
  cases k with
  | zero=>rfl
  | succ k=>
   have h1:=ih k (by simpa using hk)
   show (bg 1 (d :: l) (k+1)).length=1
   have:bg 1 (d :: l) (k+1)=bg 1 l k:=by
    unfold bg
    rw[anD,anD];rfl
   rw[this];exact h1
theorem aeQ {n:Nat} (h:n≤10000):n≤maxLen∧n*16≤140737488355328:=⟨by unfold maxLen;omega,by omega⟩
theorem apu:aL Tryz.prog 76 arD:=by
 refine aX (Tb:=tab) mixed aB Tryz.func76 rfl rfl ?_
 rintro (c:aS) hpre
 refine ai (ai rfl (ai rfl rfl)) ?_
 obtain ⟨h1,h2,h3,h4⟩:=hpre
 have h1:1≤c.act:=h1
 have h2:c.act≤6:=h2
 have h3:c.ins.length≤1000:=h3
 have h4:c.sts.length≤99:=h4
 refine ei (bC.inv { X:=Nat,up:=fun i=>[(9,.s (iA i)),(3,ssR (jf i))],uo:=fun i=>[],inv:=fun i=>i≤c.act.toNat∧(True),meas:=fun i=>c.act.toNat-i,x0:=0 }) ?_
 refine ai (ai (ai (by exact (a4 (ai rfl rfl))) (ai (by exact (ai (ai (ai (fun _=>rfl) (iE (by simp only[zz,reduceCtorEq];rfl))) rfl) rfl)) (by exact trivial))) rfl) (ai (ai (abY _) ?_) ?_)
 ·trivial
 intro (i:Nat) ⟨hi,_⟩
 have hln:=aaf i
 refine ah (p:=i<c.act.toNat) (by exact au (by omega)) (fun g1=>?_) (fun g1=>?_)
 ·have hw:IntKind.i64.wrap ((i:Int)+1)=((i+1:Nat):Int):=aO (by omega)
  have hx:(strOf abc).extract ((i:Int)).toNat (IntKind.i64.wrap ((i:Int)+1)).toNat=strOf [UInt8.ofNat (97+i)]:=by rw[hw];exact ao5 (by omega)
  have hxs:((((strOf abc).extract ((i:Int)).toNat (IntKind.i64.wrap ((i:Int)+1)).toNat).size+1:Nat):Int)≤9223372036854775807:=by rw[hx,dI];show ((1+1:Nat):Int)≤_;decide
  refine ai (ai (aaI _) (ai (by rw[hw];omega) (by rw[hw];show ((i+1:Nat):Int)≤6;omega))) ?_
  refine ai hxs (ai hxs ?_)
  refine ai (aeQ (by show (jf i).length+2≤10000;omega)) (ai (aH 2 rfl) ?_)
  refine ei (i+1) (ai (ai rfl rfl) (ai (ai (ai rfl (ai (ai rfl rfl) (ai (ai rfl rfl) (ai (ai (ai (ai (fun _=>rfl) (aO (by omega))) rfl) (ai rfl (ai rfl (ai ?_ ?_)))) trivial)))) rfl) (ai (ai (iL (by omega)) trivial) (iM (by omega)))))
  ·show (jf i).length+2=(jf (i+1)).length
   rw[jf,aaA];rfl
  ·exact fun k hk=>aah (a:=jf i) (b:=[ac0 i 48,ac0 i 49]) (n:=(jf i).length) (f:=fun k=>[sP ((jf i).getD k [])]) rfl (fun _ _=>rfl) (aoz (x:=ac0 i 48) (y:=ac0 i 49) (a:=(strOf abc).extract ((i:Int)).toNat (IntKind.i64.wrap ((i:Int)+1)).toNat++strOf [48]) (b:=(strOf abc).extract ((i:Int)).toNat (IntKind.i64.wrap ((i:Int)+1)).toNat++strOf [49]) (by rw[hx,eD];rfl) (by rw[hx,eD];rfl)) k (by rw[aaA];exact hk)
 ·obtain rfl:i=c.act.toNat:=by omega
  refine ai (aeQ (by show (jf c.act.toNat).length+c.ins.length≤10000;omega)) (ai (fun _ _=>rfl) ?_)
  refine ei (bC.inv { X:=Nat,up:=fun j=>[(31,.s (iA j)),(3,ssR (jf c.act.toNat++c.ins++nk j))],uo:=fun j=>[],inv:=fun j=>j≤c.sts.length∧(True),meas:=fun j=>c.sts.length-j,x0:=0 }) ?_
  refine ai (ai (ai (by exact (a4 (ai rfl rfl))) (ai ?_ ?_)) rfl) (ai (ai (abY _) ?_) ?_)
  ·refine (ai (ai (ai (fun _=>rfl) (iE (by simp only[zz,reduceCtorEq];rfl))) rfl) (ai rfl (ai rfl (ai ?_ ?_))))
   ·show (jf c.act.toNat).length+c.ins.length=(jf c.act.toNat++c.ins++nk 0).length
    rw[aaA,aaA];rfl
   ·intro k hk
    have:=aah (a:=jf c.act.toNat) (b:=c.ins) (n:=(jf c.act.toNat).length) (f:=fun k=>[sP ((jf c.act.toNat).getD k [])]) (g:=fun k=>[sP (c.ins.getD k [])]) rfl (fun _ _=>rfl) (fun _ _=>rfl) k (by rw[aaA];exact hk)
    rw[this]
    show _=[sP ((jf c.act.toNat++c.ins++[]).getD k [])]
    rw[apT]
  ·exact trivial
  ·trivial
  intro (j:Nat) ⟨hj,_⟩
  have hlj:=aar j
  have hla:(jf c.act.toNat++c.ins++nk j).length=2*c.act.toNat+c.ins.length+j:=by rw[aaA,aaA,hln,hlj]
  refine ah (p:=j<c.sts.length) (au (by omega)) (fun g2=>?_) (fun g2=>?_)
  ·refine ei _ (ai (wU) (ei (j) (ei [] (ai (a4 (ai (fun _=>Or.inl rfl) (ai nof (Or.inl rfl)))) (ai (by exact rfl) (ai trivial (ai ((by show j<100;omega)) ?_)))))))
   have hd:(dec j).length≤2:=by
    have:∀j:Fin 100,(Lib.decDigits j.1).length≤2:=by decide +kernel
    exact this ⟨j,by omega⟩
   refine ai (by show (((strOf [121]).size+(strOf (dec j)).size:Nat):Int)≤9223372036854775807;rw[dI,dI,asC];omega) ?_
   refine ai (aeQ (by show (jf c.act.toNat++c.ins++nk j).length+1≤10000;omega)) (ai (aH 1 rfl) ?_)
   refine ei (j+1) (ai (ai rfl rfl) (ai (ai (ai rfl (ai (ai rfl rfl) (ai (ai rfl rfl) (ai (ai (ai (ai (fun _=>rfl) (aO (by omega))) rfl) (ai rfl (ai rfl (ai ?_ ?_)))) trivial)))) rfl) (ai (ai (iL (by omega)) trivial) (iM (by omega)))))
   ·show (jf c.act.toNat++c.ins++nk j).length+1=(jf c.act.toNat++c.ins++nk (j+1)).length
    rw[nk,aaA,aaA,aaA,aaA,aaA];rfl
   ·have e:jf c.act.toNat++c.ins++nk (j+1)=(jf c.act.toNat++c.ins++nk j)++[yN j]:=by rw[nk];simp
    have:=aah (a:=jf c.act.toNat++c.ins++nk j) (b:=[yN j]) rfl (fun _ _=>rfl) (ahY (x:=yN j) (a:=strOf [121]++strOf (dec j)) (by rw[eD];rfl))
    rw[←e] at this
    intro k hk
    exact this k (by rw[e,aaA];exact hk)
  ·obtain rfl:j=c.sts.length:=by omega
   refine ai (ai (fun h=>absurd (show false=true from h) (by decide)) ?_) trivial
   show ak _ (ssP (dP c))
   rw[dP]
   exact (ai rfl (fun _ _=>rfl))
theorem jg {c:aS} (h:bD c=0):(1≤c.act∧c.act≤6)∧dJ c.ins=0∧(0<c.sts.length∧c.sts.length≤24)∧c.trs.length≤32∧(∀k,k<c.sts.length→eO c.act (c.sts.getD k st0)=0)∧∀k,k<c.trs.length→iF c (c.trs.getD k aM)=0:=by
 unfold bD at h
 split at h
 ·cases h
 split at h
 ·rename_i h1 h2;exact absurd h h2
 split at h
 ·cases h
 split at h
 ·cases h
 split at h
 ·rename_i h1;exact absurd h h1
 rename_i h1 h2 h3 h4 h5
 refine ⟨by omega,aqv.1 h2,by omega,by omega,fun k hk=>oz (aqv.1 h5) k hk,fun k hk=>oz h k hk⟩
theorem amA {c:aS} (h:bD c=0):agW c:=by
 obtain ⟨h1,h2,h3,h4,-⟩:=jg h
 have:=rJ h2
 exact ⟨h1.1,h1.2,by omega,by omega⟩
def fZ (m:List Bool) (k:Nat):PV:=bP (m.getD k false)
def tZ (m:List Bool):PV:=.arr 24 (fZ m)
def uG (m:List Bool):SV:=.p false (tZ m)
theorem nR (g:Nat→PV):∀(n i k:Nat),k<n→(lT g i n)[k]?=some (g (i+k))
 | 0,_,_,h=>by omega
 | n+1,i,0,_=>rfl
 | n+1,i,k+1,h=>by
  show (lT g (i+1) n)[k]?=_
  rw[nR g n (i+1) k (by omega),show i+1+k=i+(k+1) by omega]
theorem ani (m:List Bool) {k:Nat} (h:k<24):(dX 24 (fZ m))[k]?=some (fZ m k):=by
 unfold dX;rw[nR _ _ _ _ h,afG]
def fU (n:Nat) (l:List Int):Prop:=∀k∈l,0≤k∧k<(n:Int)
theorem kN {n:Nat} {l:List Int} (h:fU n l) {k:Nat} (hk:k<l.length):0≤l.getD k 0∧l.getD k 0<(n:Int):=h _ (aaS (bH 0 hk))
def jv (m:List Bool) (k:Int):Bool:=m.getD k.toNat false
def allM (m:List Bool) (l:List Int):Bool:=l.all (jv m)
def aql (m:List Bool):PV:=.fn 161 [.pt (dX 24 (fZ m)) 0]
theorem an7:aL Tryz.prog 161 (bQ (fun a:List Bool×Int=>[iA a.2,.p false (.pt (dX 24 (fZ a.1)) 0)]) (fun a=>0≤a.2∧a.2<24) (fun a=>bP (!jv a.1 a.2))):=by
 refine aX (Tb:=tab) mixed aB Tryz.func161 rfl rfl ?_
 rintro (a:List Bool×Int) hpre
 refine ai (ai rfl (ai rfl rfl)) ?_
 have h1:0≤a.2:=hpre.1
 have h2:a.2<24:=hpre.2
 refine ai ⟨h1,h2⟩ ?_
 refine ei (fZ a.1 a.2.toNat) (ai (by rw[afG];exact ani a.1 (by omega)) ?_)
 refine ai (ai (fun _=>trivial) ?_) trivial
 exact rfl
def aqM:Spec:=bQ (fun a:List Bool×List Int=>[isA a.2,.p false (aql a.1)]) (fun a=>fU 24 a.2∧a.2.length≤1000000) (fun a=>iP (jL (fun k=>!jv a.1 k) a.2))
theorem anH:aL Tryz.prog 106 aqM:=by
 refine aX (Tb:=tab) mixed aB Tryz.func106 rfl rfl ?_
 rintro (a:List Bool×List Int) hpre
 refine ai (ai rfl (ai rfl rfl)) ?_
 obtain ⟨hx,hl⟩:=hpre
 have hl:a.2.length≤1000000:=hl
 refine ei (bC.inv { X:=Nat,up:=fun k=>[(8,.s (iA k))],uo:=fun k=>[],inv:=fun k=>k≤a.2.length∧(∀y∈a.2.take k,(!jv a.1 y)=false),meas:=fun k=>a.2.length-k,x0:=0 }) ?_
 refine ai (ai (ai (by exact (a4 (ai rfl rfl))) (ai (by exact (ai (ai (fun _=>rfl) (iE (by simp only[zz,reduceCtorEq];rfl))) rfl)) (by exact trivial))) rfl) (ai (ai (abY _) ?_) ?_)
 ·exact fun y hy=>absurd hy (by simp)
 intro (k:Nat) ⟨hk,hall⟩
 refine ah (p:=k<a.2.length) (au (by omega)) (fun h1=>?_) (fun h1=>?_)
 ·refine ai (ai (aaI _) (iN (n:=a.2.length) (by omega))) (ai rfl ?_)
  refine ei _ (ai (an7) (ei ((a.1,a.2.getD k 0)) (ei [] (ai (a4 (ai (fun _=>Or.inl rfl) (ai nof (Or.inl rfl)))) (ai (by exact (ai (iE (by simp only[zz,reduceCtorEq])) (ai rfl rfl))) (ai trivial (ai (kN hx h1) ?_)))))))
  refine aZ (b:=!jv a.1 (a.2.getD k 0)) rfl (fun h2=>?_) (fun h2=>?_)
  ·refine ai (ai (fun _=>trivial) ?_) trivial
   show ak _ (iP (jL (fun k=>!jv a.1 k) a.2))
   rw[rV (d:=0) h1 h2 hall]
   exact rfl
  refine ei (k+1) (ai (ai rfl rfl) (ai (ai (ai rfl (ai (ai rfl rfl) (ai (ai rfl rfl) (ai (ai (ai (fun _=>rfl) (aO (by omega))) rfl) trivial)))) rfl) (ai (ai (iL (by omega)) ?_) (iM (by omega)))))
  intro y hy
  rw[aP 0 h1] at hy
  rcases afA.1 hy with hy | hy
  ·exact hall y hy
  ·simp only[afq] at hy;subst hy;exact h2
 ·obtain rfl:k=a.2.length:=by omega
  rw[afj] at hall
  refine ai (ai (fun _=>trivial) ?_) trivial
  show ak _ (iP (jL (fun k=>!jv a.1 k) a.2))
  rw[vG hall]
  exact rfl
theorem anF:aL Tryz.prog 38 (bQ (fun a:List Bool×List Int=>[isA a.2,.p false (aql a.1)]) (fun a=>fU 24 a.2∧a.2.length≤1000000) (fun a=>bP (a.2.any fun k=>!jv a.1 k))):=by
 refine aX (Tb:=tab) mixed aB Tryz.func38 rfl rfl ?_
 rintro (a:List Bool×List Int) hpre
 refine ai (ai rfl (ai rfl rfl)) ?_
 refine ei _ (ai (anH) (ei (a) (ei [] (ai (a4 (ai (fun _=>Or.inl rfl) (ai nof (Or.inl rfl)))) (ai (by exact (ai (ai rfl (fun _ _=>rfl)) (ai rfl rfl))) (ai trivial (ai (hpre) ?_)))))))
 refine ai (ai (fun _=>trivial) ?_) trivial
 show ak _ (bP (a.2.any fun k=>!jv a.1 k))
 rw[(sF (fun k=>!jv a.1 k) a.2).symm]
 exact rfl
theorem aqb:aL Tryz.prog 114 (bQ (fun a:List Bool×List Int=>[uG a.1,isA a.2]) (fun a=>fU 24 a.2∧a.2.length≤1000000) (fun a=>bP (allM a.1 a.2))):=by
 refine jG [3000006] ?_
 refine aX (Tb:=tab) mixed aB Tryz.func114 rfl rfl ?_
 rintro (a:List Bool×List Int) hpre
 refine ai (ai rfl (ai rfl rfl)) ?_
 refine ei _ (ai (anF) (ei (a) (ei [] (ai (a4 (ai (fun _=>Or.inl rfl) (ai nof (Or.inl rfl)))) (ai (by exact (ai (ai rfl (fun _ _=>rfl)) (ai rfl rfl))) (ai trivial (ai (hpre) ?_)))))))
 refine ai (ai (fun _=>trivial) ?_) trivial
 show ak _ (bP (allM a.1 a.2))
 rw[show allM a.1 a.2=!(a.2.any fun k=>!jv a.1 k) by unfold allM;simp[List.not_any_eq_all_not]]
 exact rfl
def cK (l:List Bool):List Bool:=l++List.replicate (24-l.length) false
theorem tQ (l:List Bool) (k:Nat):(cK l).getD k false=l.getD k false:=by
 unfold cK
 rw[aaE,aaE]
 by_cases h:k<l.length
 ·rw[aee h]
 ·rw[aeD (by omega),aqY (l:=l) (by omega),arZ]
  split<;>rfl
theorem nX {l:List Bool} (h:l.length≤24):(cK l).length=24:=by unfold cK;rw[aaA,aq2];omega
theorem acz {n:Nat} {f g:Nat→List PV}:∀k,k<0+n→bN 0 f g k=g k:=fun k hk=>by
 unfold bN;rw[if_neg (akN _),arT]
def aqS:Spec:=bQ (fun l:List (Bool)=>[bsA l]) (fun l=>l.length≤1000000) (fun l=>lN l)
theorem anY:aL Tryz.prog 40 aqS:=by
 refine aX (Tb:=tab) mixed aB Tryz.func40 rfl rfl ?_
 rintro (l:List (Bool)) hpre
 refine ai (ai rfl (ai rfl rfl)) ?_
 have hl:l.length≤1000000:=hpre
 intro b hb
 refine aY (fun h1=>?_) (fun h1=>?_)
 ·have h1:l.length=0:=hb h1
  refine ai (ai (fun _=>trivial) ?_) trivial
  show ak _ (lN l)
  rw[aoZ.1 h1]
  exact rfl
 ·refine ai (mxL (n:=0+l.length) (by omega) (by decide)) (ai (fun _ _=>rfl) ?_)
  refine ai (ai (fun _ k hk=>by rw[acz k hk];rfl) ?_) trivial
  refine (ai ?_ (fun _ _=>rfl))
  exact afG _
def arx:Spec:=bQ (fun a:aS×List Bool=>[jH a.1,uG a.2]) (fun a=>a.1.sts.length≤24∧a.2.length=24) (fun a=>lN (a.2.take a.1.sts.length))
theorem ah3:aL Tryz.prog 98 arx:=by
 refine aX (Tb:=tab) mixed aB Tryz.func98 rfl rfl ?_
 rintro (a:aS×List Bool) hpre
 refine ai (ai rfl (ai rfl rfl)) ?_
 obtain ⟨h1,h2⟩:=hpre
 have h1:a.1.sts.length≤24:=h1
 have h2:a.2.length=24:=h2
 refine ai (ai (by decide) (ai (aaI _) (by show (a.1.sts.length:Int)≤24;omega))) ?_
 have htl:(a.2.take a.1.sts.length).length=a.1.sts.length:=by rw[aiq];omega
 refine ei _ (ai (anY) (ei (a.2.take a.1.sts.length) (ei [] (ai (ai rfl (ai rfl (ai rfl (ai rfl (ai (fun _=>Or.inl rfl) (ai (fun _=>ai rfl rfl) (Or.inl rfl))))))) (ai ?_ (ai (by exact trivial) (ai ((by show (a.2.take a.1.sts.length).length≤1000000;omega)) ?_)))))))
 ·refine (ai rfl (ai ?_ ?_))
  ·show ((a.1.sts.length:Int)).toNat-(0:Int).toNat=(a.2.take a.1.sts.length).length
   rw[htl];simp
  ·intro k hk
   have hk:k<((a.1.sts.length:Int)).toNat-(0:Int).toNat:=hk
   have hk:k<a.1.sts.length:=by simpa using hk
   show [bP (a.2.getD ((0:Int).toNat+k) false)]=[bP ((a.2.take a.1.sts.length).getD k false)]
   rw[show (0:Int).toNat+k=k by simp,aaE,aaE,akd,if_pos hk]
 refine ai (ai (fun _=>trivial) ?_) trivial
 exact (ai rfl (fun _ _=>rfl))
def isR (l:List Int):LV:=.rw 3 1 l.length (fun k=>[iP (l.getD k 0)])
theorem adn {a b:List Int} {n:Nat} {f g:Nat→List PV} (hn:n=a.length) (hf:∀k,k<a.length→f k=[iP (a.getD k 0)]) (hg:∀k,k<b.length→g k=[iP (b.getD k 0)]):∀k,k<(a++b).length→bN n f g k=[iP ((a++b).getD k 0)]:=by
 intro k hk
 subst hn
 unfold bN
 by_cases h:k<a.length
 ·rw[if_pos h,hf k h,aaE,aaE,aee h]
 ·have hb:k-a.length<b.length:=by rw[aaA] at hk;omega
  rw[if_neg h,hg _ hb,aaE,aaE,aeD (by omega)]
theorem aay {n:Nat} {l:List Int} (h:gP n l=0) (hn:n≤24):fU 24 l∧fU n l∧0<l.length:=by
 unfold gP at h
 split at h
 ·cases h
 ·rename_i h0
  have h1:=oz h
  have:fU n l:=by
   intro k hk
   obtain ⟨i,hi,rfl⟩:=apr hk
   have h2:=h1 i hi
   unfold mq at h2
   have hg:l.getD i 0=l[i]:=by rw[aaE,aaC hi];rfl
   rw[hg] at h2
   split at h2
   ·cases h2
   ·omega
  exact ⟨fun k hk=>by have:=this k hk;omega,this,by omega⟩
theorem an9 {c:aS} {t:iU} (h:iF c t=0) (hn:c.sts.length≤24):(fU 24 t.fr∧fU c.sts.length t.fr)∧(fU 24 t.to∧fU c.sts.length t.to)∧dL t.wh (nU c)=0:=by
 unfold iF at h
 split at h
 ·rename_i h1;exact absurd h h1
 rename_i h1
 split at h
 ·rename_i h2;exact absurd h h2
 rename_i h2
 have g1:=aay (aqv.1 h1) hn
 have g2:=aay (aqv.1 h2) hn
 exact ⟨⟨g1.1,g1.2.1⟩,⟨g2.1,g2.2.1⟩,h⟩
theorem kS {c:aS} (h:bD c=0) {i:Nat} (hi:i<c.trs.length):(fU 24 (c.trs.getD i aM).fr∧fU c.sts.length (c.trs.getD i aM).fr)∧(fU 24 (c.trs.getD i aM).to∧fU c.sts.length (c.trs.getD i aM).to)∧dL (c.trs.getD i aM).wh (nU c)=0:=by
 obtain ⟨_,_,h3,_,_,h6⟩:=jg h
 exact an9 (h6 i hi) h3.2
theorem qd {c:aS} (h:je c) {i:Nat} (hi:i<c.trs.length):ai3 (c.trs.getD i aM):=h.2 _ (aaS (bH aM hi))
theorem amE (a:List Bool) (k:Int):jv (cK a) k=jv a k:=tQ a k.toNat
theorem alv (a:List Bool) (l:List Int):allM (cK a) l=allM a l:=by
 unfold allM;rw[show jv (cK a)=jv a from funext (amE a)]
def bM (m:List Bool) (l:List Int) (b:Bool):List Bool:=l.foldl (fun m k=>m.set k.toNat b) m
theorem dR (b:Bool):∀(l:List Int) (m:List Bool),(bM m l b).length=m.length
 | [],_=>rfl
 | k :: l,m=>by
  show (bM (m.set k.toNat b) l b).length=_
  rw[dR b l,ar5]
theorem pz (m:List Bool) (l:List Int) (k:Int) (b:Bool):bM m (l++[k]) b=(bM m l b).set k.toNat b:=by unfold bM;rw[aq6];rfl
theorem aiv {m:List Bool} (hm:m.length=24) {j:Nat} (hj:j<24) (b:Bool) (k:Nat):pW (fZ m) j (bP b) k=fZ (m.set j b) k:=by
 unfold pW fZ
 rw[aaE,aaE,asc]
 by_cases h:k=j
 ·rw[if_pos h,if_pos h.symm,if_pos (by omega)];rfl
 ·rw[if_neg h,if_neg (fun e=>h e.symm)]
def l7 (m:List Bool) (t:iU):List Bool:=bM (bM m t.fr false) t.to true
def bf (c:aS) (m:List Bool) (i:Nat):List Bool×Bool:=if allM m (c.trs.getD i aM).fr then (l7 m (c.trs.getD i aM),true) else (m,false)
def mkO (m:List Bool):Ob:=.arr 117 24 (fZ m)
def arf:Spec:=iR (fun a:aS×List Bool×Nat=>[jH a.1,uG a.2.1,iA a.2.2]) (fun a=>bD a.1=0∧je a.1∧a.2.1.length=24∧a.2.2<a.1.trs.length) (fun a=>.tup [tZ (bf a.1 a.2.1 a.2.2).1,bP (bf a.1 a.2.1 a.2.2).2])
theorem aj8:aL Tryz.prog 61 arf:=by
 refine aX (Tb:=tab) mixed aB Tryz.func61 rfl rfl ?_
 rintro ⟨c,m,i⟩ hpre
 refine ai (ai rfl (ai rfl rfl)) ?_
 obtain ⟨hc,ho,hm,hi⟩:=hpre
 have hc:bD c=0:=hc
 have ho:je c:=ho
 have hm:m.length=24:=hm
 have hi:i<c.trs.length:=hi
 obtain ⟨g1,g2,g3⟩:=kS hc hi
 have hto:=qd ho hi
 refine ai (ai (aaI _) (iN (n:=c.trs.length) (by omega))) (ai rfl ?_)
 refine ei _ (ai (aqb) (ei ((m,(c.trs.getD i aM).fr)) (ei [] (ai (a4 (ai (fun _=>Or.inl rfl) (ai nof (Or.inl rfl)))) (ai (by exact (ai (ai rfl (fun _ _=>rfl)) (ai rfl (fun _ _=>rfl)))) (ai trivial (ai (⟨g1.1,hto.1⟩) ?_)))))))
 refine aZ (b:=!allM m (c.trs.getD i aM).fr) rfl (fun h2=>?_) (fun h2=>?_)
 ·have h2:allM m (c.trs.getD i aM).fr=false:=by simpa using h2
  have e:bf c m i=(m,false):=by unfold bf;rw[h2];rfl
  refine ai (ai (fun h=>absurd (show false=true from h) (by decide)) ?_) trivial
  show ak _ (.tup [tZ (bf c m i).1,bP (bf c m i).2])
  rw[e]
  exact (ai (ai rfl (fun _ _=>rfl)) rfl)
 have h2:allM m (c.trs.getD i aM).fr=true:=by simpa using h2
 have e:bf c m i=(l7 m (c.trs.getD i aM),true):=by unfold bf;rw[h2];rfl
 have hf:(c.trs.getD i aM).fr.length≤1000000:=hto.1
 have ht:(c.trs.getD i aM).to.length≤1000000:=hto.2.1
 refine ei (bC.inv { X:=Nat,up:=fun k=>[(27,.s (iA k))],uo:=fun k=>[⟨1,117,[.ob (mkO (bM m ((c.trs.getD i aM).fr.take k) false))]⟩],inv:=fun k=>k≤(c.trs.getD i aM).fr.length∧(True),meas:=fun k=>(c.trs.getD i aM).fr.length-k,x0:=0 }) ?_
 refine ai (ai (ai (by exact (a4 (ai rfl rfl))) (ai ?_ ?_)) rfl) (ai (ai (abY _) ?_) ?_)
 ·exact (ai (ai (fun _=>rfl) (iE (by simp only[zz,reduceCtorEq];rfl))) rfl)
 ·exact (ai (ai rfl (ai rfl (fun _ _=>rfl))) trivial)
  skip
 ·trivial
 intro (k:Nat) ⟨hk,_⟩
 refine ah (p:=k<(c.trs.getD i aM).fr.length) (by simp only[zz,reduceCtorEq];omega) (fun h3=>?_) (fun h3=>?_)
 ·refine ai (ai (aaI _) (iN (n:=(c.trs.getD i aM).fr.length) (by omega))) (ai rfl ?_)
  have hx:=kN g1.1 h3
  have h24:((c.trs.getD i aM).fr.getD k 0).toNat<24:=by omega
  refine ai hx ?_
  refine ai (by show 0+((c.trs.getD i aM).fr.getD k 0).toNat*1<24;omega) ?_
  refine ei (k+1) (ai (ai rfl rfl) (ai (ai (ai rfl (ai (ai rfl rfl) (ai (ai rfl rfl) (ai (ai (ai (fun _=>rfl) (aO (by omega))) rfl) (ai (ai rfl (ai rfl ?_)) trivial))))) rfl) (ai (ai (iL (by omega)) trivial) (iM (by omega)))))
  intro q hq
  show pW (fZ (bM m ((c.trs.getD i aM).fr.take k) false)) (0+((c.trs.getD i aM).fr.getD k 0).toNat*1) (bP false) q=fZ (bM m ((c.trs.getD i aM).fr.take (k+1)) false) q
  rw[afG,anD,aiv (by rw[dR];exact hm) h24,aP 0 h3,pz]
 ·obtain rfl:k=(c.trs.getD i aM).fr.length:=by omega
  rw[afj]
  refine ei (bC.inv { X:=Nat,up:=fun j=>[(37,.s (iA j))],uo:=fun j=>[⟨1,117,[.ob (mkO (bM (bM m (c.trs.getD i aM).fr false) ((c.trs.getD i aM).to.take j) true))]⟩],inv:=fun j=>j≤(c.trs.getD i aM).to.length∧(True),meas:=fun j=>(c.trs.getD i aM).to.length-j,x0:=0 }) ?_
  refine ai (ai (ai (by exact (a4 (ai rfl rfl))) (ai ?_ ?_)) rfl) (ai (ai (abY _) ?_) ?_)
  ·exact (ai (ai (fun _=>rfl) (iE (by simp only[zz,reduceCtorEq];rfl))) rfl)
  ·exact (ai (ai rfl (ai rfl (fun _ _=>rfl))) trivial)
   skip
  ·trivial
  intro (j:Nat) ⟨hk,_⟩
  refine ah (p:=j<(c.trs.getD i aM).to.length) (by simp only[zz,reduceCtorEq];omega) (fun h3=>?_) (fun h3=>?_)
  ·refine ai (ai (aaI _) (iN (n:=(c.trs.getD i aM).to.length) (by omega))) (ai rfl ?_)
   have hx:=kN g2.1 h3
   have h24:((c.trs.getD i aM).to.getD j 0).toNat<24:=by omega
   refine ai hx ?_
   refine ai (by show 0+((c.trs.getD i aM).to.getD j 0).toNat*1<24;omega) ?_
   refine ei (j+1) (ai (ai rfl rfl) (ai (ai (ai rfl (ai (ai rfl rfl) (ai (ai rfl rfl) (ai (ai (ai (fun _=>rfl) (aO (by omega))) rfl) (ai (ai rfl (ai rfl ?_)) trivial))))) rfl) (ai (ai (iL (by omega)) trivial) (iM (by omega)))))
   intro q hq
   show pW (fZ (bM (bM m (c.trs.getD i aM).fr false) ((c.trs.getD i aM).to.take j) true)) (0+((c.trs.getD i aM).to.getD j 0).toNat*1) (bP true) q=fZ (bM (bM m (c.trs.getD i aM).fr false) ((c.trs.getD i aM).to.take (j+1)) true) q
   rw[afG,anD,aiv (by rw[dR];exact (dR _ _ _).trans hm) h24,aP 0 h3,pz]
  ·obtain rfl:j=(c.trs.getD i aM).to.length:=by omega
   rw[afj]
   refine ai (ai (fun h=>absurd (show false=true from h) (by decide)) ?_) trivial
   show ak _ (.tup [tZ (bf c m i).1,bP (bf c m i).2])
   rw[e]
   exact (ai (ai rfl (fun _ _=>rfl)) rfl)
def aqj (m:List Bool) (t:iU):PV:=.fn 125 [.pt (dX 24 (fZ m)) 0,.pt (trK t) 0]
def yX (l:List Int) (k:Int):Bool:=l.any fun y=>k==y
def jI (m:List Bool) (t:iU) (k:Int):Bool:=jv m k&&!yX t.fr k
theorem aod:aL Tryz.prog 125 (bQ (fun a:(List Bool×iU)×Int=>[iA a.2,.p false (.pt (dX 24 (fZ a.1.1)) 0),.p false (.pt (trK a.1.2) 0)]) (fun a=>(0≤a.2∧a.2<24)∧a.1.2.fr.length≤1000000) (fun a=>bP (jI a.1.1 a.1.2 a.2))):=by
 refine aX (Tb:=tab) mixed aB Tryz.func125 rfl rfl ?_
 rintro (a:(List Bool×iU)×Int) hpre
 refine ai (ai rfl (ai rfl rfl)) ?_
 obtain ⟨⟨h1,h2⟩,h3⟩:=hpre
 have h1:0≤a.2:=h1
 have h2:a.2<24:=h2
 refine ai ⟨h1,h2⟩ ?_
 refine ei (fZ a.1.1 a.2.toNat) (ai (by rw[afG];exact ani a.1.1 (by omega)) ?_)
 refine aZ (b:=jv a.1.1 a.2) rfl (fun h4=>?_) (fun h4=>?_)
 ·refine ei _ (ai (aoL) (ei ((a.1.2.fr,a.2)) (ei [] (ai (a4 (ai (fun _=>Or.inl rfl) (ai nof (Or.inl rfl)))) (ai (by exact (ai (ai rfl (fun _ _=>rfl)) rfl)) (ai trivial (ai (h3) ?_)))))))
  refine ai (ai (fun _=>trivial) ?_) trivial
  show ak _ (bP (jI a.1.1 a.1.2 a.2))
  rw[show jI a.1.1 a.1.2 a.2=!yX a.1.2.fr a.2 by unfold jI;rw[h4];rfl]
  exact rfl
 ·refine ai (ai (fun _=>trivial) ?_) trivial
  show ak _ (bP (jI a.1.1 a.1.2 a.2))
  rw[show jI a.1.1 a.1.2 a.2=false by unfold jI;rw[h4];rfl]
  exact rfl
def akc (a:(List Bool×iU)×List Int):Prop:=fU 24 a.2∧a.2.length≤1000000∧a.1.2.fr.length≤1000000
theorem aox:aL Tryz.prog 106 (bQ (fun a:(List Bool×iU)×List Int=>[isA a.2,.p false (aqj a.1.1 a.1.2)]) akc (fun a=>iP (jL (jI a.1.1 a.1.2) a.2))):=by
 refine aX (Tb:=tab) mixed aB Tryz.func106 rfl rfl ?_
 rintro (a:(List Bool×iU)×List Int) hpre
 refine ai (ai rfl (ai rfl rfl)) ?_
 obtain ⟨hx,hl,hf⟩:=hpre
 have hl:a.2.length≤1000000:=hl
 refine ei (bC.inv { X:=Nat,up:=fun k=>[(8,.s (iA k))],uo:=fun k=>[],inv:=fun k=>k≤a.2.length∧(∀y∈a.2.take k,jI a.1.1 a.1.2 y=false),meas:=fun k=>a.2.length-k,x0:=0 }) ?_
 refine ai (ai (ai (by exact (a4 (ai rfl rfl))) (ai (by exact (ai (ai (fun _=>rfl) (iE (by simp only[zz,reduceCtorEq];rfl))) rfl)) (by exact trivial))) rfl) (ai (ai (abY _) ?_) ?_)
 ·exact fun y hy=>absurd hy (by simp)
 intro (k:Nat) ⟨hk,hall⟩
 refine ah (p:=k<a.2.length) (au (by omega)) (fun h1=>?_) (fun h1=>?_)
 ·refine ai (ai (aaI _) (iN (n:=a.2.length) (by omega))) (ai rfl ?_)
  refine ei _ (ai (aod) (ei ((a.1,a.2.getD k 0)) (ei [] (ai (a4 (ai (fun _=>Or.inl rfl) (ai nof (Or.inl rfl)))) (ai (by exact (ai (iE (by simp only[zz,reduceCtorEq])) (ai (ai rfl rfl) (ai rfl rfl)))) (ai trivial (ai (⟨kN hx h1,hf⟩) ?_)))))))
  refine aZ (b:=jI a.1.1 a.1.2 (a.2.getD k 0)) rfl (fun h2=>?_) (fun h2=>?_)
  ·refine ai (ai (fun _=>trivial) ?_) trivial
   show ak _ (iP (jL (jI a.1.1 a.1.2) a.2))
   rw[rV (d:=0) h1 h2 hall]
   exact rfl
  refine ei (k+1) (ai (ai rfl rfl) (ai (ai (ai rfl (ai (ai rfl rfl) (ai (ai rfl rfl) (ai (ai (ai (fun _=>rfl) (aO (by omega))) rfl) trivial)))) rfl) (ai (ai (iL (by omega)) ?_) (iM (by omega)))))
  intro y hy
  rw[aP 0 h1] at hy
  rcases afA.1 hy with hy | hy
  ·exact hall y hy
  ·simp only[afq] at hy;subst hy;exact h2
 ·obtain rfl:k=a.2.length:=by omega
  rw[afj] at hall
  refine ai (ai (fun _=>trivial) ?_) trivial
  show ak _ (iP (jL (jI a.1.1 a.1.2) a.2))
  rw[vG hall]
  exact rfl
theorem an5:aL Tryz.prog 38 (bQ (fun a:(List Bool×iU)×List Int=>[isA a.2,.p false (aqj a.1.1 a.1.2)]) akc (fun a=>bP (a.2.any (jI a.1.1 a.1.2)))):=by
 refine aX (Tb:=tab) mixed aB Tryz.func38 rfl rfl ?_
 rintro (a:(List Bool×iU)×List Int) hpre
 refine ai (ai rfl (ai rfl rfl)) ?_
 refine ei _ (ai (aox) (ei (a) (ei [] (ai (a4 (ai (fun _=>Or.inl rfl) (ai nof (Or.inl rfl)))) (ai (by exact (ai (ai rfl (fun _ _=>rfl)) (ai rfl rfl))) (ai trivial (ai (hpre) ?_)))))))
 refine ai (ai (fun _=>trivial) ?_) trivial
 show ak _ (bP (a.2.any (jI a.1.1 a.1.2)))
 rw[(sF (jI a.1.1 a.1.2) a.2).symm]
 exact rfl
def vT (c:aS) (m:List Bool) (i:Nat):Bool:=(c.trs.getD i aM).to.any (jI m (c.trs.getD i aM))
def arb:Spec:=bQ (fun a:aS×List Bool×Nat=>[jH a.1,uG a.2.1,iA a.2.2]) (fun a=>bD a.1=0∧je a.1∧a.2.2<a.1.trs.length) (fun a=>bP (vT a.1 a.2.1 a.2.2))
theorem aeo:aL Tryz.prog 62 arb:=by
 refine jG [3000015] ?_
 refine aX (Tb:=tab) mixed aB Tryz.func62 rfl rfl ?_
 rintro ⟨c,m,i⟩ hpre
 refine ai (ai rfl (ai rfl rfl)) ?_
 obtain ⟨hc,ho,hi⟩:=hpre
 have hc:bD c=0:=hc
 have ho:je c:=ho
 have hi:i<c.trs.length:=hi
 obtain ⟨g1,g2,g3⟩:=kS hc hi
 have hto:=qd ho hi
 refine ai (ai (aaI _) (iN (n:=c.trs.length) (by omega))) (ai rfl ?_)
 refine ei _ (ai (an5) (ei (((m,c.trs.getD i aM),(c.trs.getD i aM).to)) (ei [] (ai (a4 (ai (fun _=>Or.inl rfl) (ai nof (Or.inl rfl)))) (ai (by exact (ai (ai rfl (fun _ _=>rfl)) (ai rfl rfl))) (ai trivial (ai (⟨g2.1,hto.2.1,hto.1⟩) ?_)))))))
 refine ai (ai (fun _=>trivial) ?_) trivial
 exact rfl
def ko (c:aS) (m:List Bool) (l:List Int):List Bool:=l.foldl (fun m i=>bM m (c.trs.getD i.toNat aM).to true) m
theorem aje (c:aS) (m:List Bool) (l:List Int) (i:Int):ko c m (l++[i])=bM (ko c m l) (c.trs.getD i.toNat aM).to true:=by unfold ko;rw[aq6];rfl
theorem aez (c:aS):∀(l:List Int) (m:List Bool),(ko c m l).length=m.length
 | [],_=>rfl
 | i :: l,m=>by
  show (ko c (bM m (c.trs.getD i.toNat aM).to true) l).length=_
  rw[aez c l,dR]
theorem aal {α:Type} {l m:List α} {k:Nat} (d:α) (h1:k<l.length) (h2:k<m.length) (h:l.take k=m.take k) (e:l.getD k d=m.getD k d):l.take (k+1)=m.take (k+1):=by
 rw[aP d h1,aP d h2,h,e]
def ao0:Spec:=bQ (fun a:List (Int)×List (Int)=>[isA a.1,isA a.2]) (fun a=>a.1.length≤1000000) (fun a=>bP (decide (a.1=a.2)))
theorem amu:aL Tryz.prog 16 ao0:=by
 refine aX (Tb:=tab) mixed aB Tryz.func16 rfl rfl ?_
 rintro (a:List (Int)×List (Int)) hpre
 refine ai (ai rfl (ai rfl rfl)) ?_
 have hl:a.1.length≤1000000:=hpre
 refine bE (p:=a.1.length=a.2.length) (bT (by omega)) (fun h1=>?_) (fun h1=>?_)
 ·refine ai (ai (fun _=>trivial) ?_) trivial
  show ak _ (bP (decide (a.1=a.2)))
  rw[decide_eq_false (fun h=>h1 (congrArg List.length h))]
  exact rfl
 refine ei (bC.inv { X:=Nat,up:=fun k=>[(5,.s (iA k))],uo:=fun k=>[],inv:=fun k=>k≤a.1.length∧(a.1.take k=a.2.take k),meas:=fun k=>a.1.length-k,x0:=0 }) ?_
 refine ai (ai (ai (by exact (a4 (ai rfl rfl))) (ai (by exact (ai (ai (fun _=>rfl) (iE (by simp only[zz,reduceCtorEq];rfl))) rfl)) (by exact trivial))) rfl) (ai (ai (abY _) ?_) ?_)
 ·rfl
 intro (k:Nat) ⟨hk,hall⟩
 refine ah (p:=k<a.1.length) (au (by omega)) (fun h4=>?_) (fun h4=>?_)
 ·refine ei (.seq [0,1,2,3,4,5,6,7,8]) (ai (by kernel_rfl) ?_)
  refine ai (ai (aaI _) (iN (n:=a.1.length) (by omega))) (ai rfl ?_)
  refine ai (ai (aaI _) (iN (n:=a.2.length) (by omega))) (ai rfl ?_)
  refine bE (p:=a.1.getD k 0=a.2.getD k 0) (by exact bne_iff_ne) (fun h5=>?_) (fun h5=>?_)
  ·refine ai (ai (fun _=>trivial) ?_) trivial
   show ak _ (bP (decide (a.1=a.2)))
   rw[decide_eq_false (fun h=>h5 (by rw[h]))]
   exact rfl
  refine ei (k+1) (ai (ai rfl rfl) (ai (ai (ai rfl (ai (ai rfl rfl) (ai (ai rfl rfl) (ai (ai (ai (fun _=>rfl) (aO (by omega))) rfl) trivial)))) rfl) (ai (ai (iL (by omega)) ?_) (iM (by omega)))))
  exact aal 0 h4 (by omega) hall h5
 ·obtain rfl:k=a.1.length:=by omega
  rw[afj,h1,afj] at hall
  refine ai (ai (fun _=>trivial) ?_) trivial
  show ak _ (bP (decide (a.1=a.2)))
  rw[decide_eq_true hall]
  exact rfl
def akK:Spec:=bQ (fun a:List (Bool)×List (Bool)=>[bsA a.1,bsA a.2]) (fun a=>a.1.length≤1000000) (fun a=>bP (decide (a.1=a.2)))
theorem amN:aL Tryz.prog 120 akK:=by
 refine aX (Tb:=tab) mixed aB Tryz.func120 rfl rfl ?_
 rintro (a:List (Bool)×List (Bool)) hpre
 refine ai (ai rfl (ai rfl rfl)) ?_
 have hl:a.1.length≤1000000:=hpre
 refine bE (p:=a.1.length=a.2.length) (bT (by omega)) (fun h1=>?_) (fun h1=>?_)
 ·refine ai (ai (fun _=>trivial) ?_) trivial
  show ak _ (bP (decide (a.1=a.2)))
  rw[decide_eq_false (fun h=>h1 (congrArg List.length h))]
  exact rfl
 refine ei (bC.inv { X:=Nat,up:=fun k=>[(5,.s (iA k))],uo:=fun k=>[],inv:=fun k=>k≤a.1.length∧(a.1.take k=a.2.take k),meas:=fun k=>a.1.length-k,x0:=0 }) ?_
 refine ai (ai (ai (by exact (a4 (ai rfl rfl))) (ai (by exact (ai (ai (fun _=>rfl) (iE (by simp only[zz,reduceCtorEq];rfl))) rfl)) (by exact trivial))) rfl) (ai (ai (abY _) ?_) ?_)
 ·rfl
 intro (k:Nat) ⟨hk,hall⟩
 refine ah (p:=k<a.1.length) (au (by omega)) (fun h4=>?_) (fun h4=>?_)
 ·refine ei (.seq [0,1,2,3,4,5,6,7,8]) (ai (by kernel_rfl) ?_)
  refine ai (ai (aaI _) (iN (n:=a.1.length) (by omega))) (ai rfl ?_)
  refine ai (ai (aaI _) (iN (n:=a.2.length) (by omega))) (ai rfl ?_)
  refine bE (p:=a.1.getD k false=a.2.getD k false) (by exact bne_iff_ne) (fun h5=>?_) (fun h5=>?_)
  ·refine ai (ai (fun _=>trivial) ?_) trivial
   show ak _ (bP (decide (a.1=a.2)))
   rw[decide_eq_false (fun h=>h5 (by rw[h]))]
   exact rfl
  refine ei (k+1) (ai (ai rfl rfl) (ai (ai (ai rfl (ai (ai rfl rfl) (ai (ai rfl rfl) (ai (ai (ai (fun _=>rfl) (aO (by omega))) rfl) trivial)))) rfl) (ai (ai (iL (by omega)) ?_) (iM (by omega)))))
  exact aal false h4 (by omega) hall h5
 ·obtain rfl:k=a.1.length:=by omega
  rw[afj,h1,afj] at hall
  refine ai (ai (fun _=>trivial) ?_) trivial
  show ak _ (bP (decide (a.1=a.2)))
  rw[decide_eq_true hall]
  exact rfl
theorem af8:aL Tryz.prog 54 akK:=by
 refine aX (Tb:=tab) mixed aB Tryz.func54 rfl rfl ?_
 rintro (a:List Bool×List Bool) hpre
 refine ai (ai rfl (ai rfl rfl)) ?_
 refine ei _ (ai (amN) (ei (a) (ei [] (ai (a4 (ai (fun _=>Or.inl rfl) (ai nof (Or.inl rfl)))) (ai (by exact (ai (ai rfl (fun _ _=>rfl)) (ai rfl (fun _ _=>rfl)))) (ai trivial (ai (hpre) ?_)))))))
 refine ai (ai (fun _=>trivial) ?_) trivial
 exact rfl
theorem am0:aL Tryz.prog 129 (bQ (fun a:List Int×Int=>[isA a.1,iA a.2]) (fun a=>a.1.length≤1000000) (fun a=>bP (yX a.1 a.2))):=by
 refine aX (Tb:=tab) mixed aB Tryz.func129 rfl rfl ?_
 rintro (a:List Int×Int) hpre
 refine ai (ai rfl (ai rfl rfl)) ?_
 have hl:a.1.length≤1000000:=hpre
 refine ei (bC.inv { X:=Nat,up:=fun k=>[(5,.s (iA k))],uo:=fun k=>[],inv:=fun k=>k≤a.1.length∧(∀y∈a.1.take k,(a.2==y)=false),meas:=fun k=>a.1.length-k,x0:=0 }) ?_
 refine ai (ai (ai (by exact (a4 (ai rfl rfl))) (ai (by exact (ai (ai (fun _=>rfl) (iE (by simp only[zz,reduceCtorEq];rfl))) rfl)) (by exact trivial))) rfl) (ai (ai (abY _) ?_) ?_)
 ·exact fun y hy=>absurd hy (by simp)
 intro (k:Nat) ⟨hk,hall⟩
 refine ah (p:=k<a.1.length) (au (by omega)) (fun h1=>?_) (fun h1=>?_)
 ·refine ai (ai (aaI _) (iN (n:=a.1.length) (by omega))) (ai rfl ?_)
  refine ah (p:=a.1.getD k 0=a.2) (by simp only[zz,reduceCtorEq]) (fun h2=>?_) (fun h2=>?_)
  ·refine ai (ai (fun _=>trivial) ?_) trivial
   show ak _ (bP (yX a.1 a.2))
   rw[show yX a.1 a.2=true from uW (d:=0) h1 (by rw[h2];exact beq_self_eq_true _)]
   exact rfl
  refine ei (k+1) (ai (ai rfl rfl) (ai (ai (ai rfl (ai (ai rfl rfl) (ai (ai rfl rfl) (ai (ai (ai (fun _=>rfl) (aO (by omega))) rfl) trivial)))) rfl) (ai (ai (iL (by omega)) ?_) (iM (by omega)))))
  intro y hy
  rw[aP 0 h1] at hy
  rcases afA.1 hy with hy | hy
  ·exact hall y hy
  ·simp only[afq] at hy;subst hy;exact beq_eq_false_iff_ne.2 fun e=>h2 e.symm
 ·obtain rfl:k=a.1.length:=by omega
  rw[afj] at hall
  refine ai (ai (fun _=>trivial) ?_) trivial
  show ak _ (bP (yX a.1 a.2))
  rw[show yX a.1 a.2=false from arM.2 (fun y hy=>by rw[hall y hy];decide)]
  exact rfl
theorem afZ:aL Tryz.prog 104 (bQ (fun a:iU×List Bool=>[trA a.1,bsA a.2]) (fun a=>fU a.2.length a.1.fr∧a.1.fr.length≤1000000) (fun a=>bP (allM a.2 a.1.fr))):=by
 refine aX (Tb:=tab) mixed aB Tryz.func104 rfl rfl ?_
 rintro (a:iU×List Bool) hpre
 refine ai (ai rfl (ai rfl rfl)) ?_
 obtain ⟨hx,hl⟩:=hpre
 have hl:a.1.fr.length≤1000000:=hl
 refine ei (bC.inv { X:=Nat,up:=fun k=>[(5,.s (iA k))],uo:=fun k=>[],inv:=fun k=>k≤a.1.fr.length∧(∀y∈a.1.fr.take k,jv a.2 y=true),meas:=fun k=>a.1.fr.length-k,x0:=0 }) ?_
 refine ai (ai (ai (by exact (a4 (ai rfl rfl))) (ai (by exact (ai (ai (fun _=>rfl) (iE (by simp only[zz,reduceCtorEq];rfl))) rfl)) (by exact trivial))) rfl) (ai (ai (abY _) ?_) ?_)
 ·exact fun y hy=>absurd hy (by simp)
 intro (k:Nat) ⟨hk,hall⟩
 refine ah (p:=k<a.1.fr.length) (au (by omega)) (fun h1=>?_) (fun h1=>?_)
 ·refine ai (ai (aaI _) (iN (n:=a.1.fr.length) (by omega))) (ai rfl ?_)
  refine ai (kN hx h1) ?_
  refine ai rfl ?_
  refine aZ (b:=!jv a.2 (a.1.fr.getD k 0)) rfl (fun h2=>?_) (fun h2=>?_)
  ·have h2:jv a.2 (a.1.fr.getD k 0)=false:=by simpa using h2
   refine ai (ai (fun _=>trivial) ?_) trivial
   show ak _ (bP (allM a.2 a.1.fr))
   rw[show allM a.2 a.1.fr=false by unfold allM;rw[aqW];exact ⟨_,aaS (bH 0 h1),by rw[h2];decide⟩]
   exact rfl
  refine ei (k+1) (ai (ai rfl rfl) (ai (ai (ai rfl (ai (ai rfl rfl) (ai (ai rfl rfl) (ai (ai (ai (fun _=>rfl) (aO (by omega))) rfl) trivial)))) rfl) (ai (ai (iL (by omega)) ?_) (iM (by omega)))))
  intro y hy
  rw[aP 0 h1] at hy
  rcases afA.1 hy with hy | hy
  ·exact hall y hy
  ·simp only[afq] at hy;subst hy;simpa using h2
 ·obtain rfl:k=a.1.fr.length:=by omega
  rw[afj] at hall
  refine ai (ai (fun _=>trivial) ?_) trivial
  show ak _ (bP (allM a.2 a.1.fr))
  rw[show allM a.2 a.1.fr=true from akZ.2 hall]
  exact rfl
def iI (c:aS) (m:List Bool) (l:List Int):List Bool:=l.foldl (fun m i=>bM m (c.trs.getD i.toNat aM).fr false) m
theorem ahp (c:aS) (m:List Bool) (l:List Int) (i:Int):iI c m (l++[i])=bM (iI c m l) (c.trs.getD i.toNat aM).fr false:=by unfold iI;rw[aq6];rfl
theorem acV (c:aS):∀(l:List Int) (m:List Bool),(iI c m l).length=m.length
 | [],_=>rfl
 | i :: l,m=>by
  show (iI c (bM m (c.trs.getD i.toNat aM).fr false) l).length=_
  rw[acV c l,dR]
def xU (c:aS) (a:List Bool) (l:List Int):List Bool:=ko c (iI c a l) l
def bsR (l:List Bool):LV:=.rw 4 1 l.length (fun k=>[bP (l.getD k false)])
theorem aiF {m:List Bool} {j:Nat} (hj:j<m.length) (b:Bool):∀k,kr (fun k=>[bP (m.getD k false)]) j 0 [bP b] k=[bP ((m.set j b).getD k false)]:=by
 intro k
 unfold kr
 rw[aaE (l:=m.set j b),asc]
 by_cases h:k=j
 ·rw[if_pos h,if_pos h.symm,if_pos hj];rfl
 ·rw[if_neg h,if_neg (fun e=>h e.symm),←aaE]
def ap4 (a:aS×List Bool×List Int):Prop:=bD a.1=0∧je a.1∧a.2.1.length=a.1.sts.length∧fU a.1.trs.length a.2.2∧a.2.2.length≤1000000
def arq:Spec:=bQ (fun a:aS×List Bool×List Int=>[jH a.1,bsA a.2.1,isA a.2.2]) ap4 (fun a=>lN (xU a.1 a.2.1 a.2.2))
theorem amG:aL Tryz.prog 118 arq:=by
 refine aX (Tb:=tab) mixed aB Tryz.func118 rfl rfl ?_
 rintro ⟨c,a,l⟩ hpre
 refine ai (ai rfl (ai rfl rfl)) ?_
 obtain ⟨hc,ho,ha,hx,hl⟩:=hpre
 have hc:bD c=0:=hc
 have ho:je c:=ho
 have ha:a.length=c.sts.length:=ha
 have hx:fU c.trs.length l:=hx
 have hl:l.length≤1000000:=hl
 have h24:=(jg hc).2.2.1.2
 refine ai (mxL (n:=0+a.length) (by omega) (by decide)) (ai (fun _ _=>rfl) ?_)
 refine ei (bC.inv { X:=Nat,up:=fun k=>[(21,.s (iA k)),(7,bsR (iI c a (l.take k)))],uo:=fun k=>[],inv:=fun k=>k≤l.length∧(True),meas:=fun k=>l.length-k,x0:=0 }) ?_
 refine ai (ai (ai (by exact (a4 (ai rfl rfl))) (ai ?_ ?_)) rfl) (ai (ai (abY _) ?_) ?_)
 ·refine (ai (ai (ai (fun _=>rfl) (iE (by simp only[zz,reduceCtorEq];rfl))) rfl) (ai rfl (ai rfl (ai ?_ (fun _ _=>rfl)))))
  exact afG _
 ·exact trivial
 ·trivial
 intro (k:Nat) ⟨hk,_⟩
 have s1:(iI c a (l.take k)).length=c.sts.length:=(acV _ _ _).trans ha
 refine ah (p:=k<l.length) (au (by dsimp only;omega)) (fun h2=>?_) (fun h2=>?_)
 ·refine ai (ai (aaI _) (iN (n:=l.length) (by omega))) (ai rfl ?_)
  have hx0:=kN hx h2
  have hi:(l.getD k 0).toNat<c.trs.length:=by omega
  obtain ⟨q1,q2,q3⟩:=kS hc hi
  have hto:=qd ho hi
  have hst:iI c a (l.take (k+1))=bM (iI c a (l.take k)) (c.trs.getD (l.getD k 0).toNat aM).fr false:=by rw[aP 0 h2,ahp]
  refine ai hx0 ?_
  refine ai rfl ?_
  have hf:(c.trs.getD (l.getD k 0).toNat aM).fr.length≤1000000:=hto.1
  refine ei (bC.inv { X:=Nat,up:=fun j=>[(32,.s (iA j)),(7,bsR (bM (iI c a (l.take k)) ((c.trs.getD (l.getD k 0).toNat aM).fr.take j) false))],uo:=fun j=>[],inv:=fun j=>j≤(c.trs.getD (l.getD k 0).toNat aM).fr.length∧(True),meas:=fun j=>(c.trs.getD (l.getD k 0).toNat aM).fr.length-j,x0:=0 }) ?_
  refine ai (ai (ai (by exact (a4 (ai rfl rfl))) (ai ?_ ?_)) rfl) (ai (ai (abY _) ?_) ?_)
  ·exact (ai (ai (ai (fun _=>rfl) (iE (by simp only[zz,reduceCtorEq];rfl))) rfl) (ai rfl (ai rfl (ai rfl (fun _ _=>rfl)))))
   skip
  ·exact trivial
  ·trivial
  intro (j:Nat) ⟨hk1,_⟩
  have hsl:(bM (iI c a (l.take k)) ((c.trs.getD (l.getD k 0).toNat aM).fr.take j) false).length=c.sts.length:=(dR _ _ _).trans s1
  refine ah (p:=j<(c.trs.getD (l.getD k 0).toNat aM).fr.length) (by simp only[zz,reduceCtorEq];omega) (fun h3=>?_) (fun h3=>?_)
  ·refine ai (ai (aaI _) (iN (n:=(c.trs.getD (l.getD k 0).toNat aM).fr.length) (by omega))) (ai rfl ?_)
   have hxx:=kN q1.2 h3
   have hxn:((c.trs.getD (l.getD k 0).toNat aM).fr.getD j 0).toNat<(bM (iI c a (l.take k)) ((c.trs.getD (l.getD k 0).toNat aM).fr.take j) false).length:=by omega
   refine ai (by show 0≤(c.trs.getD (l.getD k 0).toNat aM).fr.getD j 0∧(c.trs.getD (l.getD k 0).toNat aM).fr.getD j 0<((bM (iI c a (l.take k)) ((c.trs.getD (l.getD k 0).toNat aM).fr.take j) false).length:Int);rw[hsl];exact hxx) ?_
   refine ai (ai hxn (by decide)) ?_
   refine ei (j+1) (ai (ai rfl rfl) (ai (ai (ai rfl (ai (ai rfl rfl) (ai (ai rfl rfl) (ai (ai (ai (ai (fun _=>rfl) (aO (by omega))) rfl) (ai rfl (ai rfl (ai ?_ ?_)))) trivial)))) rfl) (ai (ai (iL (by omega)) trivial) (iM (by omega)))))
   ·rw[dR,dR]
   ·intro q hq
    show kr (fun w'=>[bP ((bM (iI c a (l.take k)) ((c.trs.getD (l.getD k 0).toNat aM).fr.take j) false).getD w' false)]) ((c.trs.getD (l.getD k 0).toNat aM).fr.getD j 0).toNat 0 [bP false] q=[bP ((bM (iI c a (l.take k)) ((c.trs.getD (l.getD k 0).toNat aM).fr.take (j+1)) false).getD q false)]
    rw[aiF hxn,aP 0 h3,pz]
  ·obtain rfl:j=(c.trs.getD (l.getD k 0).toNat aM).fr.length:=by omega
   rw[afj]
   refine ei (k+1) (ai (ai rfl rfl) (ai (ai (ai rfl (ai (ai rfl rfl) (ai (ai rfl rfl) (ai (ai (ai (ai (fun _=>rfl) (aO (by omega))) rfl) (ai rfl (ai rfl (ai ?_ ?_)))) trivial)))) rfl) (ai (ai (iL (by omega)) trivial) (iM (by omega)))))
   ·rw[hst]
   ·rw[hst];exact fun _ _=>rfl
 ·obtain rfl:k=l.length:=by omega
  rw[afj] at s1
  rw[afj]
  have hE:xU c a l=ko c (iI c a l) l:=rfl
  generalize iI c a l=m at *
  refine ei (bC.inv { X:=Nat,up:=fun k=>[(43,.s (iA k)),(7,bsR (ko c m (l.take k)))],uo:=fun k=>[],inv:=fun k=>k≤l.length∧(True),meas:=fun k=>l.length-k,x0:=0 }) ?_
  refine ai (ai (ai (by exact (a4 (ai rfl rfl))) (ai ?_ ?_)) rfl) (ai (ai (abY _) ?_) ?_)
  ·exact (ai (ai (ai (fun _=>rfl) (iE (by simp only[zz,reduceCtorEq];rfl))) rfl) (ai rfl (ai rfl (ai rfl (fun _ _=>rfl)))))
  ·exact trivial
  ·trivial
  intro (k:Nat) ⟨hk,_⟩
  have s2:(ko c m (l.take k)).length=c.sts.length:=(aez _ _ _).trans s1
  refine ah (p:=k<l.length) (au (by dsimp only;omega)) (fun h2=>?_) (fun h2=>?_)
  ·refine ai (ai (aaI _) (iN (n:=l.length) (by omega))) (ai rfl ?_)
   have hx0:=kN hx h2
   have hi:(l.getD k 0).toNat<c.trs.length:=by omega
   obtain ⟨q1,q2,q3⟩:=kS hc hi
   have hto:=qd ho hi
   have hst:ko c m (l.take (k+1))=bM (ko c m (l.take k)) (c.trs.getD (l.getD k 0).toNat aM).to true:=by rw[aP 0 h2,aje]
   refine ai hx0 ?_
   refine ai rfl ?_
   have hf:(c.trs.getD (l.getD k 0).toNat aM).to.length≤1000000:=hto.2.1
   refine ei (bC.inv { X:=Nat,up:=fun j=>[(54,.s (iA j)),(7,bsR (bM (ko c m (l.take k)) ((c.trs.getD (l.getD k 0).toNat aM).to.take j) true))],uo:=fun j=>[],inv:=fun j=>j≤(c.trs.getD (l.getD k 0).toNat aM).to.length∧(True),meas:=fun j=>(c.trs.getD (l.getD k 0).toNat aM).to.length-j,x0:=0 }) ?_
   refine ai (ai (ai (by exact (a4 (ai rfl rfl))) (ai ?_ ?_)) rfl) (ai (ai (abY _) ?_) ?_)
   ·exact (ai (ai (ai (fun _=>rfl) (iE (by simp only[zz,reduceCtorEq];rfl))) rfl) (ai rfl (ai rfl (ai rfl (fun _ _=>rfl)))))
    skip
   ·exact trivial
   ·trivial
   intro (j:Nat) ⟨hk1,_⟩
   have hsl:(bM (ko c m (l.take k)) ((c.trs.getD (l.getD k 0).toNat aM).to.take j) true).length=c.sts.length:=(dR _ _ _).trans s2
   refine ah (p:=j<(c.trs.getD (l.getD k 0).toNat aM).to.length) (by simp only[zz,reduceCtorEq];omega) (fun h3=>?_) (fun h3=>?_)
   ·refine ai (ai (aaI _) (iN (n:=(c.trs.getD (l.getD k 0).toNat aM).to.length) (by omega))) (ai rfl ?_)
    have hxx:=kN q2.2 h3
    have hxn:((c.trs.getD (l.getD k 0).toNat aM).to.getD j 0).toNat<(bM (ko c m (l.take k)) ((c.trs.getD (l.getD k 0).toNat aM).to.take j) true).length:=by omega
    refine ai (by show 0≤(c.trs.getD (l.getD k 0).toNat aM).to.getD j 0∧(c.trs.getD (l.getD k 0).toNat aM).to.getD j 0<((bM (ko c m (l.take k)) ((c.trs.getD (l.getD k 0).toNat aM).to.take j) true).length:Int);rw[hsl];exact hxx) ?_
    refine ai (ai hxn (by decide)) ?_
    refine ei (j+1) (ai (ai rfl rfl) (ai (ai (ai rfl (ai (ai rfl rfl) (ai (ai rfl rfl) (ai (ai (ai (ai (fun _=>rfl) (aO (by omega))) rfl) (ai rfl (ai rfl (ai ?_ ?_)))) trivial)))) rfl) (ai (ai (iL (by omega)) trivial) (iM (by omega)))))
    ·rw[dR,dR]
    ·intro q hq
     show kr (fun w'=>[bP ((bM (ko c m (l.take k)) ((c.trs.getD (l.getD k 0).toNat aM).to.take j) true).getD w' false)]) ((c.trs.getD (l.getD k 0).toNat aM).to.getD j 0).toNat 0 [bP true] q=[bP ((bM (ko c m (l.take k)) ((c.trs.getD (l.getD k 0).toNat aM).to.take (j+1)) true).getD q false)]
     rw[aiF hxn,aP 0 h3,pz]
   ·obtain rfl:j=(c.trs.getD (l.getD k 0).toNat aM).to.length:=by omega
    rw[afj]
    refine ei (k+1) (ai (ai rfl rfl) (ai (ai (ai rfl (ai (ai rfl rfl) (ai (ai rfl rfl) (ai (ai (ai (ai (fun _=>rfl) (aO (by omega))) rfl) (ai rfl (ai rfl (ai ?_ ?_)))) trivial)))) rfl) (ai (ai (iL (by omega)) trivial) (iM (by omega)))))
    ·rw[hst]
    ·rw[hst];exact fun _ _=>rfl
  ·obtain rfl:k=l.length:=by omega
   rw[afj]
   refine ai (ai (fun _=>(by exact (fun _ _=>rfl))) ?_) trivial
   show ak _ (lN (xU c a l))
   rw[hE]
   exact (ai rfl (fun _ _=>rfl))
structure mH where
 act:Int
 sts:List Stp
def sqK (s:mH):List PV:=[iP s.act,ajR s.sts]
def sqA (s:mH):SV:=.p false (.agg (sqK s))
def uV (l:List Sk) (k:Nat):Int:=if (l.getD k bI).1<0∨6≤(l.getD k bI).1 then 2 else if 0<k∧(l.getD k bI).1=(l.getD (k-1) bI).1 then 7 else if 0<k∧(l.getD k bI).1<(l.getD (k-1) bI).1 then 9 else 0
def jM (x:Stp):Int:=if x.st.length=0 then 13 else if 6<x.st.length then 5 else if ¬dz (uV x.st) x.st.length=0 then dz (uV x.st) x.st.length else if x.wt<0∨1000000<x.wt then 2 else 0
def amq (x:Int):Bool:=decide (0≤x)&&decide (x<6)
theorem afT {x:Int}:amq x=true↔0≤x∧x<6:=by unfold amq;rw[ae7,decide_eq_true_iff,decide_eq_true_iff]
theorem ael:aL Tryz.prog 168 (bQ (fun x:Int=>[iA x]) (fun _=>True) (fun x=>bP (decide (0≤x)&&decide (x<6)))):=by
 refine aX (Tb:=tab) mixed aB Tryz.func168 rfl rfl ?_
 rintro (x:Int) hpre
 refine ai (ai rfl (ai rfl rfl)) ?_
 refine ah (p:=0≤x) (cB (by omega)) (fun h1=>?_) (fun h1=>?_)
 ·refine ai (ai (fun _=>trivial) ?_) trivial
  show ak _ (bP (decide (0≤x)&&decide (x<6)))
  rw[decide_eq_true h1,ahS]
  exact rfl
 ·refine ai (ai (fun _=>trivial) ?_) trivial
  show ak _ (bP (decide (0≤x)&&decide (x<6)))
  rw[decide_eq_false h1,anC]
  exact rfl
def uf (l:List Sk) (k:Nat):Int:=if k=0 then -1 else (l.getD (k-1) bI).1
def arl:Spec:=bQ (fun x:Stp=>[stA x]) (fun _=>True) (fun x=>iP (jM x))
theorem apV:aL Tryz.prog 164 arl:=by
 refine aX (Tb:=tab) mixed aB Tryz.func164 rfl rfl ?_
 rintro (x:Stp) hpre
 refine ai (ai rfl (ai rfl rfl)) ?_
 refine ah (p:=x.st.length=0) (gY (by omega)) (fun h1=>?_) (fun h1=>?_)
 ·refine ai (ai (fun _=>trivial) ?_) trivial
  show ak _ (iP (jM x))
  rw[jM,if_pos h1]
  exact rfl
 refine ah (p:=6<x.st.length) (au (by omega)) (fun h2=>?_) (fun h2=>?_)
 ·refine ai (ai (fun _=>trivial) ?_) trivial
  show ak _ (iP (jM x))
  rw[jM,if_neg h1,if_pos h2]
  exact rfl
 have hA:∀e,dz (uV x.st) x.st.length=e→¬e=0→jM x=e:=fun e h h0=>by unfold jM;rw[if_neg h1,if_neg h2,if_pos (by rw[h];exact h0),h]
 refine ei (bC.inv { X:=Nat,up:=fun k=>[(19,.s (iA k)),(4,.s (iA (uf x.st k)))],uo:=fun k=>[],inv:=fun k=>k≤x.st.length∧(∀j,j<k→uV x.st j=0),meas:=fun k=>x.st.length-k,x0:=0 }) ?_
 refine ai (ai (ai (by exact (a4 (ai rfl rfl))) (ai (by exact (ai (ai (ai (fun _=>rfl) (iE (by simp only[zz,reduceCtorEq];rfl))) rfl) (ai (ai (fun _=>rfl) (iE (by simp only[zz,reduceCtorEq];rfl))) rfl))) (by exact trivial))) rfl) (ai (ai (abY _) ?_) ?_)
 ·exact fun j hj=>absurd hj (akN _)
 intro (k:Nat) ⟨hk,hall⟩
 refine ah (p:=k<x.st.length) (au (by omega)) (fun h3=>?_) (fun h3=>?_)
 ·refine ai (ai (aaI _) (iN (n:=x.st.length) (by omega))) (ai rfl ?_)
  refine ei _ (ai (ael) (ei ((x.st.getD k bI).1) (ei [] (ai (a4 (ai (fun _=>Or.inl rfl) (ai nof (Or.inl rfl)))) (ai (by exact (iE (by simp only[zz,reduceCtorEq]))) (ai trivial (ai (trivial) ?_)))))))
  refine aZ (b:=!amq (x.st.getD k bI).1) rfl (fun h4=>?_) (fun h4=>?_)
  ·have h4:¬(0≤(x.st.getD k bI).1∧(x.st.getD k bI).1<6):=by rw[←afT];simpa using h4
   have e:uV x.st k=2:=by unfold uV;rw[if_pos (by omega)]
   refine ai (ai (fun _=>trivial) ?_) trivial
   show ak _ (iP (jM x))
   rw[hA 2 ((cO h3 hall (by rw[e];decide)).trans e) (by decide)]
   exact rfl
  have h4:0≤(x.st.getD k bI).1∧(x.st.getD k bI).1<6:=by rw[←afT];simpa using h4
  refine ah (p:=(x.st.getD k bI).1=uf x.st k) (by simp only[zz,reduceCtorEq]) (fun h5=>?_) (fun h5=>?_)
  ·have hk0:0<k:=by
    rcases apq k with e | e
    ·subst e;unfold uf at h5;rw[if_pos rfl] at h5;omega
    ·exact e
   have h5:(x.st.getD k bI).1=(x.st.getD (k-1) bI).1:=by unfold uf at h5;rwa [if_neg (by omega)] at h5
   have e:uV x.st k=7:=by unfold uV;rw[if_neg (by omega),if_pos ⟨hk0,h5⟩]
   refine ai (ai (fun _=>trivial) ?_) trivial
   show ak _ (iP (jM x))
   rw[hA 7 ((cO h3 hall (by rw[e];decide)).trans e) (by decide)]
   exact rfl
  refine ah (p:=(x.st.getD k bI).1<uf x.st k) (au Iff.rfl) (fun h6=>?_) (fun h6=>?_)
  ·have hk0:0<k:=by
    rcases apq k with e | e
    ·subst e;unfold uf at h6;rw[if_pos rfl] at h6;omega
    ·exact e
   have h6:(x.st.getD k bI).1<(x.st.getD (k-1) bI).1:=by unfold uf at h6;rwa [if_neg (by omega)] at h6
   have e:uV x.st k=9:=by unfold uV;rw[if_neg (by omega),if_neg (by omega),if_pos ⟨hk0,h6⟩]
   refine ai (ai (fun _=>trivial) ?_) trivial
   show ak _ (iP (jM x))
   rw[hA 9 ((cO h3 hall (by rw[e];decide)).trans e) (by decide)]
   exact rfl
  refine ei (k+1) (ai (ai rfl rfl) (ai (ai (ai rfl (ai (ai rfl rfl) (ai (ai rfl rfl) (ai (ai (ai (ai (fun _=>rfl) (aO (by omega))) rfl) (ai (ai nof (iE (by simp only[zz,reduceCtorEq];rfl))) rfl)) trivial)))) rfl) (ai (ai (iL (by omega)) ?_) (iM (by omega)))))
  intro j hj
  by_cases hjk:j=k
  ·subst hjk
   unfold uf at h5 h6
   unfold uV
   rw[if_neg (by omega)]
   by_cases e0:j=0
   ·rw[if_neg (by omega),if_neg (by omega)]
   ·rw[if_neg e0] at h5 h6
    rw[if_neg (fun h=>h5 h.2),if_neg (fun h=>h6 h.2)]
  ·exact hall j (by omega)
 ·obtain rfl:k=x.st.length:=by omega
  have e2:dz (uV x.st) x.st.length=0:=fQ hall
  have hB:jM x=if x.wt<0∨1000000<x.wt then 2 else 0:=by unfold jM;rw[if_neg h1,if_neg h2,if_neg (fun h=>h e2)]
  refine ah (p:=x.wt<0) (au (by omega)) (fun h7=>?_) (fun h7=>?_)
  ·refine ai (ai (fun _=>trivial) ?_) trivial
   show ak _ (iP (jM x))
   rw[hB,if_pos (.inl h7)]
   exact rfl
  refine ah (p:=1000000<x.wt) (au (by omega)) (fun h8=>?_) (fun h8=>?_)
  ·refine ai (ai (fun _=>trivial) ?_) trivial
   show ak _ (iP (jM x))
   rw[hB,if_pos (.inr h8)]
   exact rfl
  ·refine ai (ai (fun _=>trivial) ?_) trivial
   show ak _ (iP (jM x))
   rw[hB,if_neg (by omega)]
   exact rfl
theorem afc {m:List Bool} {j:Nat} (hj:j<m.length) (b:Bool) (k:Nat):pW (fZ m) j (bP b) k=fZ (m.set j b) k:=by
 unfold pW fZ
 rw[aaE,aaE,asc]
 by_cases h:k=j
 ·rw[if_pos h,if_pos h.symm,if_pos hj];rfl
 ·rw[if_neg h,if_neg (fun e=>h e.symm)]
def okS (n:Nat) (l:List Sk):Prop:=∀y∈l,0≤y.1∧y.1<(n:Int)
theorem u6 {n:Nat} {l:List Sk} (h:okS n l) {k:Nat} (hk:k<l.length):0≤(l.getD k bI).1∧(l.getD k bI).1<(n:Int):=h _ (aaS (bH bI hk))
def qW (m:List Bool) (l:List Sk):List Bool:=l.foldl (fun m y=>m.set y.1.toNat y.2) m
theorem akj (m:List Bool) (l:List Sk) (y:Sk):qW m (l++[y])=(qW m l).set y.1.toNat y.2:=by unfold qW;rw[aq6];rfl
theorem abd:∀(l:List Sk) (m:List Bool),(qW m l).length=m.length
 | [],_=>rfl
 | y :: l,m=>by
  show (qW (m.set y.1.toNat y.2) l).length=_
  rw[abd l,ar5]
theorem vX {x:Stp} (h:jM x=0):(0<x.st.length∧x.st.length≤6)∧okS 6 x.st∧0≤x.wt∧x.wt≤1000000:=by
 unfold jM at h
 split at h
 ·cases h
 rename_i h1
 split at h
 ·cases h
 rename_i h2
 split at h
 ·rename_i h3;exact absurd h h3
 rename_i h3
 split at h
 ·cases h
 rename_i h4
 refine ⟨⟨by omega,by omega⟩,fun y hy=>?_,by omega,by omega⟩
 obtain ⟨i,hi,rfl⟩:=apr hy
 have h5:=oz (aqv.1 h3) i hi
 unfold uV at h5
 have hg:x.st.getD i bI=x.st[i]:=by rw[aaE,aaC hi];rfl
 rw[hg] at h5
 split at h5
 ·cases h5
 ·omega
def enP (m:List Bool):PV:=.arr 6 (fZ m)
def enA (m:List Bool):SV:=.p false (enP m)
def enO (m:List Bool):Ob:=.arr 194 6 (fZ m)
def ae1 (act:Int) (l:List Sk):Bool:=l.any fun y=>decide (act≤y.1)
def atE (m:List Bool) (l:List Sk):Bool:=l.any fun y=>jv m y.1==y.2
def ny (act:Int) (x:Stp) (m:List Bool):Int:=if ¬jM x=0 then jM x else if ae1 act x.st then 6 else if atE m x.st then 14 else 0
theorem aov:aL Tryz.prog 130 (bQ (fun a:mH×Stp×List Bool=>[sqA a.1,stA a.2.1,enA a.2.2]) (fun a=>a.1.act≤6) (fun a=>iP (ny a.1.act a.2.1 a.2.2))):=by
 refine aX (Tb:=tab) mixed aB Tryz.func130 rfl rfl ?_
 rintro ⟨s,x,m⟩ hpre
 refine ai (ai rfl (ai rfl rfl)) ?_
 have ha:s.act≤6:=hpre
 refine ei _ (ai (apV) (ei (x) (ei [] (ai (a4 (ai (fun _=>Or.inl rfl) (ai nof (Or.inl rfl)))) (ai (by exact (ai (ai rfl (fun _ _=>rfl)) rfl)) (ai trivial (ai (trivial) ?_)))))))
 refine bE (p:=jM x=0) (bT (by omega)) (fun h1=>?_) (fun h1=>?_)
 ·refine ai (ai (fun _=>trivial) ?_) trivial
  show ak _ (iP (ny s.act x m))
  rw[ny,if_pos h1]
  exact rfl
 obtain ⟨⟨_,h6⟩,hx,_⟩:=vX h1
 refine ei (bC.inv { X:=Nat,up:=fun k=>[(20,.s (iA k))],uo:=fun k=>[],inv:=fun k=>k≤x.st.length∧(∀y∈x.st.take k,decide (s.act≤y.1)=false),meas:=fun k=>x.st.length-k,x0:=0 }) ?_
 refine ai (ai (ai (by exact (a4 (ai rfl rfl))) (ai (by exact (ai (ai (fun _=>rfl) (iE (by simp only[zz,reduceCtorEq];rfl))) rfl)) (by exact trivial))) rfl) (ai (ai (abY _) ?_) ?_)
 ·exact fun y hy=>absurd hy (by simp)
 intro (k:Nat) ⟨hk,hall⟩
 refine ah (p:=k<x.st.length) (au (by dsimp only;omega)) (fun h2=>?_) (fun h2=>?_)
 ·refine ai (ai (aaI _) (iN (n:=x.st.length) (by omega))) (ai rfl ?_)
  refine ah (p:=s.act≤(x.st.getD k bI).1) (cB Iff.rfl) (fun h3=>?_) (fun h3=>?_)
  ·have e:ae1 s.act x.st=true:=uW (d:=bI) h2 (decide_eq_true h3)
   refine ai (ai (fun _=>trivial) ?_) trivial
   show ak _ (iP (ny s.act x m))
   rw[ny,if_neg (fun h=>h h1),if_pos e]
   exact rfl
  refine ei (k+1) (ai (ai rfl rfl) (ai (ai (ai rfl (ai (ai rfl rfl) (ai (ai rfl rfl) (ai (ai (ai (fun _=>rfl) (aO (by omega))) rfl) trivial)))) rfl) (ai (ai (iL (by omega)) ?_) (iM (by omega)))))
  intro y hy
  rw[aP bI h2] at hy
  rcases afA.1 hy with hy | hy
  ·exact hall y hy
  ·simp only[afq] at hy;subst hy;exact decide_eq_false h3
 ·obtain rfl:k=x.st.length:=by omega
  rw[afj] at hall
  have eo:ae1 s.act x.st=false:=arM.2 (fun y hy=>by rw[hall y hy];decide)
  refine ei (bC.inv { X:=Nat,up:=fun j=>[(33,.s (iA j))],uo:=fun j=>[],inv:=fun j=>j≤x.st.length∧(∀y∈x.st.take j,(jv m y.1==y.2)=false),meas:=fun j=>x.st.length-j,x0:=0 }) ?_
  refine ai (ai (ai (by exact (a4 (ai rfl rfl))) (ai (by exact (ai (ai (fun _=>rfl) (iE (by simp only[zz,reduceCtorEq];rfl))) rfl)) (by exact trivial))) rfl) (ai (ai (abY _) ?_) ?_)
  ·exact fun y hy=>absurd hy (by simp)
  intro (j:Nat) ⟨hj,hal⟩
  refine ah (p:=j<x.st.length) (au (by dsimp only;omega)) (fun h4=>?_) (fun h4=>?_)
  ·refine ai (ai (aaI _) (iN (n:=x.st.length) (by omega))) (ai rfl ?_)
   have hxj:=u6 hx h4
   refine ei (.seq [0,1,2,3,4,5,6]) (ai (by kernel_rfl) ?_)
   refine ai hxj ?_
   refine ai (by show 0+(x.st.getD j bI).1.toNat*1<6;omega) ?_
   refine ah (p:=(jv m (x.st.getD j bI).1==(x.st.getD j bI).2)=true) (by (show (m.getD (0+(x.st.getD j bI).1.toNat*1) false==(x.st.getD j bI).2)=true↔_;rw[anD,afG];exact Iff.rfl)) (fun h5=>?_) (fun h5=>?_)
   ·have e:atE m x.st=true:=uW (d:=bI) h4 h5
    refine ai (ai (fun _=>trivial) ?_) trivial
    show ak _ (iP (ny s.act x m))
    rw[ny,if_neg (fun h=>h h1),if_neg (by rw[eo];decide),if_pos e]
    exact rfl
   refine ei (j+1) (ai (ai rfl rfl) (ai (ai (ai rfl (ai (ai rfl rfl) (ai (ai rfl rfl) (ai (ai (ai (fun _=>rfl) (aO (by omega))) rfl) trivial)))) rfl) (ai (ai (iL (by omega)) ?_) (iM (by omega)))))
   intro y hy
   rw[aP bI h4] at hy
   rcases afA.1 hy with hy | hy
   ·exact hal y hy
   ·simp only[afq] at hy;subst hy;exact aq7.2 h5
  ·obtain rfl:j=x.st.length:=by omega
   rw[afj] at hal
   have e:atE m x.st=false:=arM.2 (fun y hy=>by rw[hal y hy];decide)
   refine ai (ai (fun _=>trivial) ?_) trivial
   show ak _ (iP (ny s.act x m))
   rw[ny,if_neg (fun h=>h h1),if_neg (by rw[eo];decide),if_neg (by rw[e];decide)]
   exact rfl
theorem ak3:aL Tryz.prog 131 (iR (fun a:List Bool×Stp=>[enA a.1,stA a.2]) (fun a=>a.1.length≤6∧okS a.1.length a.2.st∧a.2.st.length≤1000000) (fun a=>enP (qW a.1 a.2.st))):=by
 refine aX (Tb:=tab) mixed aB Tryz.func131 rfl rfl ?_
 rintro ⟨m,x⟩ hpre
 refine ai (ai rfl (ai rfl rfl)) ?_
 obtain ⟨hm,hx,hl⟩:=hpre
 have hm:m.length≤6:=hm
 have hx:okS m.length x.st:=hx
 have hl:x.st.length≤1000000:=hl
 refine ei (bC.inv { X:=Nat,up:=fun k=>[(10,.s (iA k))],uo:=fun k=>[⟨0,194,[.ob (enO (qW m (x.st.take k)))]⟩],inv:=fun k=>k≤x.st.length∧(True),meas:=fun k=>x.st.length-k,x0:=0 }) ?_
 refine ai (ai (ai (by exact (a4 (ai rfl rfl))) (ai ?_ ?_)) rfl) (ai (ai (abY _) ?_) ?_)
 ·exact (ai (ai (fun _=>rfl) (iE (by simp only[zz,reduceCtorEq];rfl))) rfl)
 ·exact (ai (ai rfl (ai rfl (fun _ _=>rfl))) trivial)
 ·trivial
 intro (k:Nat) ⟨hk,_⟩
 refine ah (p:=k<x.st.length) (au (by dsimp only;omega)) (fun h1=>?_) (fun h1=>?_)
 ·refine ai (ai (aaI _) (iN (n:=x.st.length) (by omega))) (ai rfl ?_)
  have hxk:=u6 hx h1
  refine ai (by show 0≤(x.st.getD k bI).1∧(x.st.getD k bI).1<6;omega) ?_
  refine ai (by show 0+(x.st.getD k bI).1.toNat*1<6;omega) ?_
  refine ei (k+1) (ai (ai rfl rfl) (ai (ai (ai rfl (ai (ai rfl rfl) (ai (ai rfl rfl) (ai (ai (ai (fun _=>rfl) (aO (by omega))) rfl) (ai (ai rfl (ai rfl ?_)) trivial))))) rfl) (ai (ai (iL (by omega)) trivial) (iM (by omega)))))
  intro q hq
  show pW (fZ (qW m (x.st.take k))) (0+(x.st.getD k bI).1.toNat*1) (bP (x.st.getD k bI).2) q=fZ (qW m (x.st.take (k+1))) q
  rw[afG,anD,afc (by rw[abd];omega),aP bI h1,akj]
 ·obtain rfl:k=x.st.length:=by omega
  rw[afj]
  refine ai (ai (fun _=>(by exact (fun _ _=>rfl))) ?_) trivial
  exact (ai rfl (fun _ _=>rfl))
def zeroE (act:Int):List Bool:=List.replicate act.toNat false
def iq (act:Int) (l:List Stp) (k:Nat):List Bool:=(l.take k).foldl (fun m x=>qW m x.st) (zeroE act)
def jT (act:Int) (l:List Stp) (k:Nat):List Bool:=(l.take k).foldl (fun m x=>bM m (x.st.map (·.1)) true) (zeroE act)
theorem ag7 {act:Int} {l:List Stp} {k:Nat} (h:k<l.length):iq act l (k+1)=qW (iq act l k) (l.getD k st0).st:=by unfold iq;rw[aP st0 h,aq6];rfl
theorem ajb {act:Int} {l:List Stp} {k:Nat} (h:k<l.length):jT act l (k+1)=bM (jT act l k) ((l.getD k st0).st.map (·.1)) true:=by unfold jT;rw[aP st0 h,aq6];rfl
theorem xR {α β:Type} {f:List β→α→List β} (hf:∀m x,(f m x).length=m.length):∀(l:List α) (m:List β),(l.foldl f m).length=m.length
 | [],_=>rfl
 | x :: l,m=>by rw[asj,xR hf l,hf]
theorem ajx (act:Int) (l:List Stp) (k:Nat):(iq act l k).length=act.toNat:=by
 refine (xR (f:=fun m (x:Stp)=>qW m x.st) (fun m x=>abd x.st m) (l.take k) (zeroE act)).trans ?_
 unfold zeroE;rw[aq2]
theorem ak4 (act:Int) (l:List Stp) (k:Nat):(jT act l k).length=act.toNat:=by
 refine (xR (f:=fun m (x:Stp)=>bM m (x.st.map (·.1)) true) (fun m x=>dR true (x.st.map (·.1)) m) (l.take k) (zeroE act)).trans ?_
 unfold zeroE;rw[aq2]
def vZ (s:mH):Int:=dz (fun k=>ny s.act (s.sts.getD k st0) (iq s.act s.sts k)) s.sts.length
def kG (s:mH):Int:=
 if s.act<1∨6<s.act then 2 else if s.sts.length=0 then 13 else if 64<s.sts.length then 5 else if ¬vZ s=0 then vZ s
 else if (iq s.act s.sts s.sts.length).any id=true then 9 else if ((jT s.act s.sts s.sts.length).any fun y=>false==y)=true then 13 else 0
theorem aqV:∀{m:List Bool},m.length≤6→(!((m.getD 0 false==false)&&((m.getD 1 false==false)&&((m.getD 2 false==false)&&((m.getD 3 false==false)&&((m.getD 4 false==false)&&((m.getD 5 false==false)&&true)))))))=m.any id
 | [],_=>rfl
 | [a],_=>by cases a<;>rfl
 | [a,b],_=>by cases a<;>cases b<;>rfl
 | [a,b,c],_=>by cases a<;>cases b<;>cases c<;>rfl
 | [a,b,c,d],_=>by cases a<;>cases b<;>cases c<;>cases d<;>rfl
 | [a,b,c,d,e],_=>by cases a<;>cases b<;>cases c<;>cases d<;>cases e<;>rfl
 | [a,b,c,d,e,f],_=>by cases a<;>cases b<;>cases c<;>cases d<;>cases e<;>cases f<;>rfl
 | _ :: _ :: _ :: _ :: _ :: _ :: _ :: _,h=>by simp at h
theorem anJ (l:List Sk) {j:Nat} (h:j<l.length):(l.map (·.1)).getD j 0=(l.getD j bI).1:=by
 rw[aaE,aaE,ait,aaC h];rfl
theorem afX {act:Int} {x:Stp} {m:List Bool} (h:ny act x m=0):jM x=0∧∀y∈x.st,0≤y.1∧y.1<act:=by
 unfold ny at h
 split at h
 ·rename_i h1;exact absurd h h1
 rename_i h1
 have h1:=aqv.1 h1
 split at h
 ·cases h
 rename_i h2
 refine ⟨h1,fun y hy=>⟨((vX h1).2.1 y hy).1,?_⟩⟩
 have:ae1 act x.st=false:=by simpa using h2
 have:=arM.1 this y hy
 simpa using this
theorem ace:∀k,k<6→lJ (vals (List.replicate 6 (.bool false))) k=fZ [] k:=fun k hk=>by
 match k,hk with
 | 0,_=>rfl | 1,_=>rfl | 2,_=>rfl | 3,_=>rfl | 4,_=>rfl | 5,_=>rfl
theorem afP (act:Int) (k:Nat):fZ (zeroE act) k=fZ [] k:=by
 unfold fZ zeroE
 rw[aaE,arZ]
 split<;>rfl
theorem aj7:aL Tryz.prog 67 (bQ (fun s:mH=>[sqA s]) (fun _=>True) (fun s=>iP (kG s))):=by
 refine aX (Tb:=tab) mixed aB Tryz.func67 rfl rfl ?_
 rintro (s:mH) hpre
 refine ai (ai rfl (ai rfl rfl)) ?_
 refine ah (p:=s.act<1) (au (by omega)) (fun h1=>?_) (fun h1=>?_)
 ·refine ai (ai (fun _=>trivial) ?_) trivial
  show ak _ (iP (kG s))
  rw[kG,if_pos (.inl h1)]
  exact rfl
 refine ah (p:=6<s.act) (au (by omega)) (fun h2=>?_) (fun h2=>?_)
 ·refine ai (ai (fun _=>trivial) ?_) trivial
  show ak _ (iP (kG s))
  rw[kG,if_pos (.inr h2)]
  exact rfl
 have e0:¬(s.act<1∨6<s.act):=fun h=>h.elim h1 h2
 refine ah (p:=s.sts.length=0) (gY (by omega)) (fun h3=>?_) (fun h3=>?_)
 ·refine ai (ai (fun _=>trivial) ?_) trivial
  show ak _ (iP (kG s))
  rw[kG,if_neg e0,if_pos h3]
  exact rfl
 refine ah (p:=64<s.sts.length) (au (by omega)) (fun h4=>?_) (fun h4=>?_)
 ·refine ai (ai (fun _=>trivial) ?_) trivial
  show ak _ (iP (kG s))
  rw[kG,if_neg e0,if_neg h3,if_pos h4]
  exact rfl
 have hA:kG s=if ¬vZ s=0 then vZ s else if (iq s.act s.sts s.sts.length).any id=true then 9 else if ((jT s.act s.sts s.sts.length).any fun y=>false==y)=true then 13 else 0:=by
  unfold kG;rw[if_neg e0,if_neg h3,if_neg h4]
 refine ei (bC.inv { X:=Nat,up:=fun k=>[(32,.s (iA k))],uo:=fun k=>[⟨1,194,[.ob (enO (iq s.act s.sts k))]⟩,⟨2,194,[.ob (enO (jT s.act s.sts k))]⟩],inv:=fun k=>k≤s.sts.length∧(∀j,j<k→ny s.act (s.sts.getD j st0) (iq s.act s.sts j)=0),meas:=fun k=>s.sts.length-k,x0:=0 }) ?_
 refine ai (ai (ai (by exact (a4 (ai rfl rfl))) (ai ?_ ?_)) rfl) (ai (ai (abY _) ?_) ?_)
 ·exact (ai (ai (fun _=>rfl) (iE (by simp only[zz,reduceCtorEq];rfl))) rfl)
 ·refine (ai (ai rfl (ai rfl ?_)) (ai (ai rfl (ai rfl ?_)) trivial))
  ·exact fun q hq=>(ace q hq).trans (afP s.act q).symm
  ·exact fun q hq=>(ace q hq).trans (afP s.act q).symm
 ·exact fun j hj=>absurd hj (akN _)
 intro (k:Nat) ⟨hk,hall⟩
 have hel:=ajx s.act s.sts k
 have hml:=ak4 s.act s.sts k
 refine ah (p:=k<s.sts.length) (au (by omega)) (fun h5=>?_) (fun h5=>?_)
 ·refine ai (ai (aaI _) (iN (n:=s.sts.length) (by omega))) (ai rfl ?_)
  refine ei _ (ai (aov) (ei ((s,s.sts.getD k st0,iq s.act s.sts k)) (ei [] (ai (a4 (ai (fun _=>Or.inl rfl) (ai nof (Or.inl rfl)))) (ai (by exact (ai (ai rfl (ai rfl (fun _ _=>rfl))) (ai (ai (ai rfl (fun _ _=>rfl)) (iE (by simp only[zz,reduceCtorEq]))) (ai rfl (fun _ _=>rfl))))) (ai trivial (ai ((by show s.act≤6;omega)) ?_)))))))
  refine bE (p:=ny s.act (s.sts.getD k st0) (iq s.act s.sts k)=0) (bT (by dsimp only;omega)) (fun h6=>?_) (fun h6=>?_)
  ·have e:vZ s=ny s.act (s.sts.getD k st0) (iq s.act s.sts k):=cO (f:=fun k=>ny s.act (s.sts.getD k st0) (iq s.act s.sts k)) h5 hall h6
   refine ai (ai (fun _=>trivial) ?_) trivial
   show ak _ (iP (kG s))
   rw[hA,if_pos (show ¬vZ s=0 by rw[e];exact h6),e]
   exact rfl
  obtain ⟨hck,hso⟩:=afX h6
  have h6l:=(vX hck).1.2
  have hokS:okS s.act.toNat (s.sts.getD k st0).st:=fun y hy=>by have:=hso y hy;omega
  refine ei _ (ai ((jE ak3 (iq s.act s.sts k,s.sts.getD k st0) ⟨by show (iq s.act s.sts k).length≤6;omega,by show okS (iq s.act s.sts k).length _;rw[hel];exact hokS,by show (s.sts.getD k st0).st.length≤1000000;omega⟩ (r:=enP (iq s.act s.sts (k+1))) (by rw[ag7 h5]))) (ei (()) (ei [] (ai (a4 (ai (fun _=>Or.inl rfl) (ai nof (Or.inl rfl)))) (ai (by exact (ai (ai rfl (fun _ _=>rfl)) (ai (ai rfl (fun _ _=>rfl)) (iE (by simp only[zz,reduceCtorEq]))))) (ai trivial (ai (trivial) ?_)))))))
  refine ei (bC.inv { X:=Nat,up:=fun j=>[(49,.s (iA j))],uo:=fun j=>[⟨2,194,[.ob (enO (bM (jT s.act s.sts k) (((s.sts.getD k st0).st.map (·.1)).take j) true))]⟩],inv:=fun j=>j≤(s.sts.getD k st0).st.length∧(True),meas:=fun j=>(s.sts.getD k st0).st.length-j,x0:=0 }) ?_
  refine ai (ai (ai (by exact (a4 (ai rfl rfl))) (ai ?_ ?_)) rfl) (ai (ai (abY _) ?_) ?_)
  ·exact (ai (ai (fun _=>rfl) (iE (by simp only[zz,reduceCtorEq];rfl))) rfl)
  ·exact (ai (ai rfl (ai rfl (fun _ _=>rfl))) trivial)
  ·trivial
  intro (j:Nat) ⟨hj,_⟩
  refine ah (p:=j<(s.sts.getD k st0).st.length) (by simp only[zz,reduceCtorEq];omega) (fun h7=>?_) (fun h7=>?_)
  ·refine ai (ai (aaI _) (iN (n:=(s.sts.getD k st0).st.length) (by omega))) (ai rfl ?_)
   have hxj:=u6 hokS h7
   refine ai (by show 0≤((s.sts.getD k st0).st.getD j bI).1∧((s.sts.getD k st0).st.getD j bI).1<6;omega) ?_
   refine ai (by show 0+((s.sts.getD k st0).st.getD j bI).1.toNat*1<6;omega) ?_
   refine ei (j+1) (ai (ai rfl rfl) (ai (ai (ai rfl (ai (ai rfl rfl) (ai (ai rfl rfl) (ai (ai (ai (fun _=>rfl) (aO (by omega))) rfl) (ai (ai rfl (ai rfl ?_)) trivial))))) rfl) (ai (ai (iL (by omega)) trivial) (iM (by omega)))))
   intro q hq
   show pW (fZ (bM (jT s.act s.sts k) (((s.sts.getD k st0).st.map (·.1)).take j) true)) (0+((s.sts.getD k st0).st.getD j bI).1.toNat*1) (bP true) q=fZ (bM (jT s.act s.sts k) (((s.sts.getD k st0).st.map (·.1)).take (j+1)) true) q
   have eg:=anJ (s.sts.getD k st0).st h7
   rw[afG,anD,afc (by rw[dR];omega),aP 0 (by rw[anq];exact h7),pz,eg]
  ·obtain rfl:j=(s.sts.getD k st0).st.length:=by omega
   have e9:bM (jT s.act s.sts k) (((s.sts.getD k st0).st.map (·.1)).take (s.sts.getD k st0).st.length) true=jT s.act s.sts (k+1):=by
    rw[ajb h5,ar3 (by rw[anq];exact aff _)]
   refine ei (k+1) (ai (ai rfl rfl) (ai (ai (ai rfl (ai (ai rfl rfl) (ai (ai rfl rfl) (ai (ai (ai (fun _=>rfl) (aO (by omega))) rfl) (ai (ai rfl (ai rfl (fun _ _=>rfl))) (ai (ai rfl (ai rfl ?_)) trivial)))))) rfl) (ai (ai (iL (by omega)) ?_) (iM (by omega)))))
   ·exact fun q hq=>by rw[←e9]
   ·intro i hi
    by_cases e:i=k
    ·subst e;exact h6
    ·exact hall i (by omega)
 ·obtain rfl:k=s.sts.length:=by omega
  have e1:vZ s=0:=fQ hall
  refine ah (p:=(iq s.act s.sts s.sts.length).any id=true) (by (rw[←aqV (m:=iq s.act s.sts s.sts.length) (by omega)];first | done | exact Iff.rfl)) (fun h8=>?_) (fun h8=>?_)
  ·refine ai (ai (fun _=>trivial) ?_) trivial
   show ak _ (iP (kG s))
   rw[hA,if_neg (fun h=>h e1),if_pos h8]
   exact rfl
  refine ai (ai (by decide) (ai (by show 0≤s.act;omega) (by show s.act≤6;omega))) ?_
  refine ei _ (ai (aoi) (ei ((jT s.act s.sts s.sts.length,false)) (ei [] (ai (ai rfl (ai rfl (ai rfl (ai rfl (ai (fun _=>Or.inl rfl) (ai (fun _=>ai rfl rfl) (Or.inl rfl))))))) (ai ?_ (ai (by exact trivial) (ai ((by show (jT s.act s.sts s.sts.length).length≤1000000;omega)) ?_)))))))
  ·refine (ai (ai rfl (ai ?_ ?_)) rfl)
   ·show s.act.toNat-(0:Int).toNat=(jT s.act s.sts s.sts.length).length
    rw[hml];rfl
   ·intro q hq
    show [fZ (jT s.act s.sts s.sts.length) ((0:Int).toNat+q)]=_
    rw[show (0:Int).toNat+q=q by simp];rfl
  refine aZ (b:=(jT s.act s.sts s.sts.length).any fun y=>false==y) rfl (fun h9=>?_) (fun h9=>?_)
  ·refine ai (ai (fun _=>trivial) ?_) trivial
   show ak _ (iP (kG s))
   rw[hA,if_neg (fun h=>h e1),if_neg h8,if_pos h9]
   exact rfl
  ·refine ai (ai (fun _=>trivial) ?_) trivial
   show ak _ (iP (kG s))
   rw[hA,if_neg (fun h=>h e1),if_neg h8,if_neg (by rw[h9];decide)]
   exact rfl
def uN (n:Int):Ex:=.node 1 n []
def tq (n:Int):List PV:=[iP 1,iP n,.val (.slice none 0 0)]
def mK (y:Sk):Int:=2*y.1+if y.2 then 1 else 0
def agw (l:List Sk):Ex:=match l with
 | [y]=>uN (mK y)
 | l=>.node 3 0 (l.map fun y=>uN (mK y))
def wE (l:List Sk) (k:Nat):List PV:=tq (mK (l.getD k bI))
abbrev C3 := PV × PV × PV
def xD (c:C3):List PV:=[c.1,c.2.1,c.2.2]
def yV (n:Int):C3:=(iP 1,iP n,.val (.slice none 0 0))
def kW (l:List Sk):C3:=(if l.length=1 then iP 1 else iP 3,if l.length=1 then iP (mK (l.getD 0 bI)) else iP 0,if l.length=1 then .val (.slice none 0 0) else .seq l.length (wE l))
def abm (l:List Sk):List PV:=xD (kW l)
theorem ae8 {l:List Sk} (h:l.length=1):abm l=tq (mK (l.getD 0 bI)):=by unfold abm xD kW;simp only[h,if_true];rfl
theorem adN {l:List Sk} (h:¬l.length=1):abm l=[iP 3,iP 0,.seq l.length (wE l)]:=by unfold abm xD kW;simp only[h,if_false]
theorem nH:aL Tryz.prog 69 (bQ (fun n:Int=>[iA n]) (fun _=>True) (fun n=>.agg (tq n))):=by
 refine aX (Tb:=tab) mixed aB Tryz.func69 rfl rfl ?_
 rintro (n:Int) hpre
 refine ai (ai rfl (ai rfl rfl)) ?_
 refine ai (ai (fun _=>trivial) ?_) trivial
 exact (ai rfl (ai rfl rfl))
def agj (l:List Sk):Prop:=l.length≤1000∧okS 6 l
theorem apn {l:List Sk} (h:agj l) {k:Nat} (hk:k<l.length):0≤(l.getD k bI).1∧(l.getD k bI).1<6:=by
 have:=u6 h.2 hk;omega
def aro (l:List Sk) (k:Nat):LV:=.rw 79 3 k (wE l)
theorem afk (l:List Sk) (k:Nat):∀j,j<k+1→bN k (wE l) (bg 3 (tq (mK (l.getD k bI)))) j=wE l j:=by
 intro j hj
 unfold bN
 by_cases h:j<k
 ·rw[if_pos h]
 ·obtain rfl:j=k:=by omega
  rw[if_neg h,aqX];rfl
theorem afS:aL Tryz.prog 71 (iR (fun l:List Sk=>[ao2 l]) (fun l=>agj l∧0<l.length) (fun l=>.agg (abm l))):=by
 refine aX (Tb:=tab) mixed aB Tryz.func71 rfl rfl ?_
 rintro (l:List Sk) hpre
 refine ai (ai rfl (ai rfl rfl)) ?_
 obtain ⟨hs,hp⟩:=hpre
 have hl:l.length≤1000:=hs.1
 refine ei (bC.inv { X:=Nat,up:=fun k=>[(9,.s (iA k)),(3,aro l k)],uo:=fun k=>[],inv:=fun k=>k≤l.length∧(True),meas:=fun k=>l.length-k,x0:=0 }) ?_
 refine ai (ai (ai (by exact (a4 (ai rfl rfl))) (ai (by exact (ai (ai (ai (fun _=>rfl) (iE (by simp only[zz,reduceCtorEq];rfl))) rfl) rfl)) (by exact trivial))) rfl) (ai (ai (abY _) ?_) ?_)
 ·trivial
 intro (k:Nat) ⟨hk,_⟩
 refine ah (p:=k<l.length) (au (by omega)) (fun h1=>?_) (fun h1=>?_)
 ·refine ai (ai (aaI _) (iN (n:=l.length) (by omega))) (ai rfl ?_)
  have hx:=apn hs h1
  have hw:IntKind.i64.wrap (2*(l.getD k bI).1)=2*(l.getD k bI).1:=wrI (by omega) (by omega)
  refine aZ (b:=(l.getD k bI).2) rfl (fun h2=>?_) (fun h2=>?_)
  ·refine ei _ (ai (nH) (ei (mK (l.getD k bI)) (ei [] (ai (a4 (ai (fun _=>Or.inl rfl) (ai nof (Or.inl rfl)))) (ai ?_ (ai (by exact trivial) (ai (trivial) ?_)))))))
   ·show IntKind.i64.wrap (IntKind.i64.wrap (2*(l.getD k bI).1)+1)=mK (l.getD k bI)
    rw[hw,wrI (by omega) (by omega)];unfold mK;rw[h2];rfl
   refine ai (mxL (n:=k+1) (by omega) (by decide)) (ai (lt1 rfl) ?_)
   refine ei (k+1) (ai (ai rfl rfl) (ai (ai (ai rfl (ai (ai rfl rfl) (ai (ai rfl rfl) (ai (ai (ai (ai (fun _=>rfl) (aO (by omega))) rfl) (ai rfl (ai rfl (ai rfl ?_)))) trivial)))) rfl) (ai (ai (iL (by omega)) trivial) (iM (by omega)))))
   exact afk l k
  ·refine ei _ (ai (nH) (ei (mK (l.getD k bI)) (ei [] (ai (a4 (ai (fun _=>Or.inl rfl) (ai nof (Or.inl rfl)))) (ai ?_ (ai (by exact trivial) (ai (trivial) ?_)))))))
   ·show IntKind.i64.wrap (2*(l.getD k bI).1)=mK (l.getD k bI)
    rw[hw];unfold mK;rw[h2];simp
   refine ai (mxL (n:=k+1) (by omega) (by decide)) (ai (lt1 rfl) ?_)
   refine ei (k+1) (ai (ai rfl rfl) (ai (ai (ai rfl (ai (ai rfl rfl) (ai (ai rfl rfl) (ai (ai (ai (ai (fun _=>rfl) (aO (by omega))) rfl) (ai rfl (ai rfl (ai rfl ?_)))) trivial)))) rfl) (ai (ai (iL (by omega)) trivial) (iM (by omega)))))
   exact afk l k
 ·obtain rfl:k=l.length:=by omega
  refine ah (p:=l.length=1) (gY (by omega)) (fun h3=>?_) (fun h3=>?_)
  ·refine ai (ai (by decide) (by show (0:Int)<(l.length:Int);omega)) ?_
   refine ai (by show 0<l.length;omega) ?_
   refine ai (ai (fun h=>absurd (show false=true from h) (by decide)) ?_) trivial
   show ak _ (.agg (abm l))
   rw[ae8 h3]
   exact (ai rfl (ai (iE rfl) rfl))
  ·refine ai (ai (fun h=>absurd (show false=true from h) (by decide)) ?_) trivial
   show ak _ (.agg (abm l))
   rw[adN h3]
   exact (ai rfl (ai rfl (ai rfl (fun _ _=>rfl))))
def sQ (act:Int) (p:List (Stp×C3)) (x:Stp):List (Stp×C3):=
 if 0<x.wt then (p++[(⟨x.st,0⟩,kW x.st)])++[(⟨[],x.wt⟩,yV (2*act+1+((p.length+1:Nat):Int)))] else p++[(⟨x.st,0⟩,kW x.st)]
def aoU (act:Int):List (Stp×C3):=[(⟨[],0⟩,yV (2*act))]
def dF (s:mH) (k:Nat):List (Stp×C3):=(s.sts.take k).foldl (sQ s.act) (aoU s.act)
theorem adZ {s:mH} {k:Nat} (h:k<s.sts.length):dF s (k+1)=sQ s.act (dF s k) (s.sts.getD k st0):=by unfold dF;rw[aP st0 h,aq6];rfl
theorem al5 (act:Int) (p:List (Stp×C3)) (x:Stp):(sQ act p x).length≤p.length+2∧p.length<(sQ act p x).length:=by
 unfold sQ
 split
 ·simp only[aaA,aik,anl];omega
 ·simp only[aaA,aik,anl];omega
theorem afo (s:mH):∀k,k≤s.sts.length→(dF s k).length≤2*k+1∧0<(dF s k).length
 | 0,_=>⟨by show (aoU s.act).length≤1;exact aff _,by show 0<1;decide⟩
 | k+1,h=>by
  obtain ⟨h1,h2⟩:=afo s k (by omega)
  obtain ⟨h3,h4⟩:=al5 s.act (dF s k) (s.sts.getD k st0)
  rw[adZ (by omega)];omega
abbrev SC := Stp × C3
def oZ:SC:=(st0,(iP 0,iP 0,.val (.slice none 0 0)))
def tN (x:Stp):List PV:=[if x.st=[] then .val (.slice none 0 0) else yc x.st,iP x.wt]
def aa5:PV:=.seq 1 (bg 1 [.val (.string (strOf [115,116,97,114,116]))])
def alK (act:Int) (ins:PV) (st tr:SV):Ob:=.cells 36 [iA act,.p false ins,st,tr]
def amU (s:SV):Ob:=.cells 77 [s]
def apk (p:List SC):Ob:=.row 89 2 p.length (fun k=>tN (p.getD k oZ).1)
def ao9 (p:List SC):Ob:=.row 79 3 p.length (fun k=>xD (p.getD k oZ).2)
def abA:SV:=.p false (.val (.slice none 0 0))
structure abw where
 act:Int
 p:List SC
 s0:PV
 wt:Int
 e0:PV
 e1:PV
 e2:PV
 x:SC
def abw.ok (a:abw):Prop:=a.p.length≤1000∧tN a.x.1=[a.s0,iP a.wt]∧xD a.x.2=[a.e0,a.e1,a.e2]
def aoO (a:abw):List SV:=[.p false (.agg [a.s0,iP a.wt]),.p false (.agg [a.e0,a.e1,a.e2]),.own 0 0,.own 1 0]
def aqn (n:Bool) (a:abw):Prop:=a.ok∧(n=true→a.p=[])
def aqE:Bool→abw→List Ob
 | true,a=>[alK a.act aa5 abA abA,amU abA]
 | false,a=>[alK a.act aa5 (.row 2) abA,amU (.row 3),apk a.p,ao9 a.p]
def ap1 (a:abw):List Ob:=[alK a.act aa5 (.row 2) abA,amU (.row 3),apk (a.p++[a.x]),ao9 (a.p++[a.x])]
def ao8 (n:Bool):qz:={ A:=abw,fix:=2,args:=aoO,objs:=aqE n,pre:=aqn n,res:=fun _=>.tup [],objs':=ap1,inl:=[4000009,4000013] }
theorem rX (f:SC→List PV) (p:List SC) (x:SC) {g:Nat→List PV} (hg:g 0=f x):∀k,k<p.length+1→bN p.length (fun k=>f (p.getD k oZ)) g k=f ((p++[x]).getD k oZ):=by
 intro k hk
 unfold bN
 by_cases h:k<p.length
 ·rw[if_pos h]
  show f (p.getD k oZ)=_
  rw[aaE,aaE,aee h]
 ·obtain rfl:k=p.length:=by omega
  rw[if_neg h,aqX,hg,aaE,aeD (aff _),aqX];rfl
theorem acU:jJ Tryz.prog 68 (ao8 false):=by
 refine oW (Tb:=tab) mixed aB Tryz.func68 rfl rfl ?_
 rintro ⟨act,p,s0,wt,e0,e1,e2,x⟩ hpre
 refine ai (ai rfl (ai rfl rfl)) ?_
 obtain ⟨⟨hp,hx,he⟩,_⟩:=hpre
 have hp:p.length≤1000:=hp
 have hx:tN x.1=[s0,iP wt]:=hx
 have he:xD x.2=[e0,e1,e2]:=he
 refine ei (.one 0 (.one 1 (.one 2 (.rd 5 [4] (.rd 6 [4] (.alt 3 (.alt 4 (.one 9 (.one 7 (.one 8 (.one 10 (.one 11 .done))))) (.alt 7 (.one 4 (.one 9 (.one 8 (.one 10 (.one 11 .done))))) .stop)) (.alt 7 (.one 3 (.one 4 (.one 9 (.one 8 (.one 10 (.one 11 .done)))))) .stop))))))) (ai (by kernel_rfl) ?_)
 refine ai ?_ (ai ?_ trivial)
 ·refine ai ?_ (ai ?_ trivial)
  ·refine ai (mxL (n:=p.length+1) (by omega) (by decide)) (ai (lt1 rfl) ?_)
   refine ai (mxL (n:=p.length+1) (by omega) (by decide)) (ai (lt1 rfl) ?_)
   refine ei [0,1,6,7] (ai (ai rfl (ai rfl rfl)) (ai trivial ?_))
   refine (ai (ai rfl (ai rfl (ai (ai rfl (fun _ _=>rfl)) (ai rfl rfl)))) (ai (ai rfl rfl) (ai (ai rfl (ai rfl (ai ?_ ?_))) (ai rfl (ai rfl (ai ?_ ?_))))))
   ·show p.length+1=(p++[x]).length;rw[aaA];rfl
   ·exact fun k hk=>rX (fun q=>tN q.1) p x (g:=bg 2 [s0,iP wt]) hx.symm k (by have hk:k<(p++[x]).length:=hk;rwa [aaA] at hk)
   ·show p.length+1=(p++[x]).length;rw[aaA];rfl
   ·exact fun k hk=>rX (fun q=>xD q.2) p x (g:=bg 3 [e0,e1,e2]) he.symm k (by have hk:k<(p++[x]).length:=hk;rwa [aaA] at hk)
  ·refine ai (mxL (n:=p.length+1) (by omega) (by decide)) (ai (lt1 rfl) ?_)
   refine ai (mxL (n:=p.length+1) (by omega) (by decide)) (ai (lt1 rfl) ?_)
   refine ei [0,1,6,7] (ai (ai rfl (ai rfl rfl)) (ai trivial ?_))
   refine (ai (ai rfl (ai rfl (ai (ai rfl (fun _ _=>rfl)) (ai rfl rfl)))) (ai (ai rfl rfl) (ai (ai rfl (ai rfl (ai ?_ ?_))) (ai rfl (ai rfl (ai ?_ ?_))))))
   ·show p.length+1=(p++[x]).length;rw[aaA];rfl
   ·exact fun k hk=>rX (fun q=>tN q.1) p x (g:=bg 2 [s0,iP wt]) hx.symm k (by have hk:k<(p++[x]).length:=hk;rwa [aaA] at hk)
   ·show p.length+1=(p++[x]).length;rw[aaA];rfl
   ·exact fun k hk=>rX (fun q=>xD q.2) p x (g:=bg 3 [e0,e1,e2]) he.symm k (by have hk:k<(p++[x]).length:=hk;rwa [aaA] at hk)
 ·refine ai (mxL (n:=p.length+1) (by omega) (by decide)) (ai (lt1 rfl) ?_)
  refine ai (mxL (n:=p.length+1) (by omega) (by decide)) (ai (lt1 rfl) ?_)
  refine ei [0,1,6,7] (ai (ai rfl (ai rfl rfl)) (ai trivial ?_))
  refine (ai (ai rfl (ai rfl (ai (ai rfl (fun _ _=>rfl)) (ai rfl rfl)))) (ai (ai rfl rfl) (ai (ai rfl (ai rfl (ai ?_ ?_))) (ai rfl (ai rfl (ai ?_ ?_))))))
  ·show p.length+1=(p++[x]).length;rw[aaA];rfl
  ·exact fun k hk=>rX (fun q=>tN q.1) p x (g:=bg 2 [s0,iP wt]) hx.symm k (by have hk:k<(p++[x]).length:=hk;rwa [aaA] at hk)
  ·show p.length+1=(p++[x]).length;rw[aaA];rfl
  ·exact fun k hk=>rX (fun q=>xD q.2) p x (g:=bg 3 [e0,e1,e2]) he.symm k (by have hk:k<(p++[x]).length:=hk;rwa [aaA] at hk)
theorem anW:jJ Tryz.prog 68 (ao8 true):=by
 refine oW (Tb:=tab) mixed aB Tryz.func68 rfl rfl ?_
 rintro ⟨act,p,s0,wt,e0,e1,e2,x⟩ hpre
 refine ai (ai rfl (ai rfl rfl)) ?_
 obtain ⟨⟨hp,hx,he⟩,hn⟩:=hpre
 obtain rfl:p=[]:=hn rfl
 have hx:tN x.1=[s0,iP wt]:=hx
 have he:xD x.2=[e0,e1,e2]:=he
 refine ei (.one 0 (.one 1 (.one 2 (.rd 5 [4] (.rd 6 [4] (.alt 3 (.alt 4 (.one 9 (.one 7 (.one 8 (.one 10 (.one 11 .done))))) (.alt 7 (.one 4 (.one 9 (.one 8 (.one 10 (.one 11 .done))))) .stop)) (.alt 7 (.one 3 (.one 4 (.one 9 (.one 8 (.one 10 (.one 11 .done)))))) .stop))))))) (ai (by kernel_rfl) ?_)
 refine ai ?_ (ai ?_ trivial)
 ·refine ai ?_ (ai ?_ trivial)
  ·refine ai (ai (by decide) (by decide)) (ai (lt1 rfl) ?_)
   refine ai (ai (by decide) (by decide)) (ai (lt1 rfl) ?_)
   refine ei [0,1,4,5] (ai (ai rfl (ai rfl rfl)) (ai trivial ?_))
   refine (ai (ai rfl (ai rfl (ai (ai rfl (fun _ _=>rfl)) (ai rfl rfl)))) (ai (ai rfl rfl) (ai (ai rfl (ai rfl (ai rfl ?_))) (ai rfl (ai rfl (ai rfl ?_))))))
   ·intro k hk
    have hk:k<1:=hk
    obtain rfl:k=0:=by omega
    exact hx.symm
   ·intro k hk
    have hk:k<1:=hk
    obtain rfl:k=0:=by omega
    exact he.symm
  ·refine ai (ai (by decide) (by decide)) (ai (lt1 rfl) ?_)
   refine ai (ai (by decide) (by decide)) (ai (lt1 rfl) ?_)
   refine ei [0,1,4,5] (ai (ai rfl (ai rfl rfl)) (ai trivial ?_))
   refine (ai (ai rfl (ai rfl (ai (ai rfl (fun _ _=>rfl)) (ai rfl rfl)))) (ai (ai rfl rfl) (ai (ai rfl (ai rfl (ai rfl ?_))) (ai rfl (ai rfl (ai rfl ?_))))))
   ·intro k hk
    have hk:k<1:=hk
    obtain rfl:k=0:=by omega
    exact hx.symm
   ·intro k hk
    have hk:k<1:=hk
    obtain rfl:k=0:=by omega
    exact he.symm
 ·refine ai (ai (by decide) (by decide)) (ai (lt1 rfl) ?_)
  refine ai (ai (by decide) (by decide)) (ai (lt1 rfl) ?_)
  refine ei [0,1,4,5] (ai (ai rfl (ai rfl rfl)) (ai trivial ?_))
  refine (ai (ai rfl (ai rfl (ai (ai rfl (fun _ _=>rfl)) (ai rfl rfl)))) (ai (ai rfl rfl) (ai (ai rfl (ai rfl (ai rfl ?_))) (ai rfl (ai rfl (ai rfl ?_))))))
  ·intro k hk
   have hk:k<1:=hk
   obtain rfl:k=0:=by omega
   exact hx.symm
  ·intro k hk
   have hk:k<1:=hk
   obtain rfl:k=0:=by omega
   exact he.symm
def aqG:Spec:=bQ (fun l:List (Sk)=>[ao2 l]) (fun l=>l.length≤1000000) (fun l=>yc l)
theorem aoM:aL Tryz.prog 70 aqG:=by
 refine aX (Tb:=tab) mixed aB Tryz.func70 rfl rfl ?_
 rintro (l:List (Sk)) hpre
 refine ai (ai rfl (ai rfl rfl)) ?_
 have hl:l.length≤1000000:=hpre
 intro b hb
 refine aY (fun h1=>?_) (fun h1=>?_)
 ·have h1:l.length=0:=hb h1
  refine ai (ai (fun _=>trivial) ?_) trivial
  show ak _ (yc l)
  rw[aoZ.1 h1]
  exact rfl
 ·refine ai (mxL (n:=0+l.length) (by omega) (by decide)) (ai (fun _ _=>rfl) ?_)
  refine ai (ai (fun _ k hk=>by rw[acz k hk];rfl) ?_) trivial
  refine (ai ?_ (fun _ _=>rfl))
  exact afG _
def toN (k n:Nat):Int:=(((k+1) % n:Nat):Int)
def aap (p:List SC) (k:Nat):List PV:=[.seq 1 (bg 1 [iP (k:Int)]),.seq 1 (bg 1 [iP (toN k p.length)]),(p.getD k oZ).2.1,(p.getD k oZ).2.2.1,(p.getD k oZ).2.2.2]
def ard (p:List SC) (k:Nat):LV:=.rw 123 5 k (aap p)
def aeY (act:Int) (p:List SC):PV:=.agg [iP act,aa5,.seq p.length (fun k=>tN (p.getD k oZ).1),.seq p.length (aap p)]
def vF (s:mH):Int:=if ¬kG s=0 then kG s else if 24<(dF s s.sts.length).length then 5 else 0
def ofRaw (s:mH):PV:=if vF s=0 then .tup [aeY s.act (dF s s.sts.length),iP 0] else .tup [.agg [iP 0,.val (.slice none 0 0),.val (.slice none 0 0),.val (.slice none 0 0)],iP (vF s)]
theorem aic (p:List SC) (k:Nat) {g:Nat→List PV} (hg:g 0=aap p k):∀j,j<k+1→bN k (aap p) g j=aap p j:=by
 intro j hj
 unfold bN
 by_cases h:j<k
 ·rw[if_pos h]
 ·obtain rfl:j=k:=by omega
  rw[if_neg h,aqX,hg]
theorem seq_ok {s:mH} (h:kG s=0):(1≤s.act∧s.act≤6)∧s.sts.length≤64∧∀x∈s.sts,jM x=0:=by
 unfold kG at h
 split at h
 ·cases h
 rename_i h1
 split at h
 ·cases h
 split at h
 ·cases h
 rename_i h3
 split at h
 ·rename_i h4;exact absurd h h4
 rename_i h4
 refine ⟨by omega,by omega,fun x hx=>?_⟩
 obtain ⟨k,hk,rfl⟩:=apr hx
 have:=oz (aqv.1 h4) k hk
 rw[show s.sts.getD k st0=s.sts[k] by rw[aaE,aaC hk];rfl] at this
 exact (afX this).1
set_option maxHeartbeats 16000000 in
theorem ahk:aL Tryz.prog 18 (iR (fun s:mH=>[sqA s]) (fun _=>True) ofRaw):=by
 refine jG [68,3000020,4000077,4000084] ?_
 refine aX (Tb:=tab) mixed aB Tryz.func18 rfl rfl ?_
 rintro (s:mH) hpre
 refine ai (ai rfl (ai rfl rfl)) ?_
 refine ei _ (ai (aj7) (ei (s) (ei [] (ai (a4 (ai (fun _=>Or.inl rfl) (ai nof (Or.inl rfl)))) (ai (by exact (ai rfl (ai rfl (fun _ _=>rfl)))) (ai trivial (ai (trivial) ?_)))))))
 refine bE (p:=kG s=0) (bT (by omega)) (fun h1=>?_) (fun h1=>?_)
 ·have e:vF s=kG s:=if_pos h1
  refine ai (ai (fun h=>absurd (show false=true from h) (by decide)) ?_) trivial
  show ak _ (ofRaw s)
  rw[ofRaw,e,if_neg h1]
  exact (ai (ai rfl (ai rfl (ai rfl rfl))) rfl)
 obtain ⟨⟨ha1,ha6⟩,h64,hck⟩:=seq_ok h1
 have hw2:IntKind.i64.wrap (2*s.act)=2*s.act:=wrI (by omega) (by omega)
 refine ei _ (ai (nH) (ei (2*s.act) (ei [] (ai (a4 (ai (fun _=>Or.inl rfl) (ai nof (Or.inl rfl)))) (ai ?_ (ai (by exact trivial) (ai (trivial) ?_)))))))
 ·exact hw2
 refine eB (anW) (⟨s.act,[],.val (.slice none 0 0),0,iP 1,iP (2*s.act),.val (.slice none 0 0),(⟨[],0⟩,yV (2*s.act))⟩) [3,4] (a4 (ai rfl rfl)) (Or.inl rfl) (by exact (ai (ai rfl rfl) (ai (ai rfl (ai (iE (by omega)) rfl)) (ai (ai rfl rfl) (ai rfl rfl))))) (by exact (ai (ai rfl (ai rfl (ai (ai rfl (fun _ _=>rfl)) (ai rfl rfl)))) (ai rfl rfl))) (⟨⟨abY _,rfl,rfl⟩,fun _=>rfl⟩) ?_
 have hL:=afo s
 refine ei (bC.inv { X:=Nat,up:=fun k=>[(34,.s (iA k))],uo:=fun k=>[⟨3,36,[.s (iA s.act),.s (.p false aa5),.rw 89 2 (dF s k).length (fun j=>tN ((dF s k).getD j oZ).1),.s abA]⟩,⟨4,77,[.rw 79 3 (dF s k).length (fun j=>xD ((dF s k).getD j oZ).2)]⟩],inv:=fun k=>k≤s.sts.length∧(True),meas:=fun k=>s.sts.length-k,x0:=0 }) ?_
 refine ai (ai (ai (by exact (a4 (ai rfl rfl))) (ai ?_ ?_)) rfl) (ai (ai (abY _) ?_) ?_)
 ·exact (ai (ai (fun _=>rfl) (iE (by simp only[zz,reduceCtorEq];rfl))) rfl)
 ·exact (ai (ai (ai (ai nof rfl) rfl) (ai (ai (ai nof (ai rfl (fun _ _=>rfl))) rfl) (ai (ai rfl (ai rfl (ai rfl (fun _ _=>rfl)))) (ai (ai nof rfl) rfl)))) (ai (ai rfl (ai rfl (ai rfl (fun _ _=>rfl)))) trivial))
 ·trivial
 intro (k:Nat) ⟨hk,_⟩
 obtain ⟨hk1,hk2⟩:=hL k hk
 refine ah (p:=k<s.sts.length) (au (by omega)) (fun h2=>?_) (fun h2=>?_)
 ·refine ai (ai (aaI _) (iN (n:=s.sts.length) (by omega))) (ai rfl ?_)
  have hm:=aaS (bH st0 h2)
  obtain ⟨⟨hx0,hx6⟩,hxs,hxw⟩:=vX (hck _ hm)
  have hsm:agj (s.sts.getD k st0).st:=⟨by omega,hxs⟩
  have hst:=adZ h2
  have hne:(s.sts.getD k st0).st≠[]:=fun e=>by rw[e] at hx0;simp at hx0
  refine ei (.one 0 (.one 1 (.one 2 (.one 5 (.one 6 (.one 3 (.one 4 (.one 7 (.wr 8 .done))))))))) (ai (by kernel_rfl) ?_)
  refine ei _ (ai (aoM) (ei ((s.sts.getD k st0).st) (ei [] (ai (a4 (ai (fun _=>Or.inl rfl) (ai nof (Or.inl rfl)))) (ai (by exact (ai rfl (fun _ _=>rfl))) (ai trivial (ai ((by show (s.sts.getD k st0).st.length≤1000000;omega)) ?_)))))))
  by_cases h1l:(s.sts.getD k st0).st.length=1
  ·have ee:=ae8 h1l
   refine ei _ (ai ((jE afS (s.sts.getD k st0).st ⟨hsm,hx0⟩ (r:=.agg [iP 1,iP (mK ((s.sts.getD k st0).st.getD 0 bI)),.val (.slice none 0 0)]) (congrArg PV.agg ee))) (ei (()) (ei [] (ai (a4 (ai (fun _=>Or.inl rfl) (ai nof (Or.inl rfl)))) (ai (by exact (ai rfl (fun _ _=>rfl))) (ai trivial (ai (trivial) ?_)))))))
   refine eB (acU) (⟨s.act,dF s k,yc (s.sts.getD k st0).st,0,iP 1,iP (mK ((s.sts.getD k st0).st.getD 0 bI)),.val (.slice none 0 0),(⟨(s.sts.getD k st0).st,0⟩,kW (s.sts.getD k st0).st)⟩) [3,4,7,8] (a4 (ai rfl rfl)) (Or.inl rfl) (by exact (ai (ai (ai rfl (fun _ _=>rfl)) rfl) (ai (ai rfl (ai rfl rfl)) (ai (ai rfl rfl) (ai rfl rfl))))) (by exact (ai (ai rfl (ai rfl (ai (ai rfl (fun _ _=>rfl)) (ai rfl rfl)))) (ai (ai rfl rfl) (ai (ai rfl (ai rfl (ai rfl (fun _ _=>rfl)))) (ai rfl (ai rfl (ai rfl (fun _ _=>rfl)))))))) (⟨⟨by show (dF s k).length≤1000;omega,by show tN ⟨(s.sts.getD k st0).st,0⟩=_;unfold tN;rw[if_neg hne],ee⟩,fun h=>by cases h⟩) ?_
   refine ah (p:=0<(s.sts.getD k st0).wt) (au Iff.rfl) (fun h3=>?_) (fun h3=>?_)
   ·have e:dF s (k+1)=(dF s k++[(⟨(s.sts.getD k st0).st,0⟩,kW (s.sts.getD k st0).st)])++[(⟨[],(s.sts.getD k st0).wt⟩,yV (2*s.act+1+(((dF s k).length+1:Nat):Int)))]:=by rw[hst];unfold sQ;rw[if_pos h3]
    have hpl:(dF s k++[((⟨(s.sts.getD k st0).st,0⟩:Stp),kW (s.sts.getD k st0).st)]).length=(dF s k).length+1:=by rw[aaA];rfl
    refine ei (.one 0 (.one 1 (.one 2 (.one 3 (.one 4 (.one 5 (.one 6 (.one 7 (.one 8 (.one 9 (.one 10 (.wr 11 .done)))))))))))) (ai (by kernel_rfl) ?_)
    refine ei _ (ai (nH) (ei (2*s.act+1+(((dF s k).length+1:Nat):Int)) (ei [] (ai (a4 (ai (fun _=>Or.inl rfl) (ai nof (Or.inl rfl)))) (ai ?_ (ai (by exact trivial) (ai (trivial) ?_)))))))
    ·show IntKind.i64.wrap (IntKind.i64.wrap (IntKind.i64.wrap (2*s.act)+1)+(((dF s k++[((⟨(s.sts.getD k st0).st,0⟩:Stp),kW (s.sts.getD k st0).st)]).length:Nat):Int))=_
     rw[hpl,hw2,wrI (n:=2*s.act+1) (by omega) (by omega),wrI (by omega) (by omega)]
    refine eB (acU) (⟨s.act,dF s k++[(⟨(s.sts.getD k st0).st,0⟩,kW (s.sts.getD k st0).st)],.val (.slice none 0 0),(s.sts.getD k st0).wt,iP 1,iP (2*s.act+1+(((dF s k).length+1:Nat):Int)),.val (.slice none 0 0),(⟨[],(s.sts.getD k st0).wt⟩,yV (2*s.act+1+(((dF s k).length+1:Nat):Int)))⟩) [3,4,10,11] (a4 (ai rfl rfl)) (Or.inl rfl) (by exact (ai (ai rfl (iE (by simp only[zz,reduceCtorEq]))) (ai (ai rfl (ai rfl rfl)) (ai (ai rfl rfl) (ai rfl rfl))))) (by exact (ai (ai rfl (ai rfl (ai (ai rfl (fun _ _=>rfl)) (ai rfl rfl)))) (ai (ai rfl rfl) (ai (ai rfl (ai rfl (ai rfl (fun _ _=>rfl)))) (ai rfl (ai rfl (ai rfl (fun _ _=>rfl)))))))) (⟨⟨by show (dF s k++[((⟨(s.sts.getD k st0).st,0⟩:Stp),kW (s.sts.getD k st0).st)]).length≤1000;rw[hpl];omega,rfl,rfl⟩,fun h=>by cases h⟩) ?_
    refine ei (k+1) (ai (ai rfl rfl) (ai (ai (ai rfl (ai (ai rfl rfl) (ai (ai rfl rfl) (ai (ai (ai (fun _=>rfl) (aO (by omega))) rfl) (ai (ai (ai (ai nof rfl) rfl) (ai (ai (ai nof (ai rfl (fun _ _=>rfl))) rfl) (ai (ai rfl (ai rfl (ai ?_ ?_))) (ai (ai nof rfl) rfl)))) (ai (ai rfl (ai rfl (ai ?_ ?_))) trivial)))))) rfl) (ai (ai (iL (by omega)) trivial) (iM (by omega)))))
    all_goals rw[e]
    ·exact fun _ _=>rfl
    ·exact fun _ _=>rfl
   ·have e:dF s (k+1)=dF s k++[(⟨(s.sts.getD k st0).st,0⟩,kW (s.sts.getD k st0).st)]:=by rw[hst];unfold sQ;rw[if_neg h3]
    refine ei (k+1) (ai (ai rfl rfl) (ai (ai (ai rfl (ai (ai rfl rfl) (ai (ai rfl rfl) (ai (ai (ai (fun _=>rfl) (aO (by omega))) rfl) (ai (ai (ai (ai nof rfl) rfl) (ai (ai (ai nof (ai rfl (fun _ _=>rfl))) rfl) (ai (ai rfl (ai rfl (ai ?_ ?_))) (ai (ai nof rfl) rfl)))) (ai (ai rfl (ai rfl (ai ?_ ?_))) trivial)))))) rfl) (ai (ai (iL (by omega)) trivial) (iM (by omega)))))
    all_goals rw[e]
    ·exact fun _ _=>rfl
    ·exact fun _ _=>rfl
  ·have ee:=adN h1l
   refine ei _ (ai ((jE afS (s.sts.getD k st0).st ⟨hsm,hx0⟩ (r:=.agg [iP 3,iP 0,.seq (s.sts.getD k st0).st.length (wE (s.sts.getD k st0).st)]) (congrArg PV.agg ee))) (ei (()) (ei [] (ai (a4 (ai (fun _=>Or.inl rfl) (ai nof (Or.inl rfl)))) (ai (by exact (ai rfl (fun _ _=>rfl))) (ai trivial (ai (trivial) ?_)))))))
   refine eB (acU) (⟨s.act,dF s k,yc (s.sts.getD k st0).st,0,iP 3,iP 0,.seq (s.sts.getD k st0).st.length (wE (s.sts.getD k st0).st),(⟨(s.sts.getD k st0).st,0⟩,kW (s.sts.getD k st0).st)⟩) [3,4,7,8] (a4 (ai rfl rfl)) (Or.inl rfl) (by exact (ai (ai (ai rfl (fun _ _=>rfl)) rfl) (ai (ai rfl (ai rfl (ai rfl (fun _ _=>rfl)))) (ai (ai rfl rfl) (ai rfl rfl))))) (by exact (ai (ai rfl (ai rfl (ai (ai rfl (fun _ _=>rfl)) (ai rfl rfl)))) (ai (ai rfl rfl) (ai (ai rfl (ai rfl (ai rfl (fun _ _=>rfl)))) (ai rfl (ai rfl (ai rfl (fun _ _=>rfl)))))))) (⟨⟨by show (dF s k).length≤1000;omega,by show tN ⟨(s.sts.getD k st0).st,0⟩=_;unfold tN;rw[if_neg hne],ee⟩,fun h=>by cases h⟩) ?_
   refine ah (p:=0<(s.sts.getD k st0).wt) (au Iff.rfl) (fun h3=>?_) (fun h3=>?_)
   ·have e:dF s (k+1)=(dF s k++[(⟨(s.sts.getD k st0).st,0⟩,kW (s.sts.getD k st0).st)])++[(⟨[],(s.sts.getD k st0).wt⟩,yV (2*s.act+1+(((dF s k).length+1:Nat):Int)))]:=by rw[hst];unfold sQ;rw[if_pos h3]
    have hpl:(dF s k++[((⟨(s.sts.getD k st0).st,0⟩:Stp),kW (s.sts.getD k st0).st)]).length=(dF s k).length+1:=by rw[aaA];rfl
    refine ei (.one 0 (.one 1 (.one 2 (.one 3 (.one 4 (.one 5 (.one 6 (.one 7 (.one 8 (.one 9 (.one 10 (.wr 11 .done)))))))))))) (ai (by kernel_rfl) ?_)
    refine ei _ (ai (nH) (ei (2*s.act+1+(((dF s k).length+1:Nat):Int)) (ei [] (ai (a4 (ai (fun _=>Or.inl rfl) (ai nof (Or.inl rfl)))) (ai ?_ (ai (by exact trivial) (ai (trivial) ?_)))))))
    ·show IntKind.i64.wrap (IntKind.i64.wrap (IntKind.i64.wrap (2*s.act)+1)+(((dF s k++[((⟨(s.sts.getD k st0).st,0⟩:Stp),kW (s.sts.getD k st0).st)]).length:Nat):Int))=_
     rw[hpl,hw2,wrI (n:=2*s.act+1) (by omega) (by omega),wrI (by omega) (by omega)]
    refine eB (acU) (⟨s.act,dF s k++[(⟨(s.sts.getD k st0).st,0⟩,kW (s.sts.getD k st0).st)],.val (.slice none 0 0),(s.sts.getD k st0).wt,iP 1,iP (2*s.act+1+(((dF s k).length+1:Nat):Int)),.val (.slice none 0 0),(⟨[],(s.sts.getD k st0).wt⟩,yV (2*s.act+1+(((dF s k).length+1:Nat):Int)))⟩) [3,4,10,11] (a4 (ai rfl rfl)) (Or.inl rfl) (by exact (ai (ai rfl (iE (by simp only[zz,reduceCtorEq]))) (ai (ai rfl (ai rfl rfl)) (ai (ai rfl rfl) (ai rfl rfl))))) (by exact (ai (ai rfl (ai rfl (ai (ai rfl (fun _ _=>rfl)) (ai rfl rfl)))) (ai (ai rfl rfl) (ai (ai rfl (ai rfl (ai rfl (fun _ _=>rfl)))) (ai rfl (ai rfl (ai rfl (fun _ _=>rfl)))))))) (⟨⟨by show (dF s k++[((⟨(s.sts.getD k st0).st,0⟩:Stp),kW (s.sts.getD k st0).st)]).length≤1000;rw[hpl];omega,rfl,rfl⟩,fun h=>by cases h⟩) ?_
    refine ei (k+1) (ai (ai rfl rfl) (ai (ai (ai rfl (ai (ai rfl rfl) (ai (ai rfl rfl) (ai (ai (ai (fun _=>rfl) (aO (by omega))) rfl) (ai (ai (ai (ai nof rfl) rfl) (ai (ai (ai nof (ai rfl (fun _ _=>rfl))) rfl) (ai (ai rfl (ai rfl (ai ?_ ?_))) (ai (ai nof rfl) rfl)))) (ai (ai rfl (ai rfl (ai ?_ ?_))) trivial)))))) rfl) (ai (ai (iL (by omega)) trivial) (iM (by omega)))))
    all_goals rw[e]
    ·exact fun _ _=>rfl
    ·exact fun _ _=>rfl
   ·have e:dF s (k+1)=dF s k++[(⟨(s.sts.getD k st0).st,0⟩,kW (s.sts.getD k st0).st)]:=by rw[hst];unfold sQ;rw[if_neg h3]
    refine ei (k+1) (ai (ai rfl rfl) (ai (ai (ai rfl (ai (ai rfl rfl) (ai (ai rfl rfl) (ai (ai (ai (fun _=>rfl) (aO (by omega))) rfl) (ai (ai (ai (ai nof rfl) rfl) (ai (ai (ai nof (ai rfl (fun _ _=>rfl))) rfl) (ai (ai rfl (ai rfl (ai ?_ ?_))) (ai (ai nof rfl) rfl)))) (ai (ai rfl (ai rfl (ai ?_ ?_))) trivial)))))) rfl) (ai (ai (iL (by omega)) trivial) (iM (by omega)))))
    all_goals rw[e]
    ·exact fun _ _=>rfl
    ·exact fun _ _=>rfl
 ·obtain rfl:k=s.sts.length:=by omega
  refine ah (p:=24<(dF s s.sts.length).length) (au (by omega)) (fun h4=>?_) (fun h4=>?_)
  ·have e:vF s=5:=by unfold vF;rw[if_neg (fun h=>h h1),if_pos h4]
   refine ai (ai (fun h=>absurd (show false=true from h) (by decide)) ?_) trivial
   show ak _ (ofRaw s)
   rw[ofRaw,e,if_neg (show ¬(5:Int)=0 by decide)]
   exact (ai (ai rfl (ai rfl (ai rfl rfl))) rfl)
  have e0:vF s=0:=by unfold vF;rw[if_neg (fun h=>h h1),if_neg h4]
  have hA:ofRaw s=.tup [aeY s.act (dF s s.sts.length),iP 0]:=by unfold ofRaw;rw[if_pos e0]
  have hp0:=(hL s.sts.length (aff _)).2
  clear hL
  generalize dF s s.sts.length=p at *
  refine ei (bC.inv { X:=Nat,up:=fun k=>[(71,.s (iA k))],uo:=fun k=>[⟨3,36,[.s (iA s.act),.s (.p false aa5),.rw 89 2 p.length (fun j=>tN (p.getD j oZ).1),ard p k]⟩],inv:=fun k=>k≤p.length∧(True),meas:=fun k=>p.length-k,x0:=0 }) ?_
  refine ai (ai (ai (by exact (a4 (ai rfl rfl))) (ai ?_ ?_)) rfl) (ai (ai (abY _) ?_) ?_)
  ·exact (ai (ai (fun _=>rfl) (iE (by simp only[zz,reduceCtorEq];rfl))) rfl)
  ·exact (ai (ai (ai (ai nof rfl) rfl) (ai (ai (ai nof (ai rfl (fun _ _=>rfl))) rfl) (ai (ai rfl (ai rfl (ai rfl (fun _ _=>rfl)))) rfl))) trivial)
  ·trivial
  intro (k:Nat) ⟨hk,_⟩
  refine ah (p:=k<p.length) (au (by omega)) (fun h5=>?_) (fun h5=>?_)
  ·have hw1:IntKind.i64.wrap ((k:Int)+1)=((k+1:Nat):Int):=aO (by omega)
   refine ei (.one 0 (.one 1 (.one 2 (.one 4 (.one 5 (.one 6 (.one 7 (.one 8 (.one 9 (.one 11 (.one 12 (.one 13 (.one 14 (.alt 3 (.one 10 (.one 15 (.one 16 (.one 17 (.one 18 (.one 19 .done)))))) (.alt 10 (.one 3 (.one 15 (.one 16 (.one 17 (.one 18 (.one 19 .done)))))) .stop))))))))))))))) (ai (by kernel_rfl) ?_)
   refine ai (by show ¬(p.length:Int)=0;omega) ?_
   refine ai (ai (aaI _) (by show (k:Int)<(p.length:Int);omega)) ?_
   refine ai (by show k<p.length;exact h5) ?_
   refine ai ?_ (ai ?_ trivial)
   ·refine ai (mxL (n:=k+1) (by omega) (by decide)) (ai (fun j hj=>by
     have hj:j<1:=hj
     obtain rfl:j=0:=by omega
     rfl) ?_)
    refine ei (k+1) (ai (ai rfl rfl) (ai (ai (ai rfl (ai (ai rfl rfl) (ai (ai rfl rfl) (ai (ai (ai (fun _=>rfl) (aO (by omega))) rfl) (ai (ai (ai (ai nof rfl) rfl) (ai (ai (ai nof (ai rfl (fun _ _=>rfl))) rfl) (ai (ai rfl (ai rfl (ai rfl (fun _ _=>rfl)))) (ai rfl (ai rfl (ai rfl ?_)))))) trivial))))) rfl) (ai (ai (iL (by omega)) trivial) (iM (by omega)))))
    refine aic p k ?_
    show [PV.seq 1 (bg 1 [iP (k:Int)]),.seq 1 (bg 1 [iP ((IntKind.i64.wrap ((k:Int)+1)).tmod (p.length:Int))]),(p.getD k oZ).2.1,(p.getD k oZ).2.2.1,(p.getD k oZ).2.2.2]=_
    rw[hw1];rfl
   ·refine ai (mxL (n:=k+1) (by omega) (by decide)) (ai (fun j hj=>by
     have hj:j<1:=hj
     obtain rfl:j=0:=by omega
     rfl) ?_)
    refine ei (k+1) (ai (ai rfl rfl) (ai (ai (ai rfl (ai (ai rfl rfl) (ai (ai rfl rfl) (ai (ai (ai (fun _=>rfl) (aO (by omega))) rfl) (ai (ai (ai (ai nof rfl) rfl) (ai (ai (ai nof (ai rfl (fun _ _=>rfl))) rfl) (ai (ai rfl (ai rfl (ai rfl (fun _ _=>rfl)))) (ai rfl (ai rfl (ai rfl ?_)))))) trivial))))) rfl) (ai (ai (iL (by omega)) trivial) (iM (by omega)))))
    refine aic p k ?_
    show [PV.seq 1 (bg 1 [iP (k:Int)]),.seq 1 (bg 1 [iP ((IntKind.i64.wrap ((k:Int)+1)).tmod (p.length:Int))]),(p.getD k oZ).2.1,(p.getD k oZ).2.2.1,(p.getD k oZ).2.2.2]=_
    rw[hw1];rfl
  ·obtain rfl:k=p.length:=by omega
   refine ai (ai (fun h=>absurd (show false=true from h) (by decide)) ?_) trivial
   show ak _ (ofRaw s)
   rw[hA]
   exact (ai (ai rfl (ai (ai rfl (fun _ _=>rfl)) (ai (ai rfl (fun _ _=>rfl)) (ai rfl (fun _ _=>rfl))))) rfl)
def gQ:List Bool→List Bool→Int
 | x :: a,y :: b=>if x=y then gQ a b else if y then -1 else 1
 | _,_=>0
theorem aei {a b:List Bool} (hl:a.length=b.length):∀{k:Nat},k≤a.length→a.take k=b.take k→gQ a b=gQ (a.drop k) (b.drop k)
 | 0,_,_=>rfl
 | k+1,hk,h=>by
  have h1:a.take k=b.take k:=by
   have:=congrArg (List.take k) h
   rwa [asq,asq,asb (by omega)] at this
  rw[aei hl (k:=k) (by omega) h1]
  have ha:a.drop k=a.getD k false :: a.drop (k+1):=by
   rw[anr (by omega),aaE,aaC (by omega)];rfl
  have hb:b.drop k=b.getD k false :: b.drop (k+1):=by
   rw[anr (by omega),aaE,aaC (by omega)];rfl
  have e:a.getD k false=b.getD k false:=by
   have:=congrArg (fun l=>l.getD k false) h
   simpa [aaE,akd] using this
  rw[ha,hb,gQ,if_pos e]
theorem anS {a b:List Bool} (hl:a.length=b.length) {k:Nat} (hk:k<a.length) (h:a.take k=b.take k) (hn:a.getD k false≠b.getD k false):gQ a b=if b.getD k false then -1 else 1:=by
 rw[aei hl (k:=k) (by omega) h]
 have ha:a.drop k=a.getD k false :: a.drop (k+1):=by
  rw[anr (by omega),aaE,aaC (by omega)];rfl
 have hb:b.drop k=b.getD k false :: b.drop (k+1):=by
  rw[anr (by omega),aaE,aaC (by omega)];rfl
 rw[ha,hb,gQ,if_neg hn]
theorem ahZ {a b:List Bool} (h:a=b):gQ a b=0:=by
 subst h
 induction a with
 | nil=>rfl
 | cons x a ih=>rw[gQ,if_pos rfl,ih]
def al3 (a b:List Bool):Bool:=gQ a b==-1
def rH (t:iU) (m:List Bool):Bool:=t.to.any (jI m t)&&allM m t.fr
theorem anL:aL Tryz.prog 66 (bQ (fun a:iU×List Bool=>[trA a.1,bsA a.2]) (fun a=>(fU a.2.length a.1.fr∧fU a.2.length a.1.to)∧a.1.fr.length≤1000000∧a.1.to.length≤1000000) (fun a=>bP (rH a.1 a.2))):=by
 refine aX (Tb:=tab) mixed aB Tryz.func66 rfl rfl ?_
 rintro (a:iU×List Bool) hpre
 refine ai (ai rfl (ai rfl rfl)) ?_
 obtain ⟨⟨hx,hy⟩,hl,hl2⟩:=hpre
 have hl2:a.1.to.length≤1000000:=hl2
 refine ei (bC.inv { X:=Nat,up:=fun k=>[(10,.s (iA k))],uo:=fun k=>[],inv:=fun k=>k≤a.1.to.length∧(∀y∈a.1.to.take k,jI a.2 a.1 y=false),meas:=fun k=>a.1.to.length-k,x0:=0 }) ?_
 refine ai (ai (ai (by exact (a4 (ai rfl rfl))) (ai (by exact (ai (ai (fun _=>rfl) (iE (by simp only[zz,reduceCtorEq];rfl))) rfl)) (by exact trivial))) rfl) (ai (ai (abY _) ?_) ?_)
 ·exact fun y hy=>absurd hy (by simp)
 intro (k:Nat) ⟨hk,hall⟩
 refine ah (p:=k<a.1.to.length) (au (by omega)) (fun h1=>?_) (fun h1=>?_)
 ·refine ai (ai (aaI _) (iN (n:=a.1.to.length) (by omega))) (ai rfl ?_)
  refine ai (kN hy h1) ?_
  refine ai rfl ?_
  refine aZ (b:=jv a.2 (a.1.to.getD k 0)) rfl (fun h2=>?_) (fun h2=>?_)
  ·refine ei _ (ai (am0) (ei ((a.1.fr,a.1.to.getD k 0)) (ei [] (ai (a4 (ai (fun _=>Or.inl rfl) (ai nof (Or.inl rfl)))) (ai (by exact (ai (ai rfl (fun _ _=>rfl)) (iE (by simp only[zz,reduceCtorEq])))) (ai trivial (ai (hl) ?_)))))))
   refine aZ (b:=!yX a.1.fr (a.1.to.getD k 0)) rfl (fun h3=>?_) (fun h3=>?_)
   ·refine ei _ (ai (afZ) (ei (a) (ei [] (ai (a4 (ai (fun _=>Or.inl rfl) (ai nof (Or.inl rfl)))) (ai (by exact (ai (ai (ai rfl (fun _ _=>rfl)) (ai (ai rfl (fun _ _=>rfl)) (ai rfl (ai rfl (ai rfl (fun _ _=>rfl)))))) (ai rfl (fun _ _=>rfl)))) (ai trivial (ai (⟨hx,hl⟩) ?_)))))))
    have e:a.1.to.any (jI a.2 a.1)=true:=uW (d:=0) h1 (by unfold jI;rw[h2,h3];rfl)
    refine ai (ai (fun _=>trivial) ?_) trivial
    show ak _ (bP (rH a.1 a.2))
    rw[show rH a.1 a.2=allM a.2 a.1.fr by unfold rH;rw[e,ahS]]
    exact rfl
   ·refine ei (k+1) (ai (ai rfl rfl) (ai (ai (ai rfl (ai (ai rfl rfl) (ai (ai rfl rfl) (ai (ai (ai (fun _=>rfl) (aO (by omega))) rfl) trivial)))) rfl) (ai (ai (iL (by omega)) ?_) (iM (by omega)))))
    intro y hy
    rw[aP 0 h1] at hy
    rcases afA.1 hy with hy | hy
    ·exact hall y hy
    ·simp only[afq] at hy;subst hy;unfold jI;rw[h3];simp
  ·refine ei (k+1) (ai (ai rfl rfl) (ai (ai (ai rfl (ai (ai rfl rfl) (ai (ai rfl rfl) (ai (ai (ai (fun _=>rfl) (aO (by omega))) rfl) trivial)))) rfl) (ai (ai (iL (by omega)) ?_) (iM (by omega)))))
   intro y hy
   rw[aP 0 h1] at hy
   rcases afA.1 hy with hy | hy
   ·exact hall y hy
   ·simp only[afq] at hy;subst hy;unfold jI;rw[h2];simp
 ·obtain rfl:k=a.1.to.length:=by omega
  rw[afj] at hall
  have e:a.1.to.any (jI a.2 a.1)=false:=arM.2 (fun y hy=>by rw[hall y hy];decide)
  refine ai (ai (fun _=>trivial) ?_) trivial
  show ak _ (bP (rH a.1 a.2))
  rw[show rH a.1 a.2=false by unfold rH;rw[e,anC]]
  exact rfl
def mD (n:Nat):List Bool:=(List.replicate n false).set 0 true
theorem am5:aL Tryz.prog 127 (iR (fun c:aS=>[jH c]) (fun c=>0<c.sts.length∧c.sts.length≤24) (fun c=>lN (mD c.sts.length))):=by
 refine aX (Tb:=tab) mixed aB Tryz.func127 rfl rfl ?_
 rintro (c:aS) hpre
 refine ai (ai rfl (ai rfl rfl)) ?_
 obtain ⟨h1,h2⟩:=hpre
 have h1:0<c.sts.length:=h1
 have h2:c.sts.length≤24:=h2
 refine ai (ai (aaI _) (ai (Int.le_refl _) (ai (by show (c.sts.length:Int)≤_;omega) (by show 1*((c.sts.length:Int)).toNat≤_;rw[aps];omega)))) ?_
 refine ai (ai (by decide) (by show (0:Int)<((((c.sts.length:Int)).toNat:Nat):Int);rw[aps];omega)) ?_
 refine ai (ai (by show 0<((c.sts.length:Int)).toNat;rw[aps];exact h1) (by decide)) ?_
 refine ai (ai nof ?_) trivial
 refine (ai ?_ ?_)
 ·show ((c.sts.length:Int)).toNat=(mD c.sts.length).length
  unfold mD;rw[aps,ar5,aq2]
 ·intro k hk
  have hk:k<((c.sts.length:Int)).toNat:=hk
  rw[aps] at hk
  show kr (fun _=>[bP false]) 0 0 [bP true] k=[bP ((mD c.sts.length).getD k false)]
  unfold kr mD
  rw[aaE,asc]
  by_cases e:k=0
  ·subst e;rw[if_pos rfl,if_pos rfl,if_pos (by rw[aq2];exact h1)];rfl
  ·rw[if_neg e,if_neg (fun h=>e h.symm),arZ,if_pos hk];rfl
abbrev Mk := List Bool × List Int
def av:Mk:=([],[])
def mwK (x:Mk):List PV:=[lN x.1,lg x.2]
def ajE (l:List Mk):PV:=.seq l.length (fun k=>mwK (l.getD k av))
def arI (l:List Mk):SV:=.p false (ajE l)
def lD (l:List Mk) (m:List Bool):Bool:=l.any fun y=>decide (y.1=m)
theorem alQ:aL Tryz.prog 128 (bQ (fun a:List Mk×List Bool=>[arI a.1,bsA a.2]) (fun a=>a.1.length≤1000000∧∀y∈a.1,y.1.length≤1000000) (fun a=>bP (lD a.1 a.2))):=by
 refine aX (Tb:=tab) mixed aB Tryz.func128 rfl rfl ?_
 rintro (a:List Mk×List Bool) hpre
 refine ai (ai rfl (ai rfl rfl)) ?_
 obtain ⟨hl,hm⟩:=hpre
 have hl:a.1.length≤1000000:=hl
 refine ei (bC.inv { X:=Nat,up:=fun k=>[(5,.s (iA k))],uo:=fun k=>[],inv:=fun k=>k≤a.1.length∧(∀y∈a.1.take k,decide (y.1=a.2)=false),meas:=fun k=>a.1.length-k,x0:=0 }) ?_
 refine ai (ai (ai (by exact (a4 (ai rfl rfl))) (ai (by exact (ai (ai (fun _=>rfl) (iE (by simp only[zz,reduceCtorEq];rfl))) rfl)) (by exact trivial))) rfl) (ai (ai (abY _) ?_) ?_)
 ·exact fun y hy=>absurd hy (by simp)
 intro (k:Nat) ⟨hk,hall⟩
 refine ah (p:=k<a.1.length) (au (by omega)) (fun h1=>?_) (fun h1=>?_)
 ·refine ai (ai (aaI _) (iN (n:=a.1.length) (by omega))) (ai rfl ?_)
  refine ei _ (ai (af8) (ei (((a.1.getD k av).1,a.2)) (ei [] (ai (a4 (ai (fun _=>Or.inl rfl) (ai nof (Or.inl rfl)))) (ai (by exact (ai (ai rfl (fun _ _=>rfl)) (ai rfl (fun _ _=>rfl)))) (ai trivial (ai (hm _ (aaS (bH av h1))) ?_)))))))
  refine aZ (b:=decide ((a.1.getD k av).1=a.2)) rfl (fun h2=>?_) (fun h2=>?_)
  ·refine ai (ai (fun _=>trivial) ?_) trivial
   show ak _ (bP (lD a.1 a.2))
   rw[show lD a.1 a.2=true from uW (d:=av) h1 h2]
   exact rfl
  refine ei (k+1) (ai (ai rfl rfl) (ai (ai (ai rfl (ai (ai rfl rfl) (ai (ai rfl rfl) (ai (ai (ai (fun _=>rfl) (aO (by omega))) rfl) trivial)))) rfl) (ai (ai (iL (by omega)) ?_) (iM (by omega)))))
  intro y hy
  rw[aP av h1] at hy
  rcases afA.1 hy with hy | hy
  ·exact hall y hy
  ·simp only[afq] at hy;subst hy;exact h2
 ·obtain rfl:k=a.1.length:=by omega
  rw[afj] at hall
  refine ai (ai (fun _=>trivial) ?_) trivial
  show ak _ (bP (lD a.1 a.2))
  rw[show lD a.1 a.2=false from arM.2 (fun y hy=>by rw[hall y hy];decide)]
  exact rfl
def fC (x y:Int):Int:=if x<y then -1 else if y<x then 1 else 0
theorem aft:aL Tryz.prog 163 (bQ (fun x:Int=>[iA x]) (fun _=>True) (fun _=>bP false)):=by
 refine aX (Tb:=tab) mixed aB Tryz.func163 rfl rfl ?_
 rintro (x:Int) hpre
 refine ai (ai rfl (ai rfl rfl)) ?_
 refine ai (ai (fun _=>trivial) ?_) trivial
 show ak _ (bP false)
 rw[show false=(x != x) by simp]
 exact rfl
theorem aos:aL Tryz.prog 126 (bQ (fun a:Int×Int=>[iA a.1,iA a.2]) (fun _=>True) (fun a=>iP (fC a.1 a.2))):=by
 refine aX (Tb:=tab) mixed aB Tryz.func126 rfl rfl ?_
 rintro (a:Int×Int) hpre
 refine ai (ai rfl (ai rfl rfl)) ?_
 refine ei _ (ai (aft) (ei (a.1) (ei [] (ai (a4 (ai (fun _=>Or.inl rfl) (ai nof (Or.inl rfl)))) (ai (by exact rfl) (ai trivial (ai (trivial) ?_)))))))
 refine ei _ (ai (aft) (ei (a.2) (ei [] (ai (a4 (ai (fun _=>Or.inl rfl) (ai nof (Or.inl rfl)))) (ai (by exact rfl) (ai trivial (ai (trivial) ?_)))))))
 refine ah (p:=a.1<a.2) (au (by omega)) (fun h1=>?_) (fun h1=>?_)
 ·refine ai (ai (fun _=>trivial) ?_) trivial
  show ak _ (iP (fC a.1 a.2))
  rw[fC,if_pos h1]
  exact rfl
 refine ah (p:=a.2<a.1) (au (by omega)) (fun h2=>?_) (fun h2=>?_)
 ·refine ai (ai (fun _=>trivial) ?_) trivial
  show ak _ (iP (fC a.1 a.2))
  rw[fC,if_neg h1,if_pos h2]
  exact rfl
 ·refine ai (ai (fun _=>trivial) ?_) trivial
  show ak _ (iP (fC a.1 a.2))
  rw[fC,if_neg h1,if_neg h2]
  exact rfl
def cmpL:List Int→List Int→Int
 | [],[]=>0
 | [],_ :: _=>-1
 | _ :: _,[]=>1
 | x :: a,y :: b=>if fC x y=0 then cmpL a b else fC x y
theorem akC {x y:Int} (h:fC x y=0):x=y:=by
 unfold fC at h
 split at h
 ·cases h
 ·split at h
  ·cases h
  ·omega
theorem aeE {a b:List Int}:∀{k:Nat},k≤a.length→k≤b.length→a.take k=b.take k→cmpL a b=cmpL (a.drop k) (b.drop k)
 | 0,_,_,_=>rfl
 | k+1,hk,hk2,h=>by
  have h1:a.take k=b.take k:=by
   have:=congrArg (List.take k) h
   rwa [asq,asq,asb (by omega)] at this
  rw[aeE (k:=k) (by omega) (by omega) h1]
  have ha:a.drop k=a.getD k 0 :: a.drop (k+1):=by
   rw[anr (by omega),aaE,aaC (by omega)];rfl
  have hb:b.drop k=b.getD k 0 :: b.drop (k+1):=by
   rw[anr (by omega),aaE,aaC (by omega)];rfl
  have e:a.getD k 0=b.getD k 0:=by
   have:=congrArg (fun l=>l.getD k 0) h
   simpa [aaE,akd] using this
  rw[ha,hb,cmpL,if_pos (by rw[e];unfold fC;rw[if_neg (by omega),if_neg (by omega)])]
theorem aat:aL Tryz.prog 64 (bQ (fun a:List Int×List Int=>[isA a.1,isA a.2]) (fun a=>a.1.length≤1000000) (fun a=>iP (cmpL a.1 a.2))):=by
 refine aX (Tb:=tab) mixed aB Tryz.func64 rfl rfl ?_
 rintro (a:List Int×List Int) hpre
 refine ai (ai rfl (ai rfl rfl)) ?_
 have hl:a.1.length≤1000000:=hpre
 refine ei (bC.inv { X:=Nat,up:=fun k=>[(11,.s (iA k))],uo:=fun k=>[],inv:=fun k=>k≤a.1.length∧(k≤a.2.length∧a.1.take k=a.2.take k),meas:=fun k=>a.1.length-k,x0:=0 }) ?_
 refine ai (ai (ai (by exact (a4 (ai rfl rfl))) (ai (by exact (ai (ai (fun _=>rfl) (iE (by simp only[zz,reduceCtorEq];rfl))) rfl)) (by exact trivial))) rfl) (ai (ai (abY _) ?_) ?_)
 ·exact ⟨abY _,rfl⟩
 intro (k:Nat) ⟨hk,hk2,hall⟩
 have hD:=aeE hk hk2 hall
 refine ah (p:=k<a.1.length) (au (by omega)) (fun h1=>?_) (fun h1=>?_)
 ·refine ai (ai (aaI _) (iN (n:=a.1.length) (by omega))) (ai rfl ?_)
  have ha:a.1.drop k=a.1.getD k 0 :: a.1.drop (k+1):=by
   rw[anr (by omega),aaE,aaC (by omega)];rfl
  refine ah (p:=a.2.length≤k) (cB (by omega)) (fun h2=>?_) (fun h2=>?_)
  ·refine ai (ai (fun _=>trivial) ?_) trivial
   show ak _ (iP (cmpL a.1 a.2))
   rw[show cmpL a.1 a.2=1 by rw[hD,ha,arO h2];rfl]
   exact rfl
  have hb:a.2.drop k=a.2.getD k 0 :: a.2.drop (k+1):=by
   rw[anr (by omega),aaE,aaC (by omega)];rfl
  refine ai (ai (aaI _) (iN (n:=a.2.length) (by omega))) (ai rfl ?_)
  refine ei _ (ai (aos) (ei ((a.1.getD k 0,a.2.getD k 0)) (ei [] (ai (a4 (ai (fun _=>Or.inl rfl) (ai nof (Or.inl rfl)))) (ai (by exact (ai (iE (by simp only[zz,reduceCtorEq])) (iE (by simp only[zz,reduceCtorEq])))) (ai trivial (ai (trivial) ?_)))))))
  refine bE (p:=fC (a.1.getD k 0) (a.2.getD k 0)=0) (bT (by dsimp only;omega)) (fun h3=>?_) (fun h3=>?_)
  ·refine ai (ai (fun _=>trivial) ?_) trivial
   show ak _ (iP (cmpL a.1 a.2))
   rw[show cmpL a.1 a.2=fC (a.1.getD k 0) (a.2.getD k 0) by rw[hD,ha,hb,cmpL,if_neg h3]]
   exact rfl
  refine ei (k+1) (ai (ai rfl rfl) (ai (ai (ai rfl (ai (ai rfl rfl) (ai (ai rfl rfl) (ai (ai (ai (fun _=>rfl) (aO (by omega))) rfl) trivial)))) rfl) (ai (ai (iL (by omega)) (ai ?_ ?_)) (iM (by omega)))))
  ·show k+1≤a.2.length;omega
  ·exact aal 0 h1 (by omega) hall (akC h3)
 ·obtain rfl:k=a.1.length:=by omega
  rw[arO (aff _)] at hD
  refine ah (p:=a.1.length<a.2.length) (au (by omega)) (fun h4=>?_) (fun h4=>?_)
  ·have hb:a.2.drop a.1.length=a.2.getD a.1.length 0 :: a.2.drop (a.1.length+1):=by
    rw[anr (by omega),aaE,aaC (by omega)];rfl
   refine ai (ai (fun _=>trivial) ?_) trivial
   show ak _ (iP (cmpL a.1 a.2))
   rw[show cmpL a.1 a.2=-1 by rw[hD,hb];rfl]
   exact rfl
  ·refine ai (ai (fun _=>trivial) ?_) trivial
   show ak _ (iP (cmpL a.1 a.2))
   rw[show cmpL a.1 a.2=0 by rw[hD,arO (by omega)];rfl]
   exact rfl
def om (c:aS) (i:Nat):iU:=c.trs.getD i aM
def aC (c:aS) (l:List Mk) (a i:Nat):Mk:=(l7 (l.getD a av).1 (om c i),(l.getD a av).2++[(i:Int)])
def adds (c:aS) (l:List Mk) (a i:Nat):Bool:=allM (l.getD a av).1 (om c i).fr&&!lD l (aC c l a i).1
def gZ (c:aS) (l:List Mk) (a i:Nat):List Mk:=if adds c l a i then l++[aC c l a i] else l
def bW (c:aS) (l:List Mk) (a:Nat):Nat→List Mk
 | 0=>l
 | k+1=>gZ c (bW c l a k) a k
def mI (c:aS):Nat→List Mk→Nat→Option (List Mk)
 | 0,l,a=>some l
 | f+1,l,a=>if l.length≤a then some l else if 16384<(bW c l a c.trs.length).length then none else mI c f (bW c l a c.trs.length) (a+1)
def mk1 (c:aS):List Mk:=[(mD c.sts.length,[])]
def l8 (c:aS):Option (List Mk):=mI c 16385 (mk1 c) 0
theorem aeC (c:aS) (l:List Mk) (a i:Nat):(∃t,gZ c l a i=l++t)∧(gZ c l a i).length≤l.length+1:=by
 unfold gZ
 split
 ·exact ⟨⟨_,rfl⟩,by simp⟩
 ·exact ⟨⟨[],(apT _).symm⟩,by omega⟩
theorem alk (c:aS) (l:List Mk) (a:Nat):∀{j k:Nat},j≤k→(bW c l a j).length≤(bW c l a k).length:=by
 intro j k h
 induction k with
 | zero=>
  have:j=0:=by omega
  subst this;exact aff _
 | succ k ih=>
  by_cases e:j=k+1
  ·subst e;exact aff _
  ·have h1:=ih (by omega)
   obtain ⟨⟨t,ht⟩,_⟩:=aeC c (bW c l a k) a k
   have:(bW c l a (k+1)).length=(bW c l a k).length+t.length:=by
    show (gZ c (bW c l a k) a k).length=_
    rw[ht,aaA]
   omega
theorem nY (c:aS) (l:List Mk) (a:Nat):∀k,∃t,bW c l a k=l++t
 | 0=>⟨[],(apT _).symm⟩
 | k+1=>by
  obtain ⟨t,ht⟩:=nY c l a k
  obtain ⟨⟨t2,h2⟩,_⟩:=aeC c (bW c l a k) a k
  exact ⟨t++t2,by show gZ c (bW c l a k) a k=_;rw[h2,ht,arW]⟩
def lZ (c:aS) (l:List Mk):Prop:=∀y∈l,y.1.length=c.sts.length∧fU c.trs.length y.2
theorem akk {c:aS} {l:List Mk} {a i:Nat} (h:lZ c l) (ha:a<l.length) (hi:i<c.trs.length):lZ c (l++[aC c l a i]):=by
 intro y hy
 rcases afA.1 hy with hy | hy
 ·exact h y hy
 ·simp only[afq] at hy
  subst hy
  have hg:=h _ (aaS (bH av ha))
  refine ⟨by show (l7 _ _).length=_;unfold l7;rw[dR,dR];exact hg.1,fun x hx=>?_⟩
  rcases afA.1 hx with hx | hx
  ·exact hg.2 x hx
  ·simp only[afq] at hx;subst hx;omega
theorem good_step {c:aS} {l:List Mk} {a i:Nat} (h:lZ c l) (ha:a<l.length) (hi:i<c.trs.length):lZ c (gZ c l a i):=by
 unfold gZ
 split
 ·exact akk h ha hi
 ·exact h
theorem good_row {c:aS} {l:List Mk} {a:Nat} (h:lZ c l) (ha:a<l.length):∀{k:Nat},k≤c.trs.length→lZ c (bW c l a k)
 | 0,_=>h
 | k+1,hk=>good_step (good_row h ha (by omega)) (by obtain ⟨t,ht⟩:=nY c l a k;rw[ht,aaA];omega) (by omega)
theorem aa7 (c:aS):lZ c (mk1 c):=by
 intro y hy
 simp only[mk1,afq] at hy
 subst hy
 exact ⟨by show (mD _).length=_;unfold mD;rw[ar5,aq2],fun x hx=>by simp at hx⟩
theorem agX {c:aS} {f:Nat} {l:List Mk} {a:Nat} (h:l.length≤a):mI c f l a=some l:=by
 cases f with
 | zero=>rfl
 | succ f=>rw[mI,if_pos h]
theorem agH {c:aS} {f:Nat} {l:List Mk} {a k:Nat} (ha:a<l.length) (hk:k≤c.trs.length) (h:16384<(bW c l a k).length):mI c (f+1) l a=none:=by
 have:=alk c l a hk
 rw[mI,if_neg (by omega),if_pos (by omega)]
theorem afV {c:aS} {f:Nat} {l:List Mk} {a:Nat} (ha:a<l.length) (h:(bW c l a c.trs.length).length≤16384):mI c (f+1) l a=mI c f (bW c l a c.trs.length) (a+1):=by
 rw[mI,if_neg (by omega),if_neg (by omega)]
def mwR (l:List Mk):LV:=.rws 129 2 l.length (fun k=>mwK (l.getD k av))
theorem zf {u u' v v':PV} (h1:gD u u') (h2:gD v v'):bJ [u,v] [u',v']:=by
 refine ⟨rfl,fun k s s' hs hs'=>?_⟩
 match k with
 | 0=>cases hs;cases hs';exact h1
 | 1=>cases hs;cases hs';exact h2
 | k+2=>simp at hs
theorem aoe (a:List Mk) (x:Mk) {u v:PV} (hu:gD u (lN x.1)) (hv:gD v (lg x.2)):∀k,k<a.length+1→bJ (bN a.length (fun k=>mwK (a.getD k av)) (bg 2 [u,v]) k) (mwK ((a++[x]).getD k av)):=by
 intro k hk
 unfold bN
 by_cases h:k<a.length
 ·rw[if_pos h]
  refine bJ.of ?_
  show mwK (a.getD k av)=_
  rw[aaE,aaE,aee h]
 ·obtain rfl:k=a.length:=by omega
  rw[if_neg h,aqX,aaE,aeD (aff _),aqX]
  exact zf hu hv
theorem aiQ {n:Nat} {f:Nat→List PV} {l:List Int} (hn:n=l.length) (hf:∀k,k<n→f k=[iP (l.getD k 0)]):gD (.seq n f) (lg l):=by
 subst hn
 refine .seq _ _ _ (fun j hj=>by rw[hf j hj]) fun j k s s' hj hs hs'=>?_
 rw[hf j hj] at hs
 have hs':[iP (l.getD j 0)][k]?=some s':=hs'
 rw[hs] at hs';cases hs';exact .refl _
def abg (c:aS):PV:=match l8 c with
 | some l=>.tup [ajE l,iP 0]
 | none=>.tup [ajE [],iP 12]
theorem akg (c:aS) (m:List Bool) (k:Nat):xU c m [(k:Int)]=l7 m (om c k):=by
 show bM (bM m (c.trs.getD ((k:Int)).toNat aM).fr false) (c.trs.getD ((k:Int)).toNat aM).to true=_
 rw[aps];rfl
theorem jd {c:aS} {l:List Mk} {a:Nat} (ha:a<l.length) (k:Nat):(bW c l a k).getD a av=l.getD a av:=by
 obtain ⟨t,ht⟩:=nY c l a k
 rw[ht,aaE,aaE,aee ha]
def tC (n:Nat) (l:List Mk):Prop:=∀y∈l,y.2.length≤n
theorem aag {c:aS} {l:List Mk} {a:Nat} (ha:a<l.length) (h:tC a l):∀k,tC (a+1) (bW c l a k)
 | 0=>fun y hy=>Nat.le_succ_of_le (h y hy)
 | k+1=>by
  have ih:=aag (c:=c) ha h k
  show tC (a+1) (gZ c (bW c l a k) a k)
  unfold gZ
  split
  ·intro y hy
   rcases afA.1 hy with hy | hy
   ·exact ih y hy
   ·simp only[afq] at hy
    subst hy
    show (((bW c l a k).getD a av).2++[(k:Int)]).length≤a+1
    rw[jd ha,aaA]
    have:=h _ (aaS (bH av ha))
    show (l.getD a av).2.length+1≤a+1
    omega
  ·exact ih
theorem alY {n k:Nat} (h:k<n):fU n [(k:Int)]:=fun x hx=>by
 simp only[afq] at hx;subst hx;omega
theorem ahB:aL Tryz.prog 65 (iR (fun c:aS=>[jH c]) (fun c=>bD c=0∧je c) abg):=by
 refine jG [3000061] ?_
 refine aX (Tb:=tab) mixed aB Tryz.func65 rfl rfl ?_
 rintro (c:aS) hpre
 refine ai (ai rfl (ai rfl rfl)) ?_
 obtain ⟨hc,ho⟩:=hpre
 have hc:bD c=0:=hc
 have ho:je c:=ho
 obtain ⟨_,_,⟨b3,b4⟩,b5,_⟩:=jg hc
 refine ei _ (ai (am5) (ei (c) (ei [] (ai (a4 (ai (fun _=>Or.inl rfl) (ai nof (Or.inl rfl)))) (ai (by exact (ai rfl (ai (ai rfl (fun _ _=>rfl)) (ai (ai rfl (fun _ _=>rfl)) (ai rfl (fun _ _=>rfl)))))) (ai trivial (ai (⟨b3,b4⟩) ?_)))))))
 refine ei (bC.inv { X:=Nat×List Mk,up:=fun x=>[(5,.s (iA x.1)),(4,mwR x.2)],uo:=fun _=>[],inv:=fun x=>x.1≤x.2.length∧x.2.length≤16384∧(lZ c x.2∧tC x.1 x.2)∧mI c (16385-x.1) x.2 x.1=l8 c,meas:=fun x=>16385-x.1,x0:=(0,mk1 c) }) ?_
 refine ai (ai (ai (by exact (a4 (ai rfl rfl))) (ai ?_ ?_)) ?_) (ai ?_ ?_)
 ·refine (ai (ai (ai (fun _=>rfl) (iE (by simp only[zz,reduceCtorEq];rfl))) rfl) (ai rfl (ai rfl (ai rfl ?_))))
  intro k hk
  have hk:k<1:=hk
  obtain rfl:k=0:=by omega
  exact zf (.refl _) (.nil _)
 ·exact trivial
 ·rfl
 ·exact ⟨abY _,by show 1≤16384;decide,⟨aa7 c,fun y hy=>by simp only[mk1,afq] at hy;subst hy;exact abY _⟩,rfl⟩
 rintro ⟨a,l⟩ ⟨hal,hll,⟨hg,hwl⟩,hr⟩
 have hal:a≤l.length:=hal
 have hll:l.length≤16384:=hll
 have hg:lZ c l:=hg
 have hwl:tC a l:=hwl
 have hr:mI c (16385-a) l a=l8 c:=hr
 refine ah (p:=a<l.length) (au (by dsimp only;omega)) (fun h1=>?_) (fun h1=>?_)
 ·refine ei (bC.inv { X:=Nat,up:=fun k=>[(6,.s (iA k)),(4,mwR (bW c l a k))],uo:=fun k=>[],inv:=fun k=>k≤c.trs.length∧((bW c l a k).length≤16384),meas:=fun k=>c.trs.length-k,x0:=0 }) ?_
  refine ai (ai (ai (by exact (a4 (ai rfl rfl))) (ai ?_ ?_)) rfl) (ai (ai (abY _) ?_) ?_)
  ·refine (ai (ai (ai (fun _=>rfl) (iE (by simp only[zz,reduceCtorEq];rfl))) rfl) (ai rfl (ai rfl (ai rfl ?_))))
   exact fun k _=>bJ.rfl' _
  ·exact trivial
  ·exact hll
  intro (k:Nat) ⟨hk,hkl⟩
  have hgk:=good_row hg h1 hk
  have hways:=aag (c:=c) h1 hwl k
  obtain ⟨t,ht⟩:=nY c l a k
  have hak:a<(bW c l a k).length:=by rw[ht,aaA];omega
  refine ah (p:=k<c.trs.length) (au (by omega)) (fun h2=>?_) (fun h2=>?_)
  ·have hst:bW c l a (k+1)=gZ c (bW c l a k) a k:=rfl
   have hrun:16384<(bW c l a (k+1)).length→l8 c=none:=fun h=>by
    rw[←hr,show 16385-a=(16384-a)+1 by omega]
    exact agH h1 (show k+1≤c.trs.length from h2) h
   generalize bW c l a k=L at *
   have hga:=hgk _ (aaS (bH av hak))
   obtain ⟨q1,q2,q3⟩:=kS hc h2
   have hto:=qd ho h2
   refine ei (.seq [0,1,2,3,4,5,6,7,8,9,10,11]) (ai (by kernel_rfl) ?_)
   refine ai (ai (aaI _) (iN (n:=c.trs.length) (by omega))) (ai rfl ?_)
   refine ai (ai (aaI _) (by show (a:Int)<(L.length:Int);omega)) ?_
   refine ai (by show a<L.length;exact hak) ?_
   have hcan:fU (L.getD a av).1.length (om c k).fr:=by rw[hga.1];exact q1.2
   refine ei _ (ai (afZ) (ei ((om c k,(L.getD a av).1)) (ei [] (ai (a4 (ai (fun _=>Or.inl rfl) (ai nof (Or.inl rfl)))) (ai (by exact (ai (ai (ai rfl (fun _ _=>rfl)) (ai (ai rfl (fun _ _=>rfl)) (ai (iE (by simp only[zz,reduceCtorEq];rfl)) (ai (iE (by simp only[zz,reduceCtorEq];rfl)) (ai rfl (fun _ _=>rfl)))))) (ai rfl (fun _ _=>rfl)))) (ai trivial (ai (⟨hcan,hto.1⟩) ?_)))))))
   have hnew:(aC c L a k).1=xU c (L.getD a av).1 [(k:Int)]:=(akg c (L.getD a av).1 k).symm
   have hup:∀y∈L,y.1.length≤1000000:=fun y hy=>by
    have:=(hgk y hy).1;omega
   refine aZ (b:=!allM (L.getD a av).1 (om c k).fr) rfl (fun h3=>?_) (fun h3=>?_)
   ·have h3:allM (L.getD a av).1 (om c k).fr=false:=by simpa using h3
    have e:bW c l a (k+1)=L:=by rw[hst];unfold gZ adds;rw[h3];simp
    refine ei (k+1) (ai (ai rfl rfl) (ai (ai (ai rfl (ai (ai rfl rfl) (ai (ai rfl rfl) (ai (ai (ai (ai (fun _=>rfl) (aO (by omega))) rfl) (ai rfl (ai rfl (ai ?_ ?_)))) trivial)))) rfl) (ai (ai (iL (by omega)) ?_) (iM (by omega)))))
    ·rw[e]
    ·rw[e];exact fun k _=>bJ.rfl' _
    ·rw[e];exact hkl
   have h3:allM (L.getD a av).1 (om c k).fr=true:=by simpa using h3
   refine ei (.seq [0,1,2,3,4,5,6,7,8,9]) (ai (by kernel_rfl) ?_)
   refine ai (ai (aaI _) (by show (a:Int)<(L.length:Int);omega)) ?_
   refine ai (by show a<L.length;exact hak) ?_
   refine ei _ (ai (amG) (ei ((c,(L.getD a av).1,[(k:Int)])) (ei [] (ai (ai rfl (ai rfl (ai rfl (ai rfl (ai (fun _=>Or.inl rfl) (ai (fun _=>ai rfl rfl) (Or.inl rfl))))))) (ai ?_ (ai (by exact trivial) (ai (⟨hc,ho,hga.1,alY h2,ahD rfl⟩) ?_)))))))
   ·refine (ai (ai rfl (ai (ai rfl (fun _ _=>rfl)) (ai (ai rfl (fun _ _=>rfl)) (ai rfl (fun _ _=>rfl))))) (ai (ai rfl (fun _ _=>rfl)) (ai rfl ?_)))
    (intro k hk;have hk:k<1:=hk;match k,hk with | 0,_=>rfl)
   refine ei _ (ai (alQ) (ei ((L,xU c (L.getD a av).1 [(k:Int)])) (ei [] (ai (ai rfl (ai rfl (ai rfl (ai rfl (ai (fun _=>Or.inl rfl) (ai (fun _=>ai rfl rfl) (Or.inl rfl))))))) (ai (by exact (ai (ai rfl (fun _ _=>rfl)) (ai rfl (fun _ _=>rfl)))) (ai trivial (ai (⟨by show L.length≤1000000;omega,hup⟩) ?_)))))))
   refine aZ (b:=!lD L (xU c (L.getD a av).1 [(k:Int)])) rfl (fun h4=>?_) (fun h4=>?_)
   ·have hn:adds c L a k=true:=by unfold adds;rw[h3,hnew,h4];rfl
    have e:bW c l a (k+1)=L++[aC c L a k]:=by rw[hst];unfold gZ;rw[if_pos hn]
    refine ai (ai (aaI _) (by show (a:Int)<(L.length:Int);omega)) ?_
    refine ai (by show a<L.length;exact hak) ?_
    have hw:=hways _ (aaS (bH av hak))
    refine ai (mxL (n:=0+(L.getD a av).2.length) (by omega) (by decide)) (ai (fun _ _=>rfl) ?_)
    refine ai (mxL (n:=0+(L.getD a av).2.length+1) (by omega) (by decide)) (ai (aH 1 rfl) ?_)
    refine ai (mxL (n:=L.length+1) (by omega) (by decide)) (ai (lt1 rfl) ?_)
    refine ah (p:=16384<L.length+1) (au (by omega)) (fun h5=>?_) (fun h5=>?_)
    ·refine ai (ai (fun h=>absurd (show false=true from h) (by decide)) ?_) trivial
     show ak _ (abg c)
     rw[abg,hrun (by rw[e,aaA];exact h5)]
     exact (ai rfl rfl)
    refine ei (k+1) (ai (ai rfl rfl) (ai (ai (ai rfl (ai (ai rfl rfl) (ai (ai rfl rfl) (ai (ai (ai (ai (fun _=>rfl) (aO (by omega))) rfl) (ai rfl (ai rfl (ai ?_ ?_)))) trivial)))) rfl) (ai (ai (iL (by omega)) ?_) (iM (by omega)))))
    ·rw[e,aaA];rfl
    ·rw[e]
     refine aoe L (aC c L a k) (by rw[hnew];exact .refl _) (aiQ ?_ ?_)
     ·show 0+(L.getD a av).2.length+1=((L.getD a av).2++[(k:Int)]).length
      rw[aaA];simp
     ·intro j hj
      have hj:j<0+(L.getD a av).2.length+1:=hj
      refine adn (a:=(L.getD a av).2) (b:=[(k:Int)]) (afG _) (fun j hj=>acz (n:=(L.getD a av).2.length) j (by omega)) (fun j hj=>?_) j (by rw[aaA];show j<(L.getD a av).2.length+1;omega)
      have hj:j<1:=hj
      obtain rfl:j=0:=by omega
      rfl
    ·rw[e,aaA];show L.length+1≤16384;omega
   ·have h4:lD L (xU c (L.getD a av).1 [(k:Int)])=true:=by simpa using h4
    refine ah (p:=16384<L.length) (au (by omega)) (fun h5=>?_) (fun h5=>?_)
    ·exact absurd h5 (by omega)
    have e:bW c l a (k+1)=L:=by rw[hst];unfold gZ adds;rw[hnew,h4];simp
    refine ei (k+1) (ai (ai rfl rfl) (ai (ai (ai rfl (ai (ai rfl rfl) (ai (ai rfl rfl) (ai (ai (ai (ai (fun _=>rfl) (aO (by omega))) rfl) (ai rfl (ai rfl (ai ?_ ?_)))) trivial)))) rfl) (ai (ai (iL (by omega)) ?_) (iM (by omega)))))
    ·rw[e]
    ·rw[e];exact fun k _=>bJ.rfl' _
    ·rw[e];exact hkl
  ·obtain rfl:k=c.trs.length:=by omega
   refine ei ((a+1,bW c l a c.trs.length)) (ai (ai rfl rfl) (ai (ai ?_ rfl) (ai ?_ ?_)))
   ·refine (ai rfl (ai (ai rfl rfl) (ai (ai rfl rfl) (ai (ai (ai (ai (fun _=>rfl) (aO (by omega))) rfl) (ai rfl (ai rfl (ai rfl ?_)))) trivial))))
    exact fun k _=>bJ.rfl' _
   ·exact ⟨by show a+1≤(bW c l a c.trs.length).length;rw[ht,aaA];omega,hkl,⟨hgk,hways⟩,(afV h1 hkl).symm.trans (by rw[←hr,show 16385-a=16385-(a+1)+1 by omega])⟩
   ·show 16385-(a+1)<16385-a;omega
 ·have e:l8 c=some l:=by rw[←hr];exact agX (by omega)
  refine ai (ai (fun h=>absurd (show false=true from h) (by decide)) ?_) trivial
  show ak _ (abg c)
  rw[abg,e]
  exact (ai (ai rfl (fun _ _=>rfl)) rfl)
def toC (x:Ex):C3:=(iP x.op,iP x.idx,if x.op=1 then .val (.slice none 0 0) else .seq x.args.length (fun k=>tq (x.args.getD k dQ).idx))
theorem aoR (n:Int):yV n=toC (uN n):=rfl
theorem aiz (l:List Sk):kW l=toC (agw l):=by
 match l with
 | [y]=>rfl
 | []=>
  show (iP 3,iP 0,PV.seq 0 (wE []))=(iP 3,iP 0,PV.seq 0 (fun k=>tq (([]:List Ex).getD k dQ).idx))
  exact congrArg (fun f:Nat→List PV=>((iP 3,iP 0,PV.seq 0 f):C3)) (funext fun k=>by cases k<;>rfl)
 | a :: b :: l=>
  show (iP 3,iP 0,PV.seq (a :: b :: l).length (wE (a :: b :: l)))=(iP 3,iP 0,PV.seq ((a :: b :: l).map fun y=>uN (mK y)).length (fun k=>tq (((a :: b :: l).map fun y=>uN (mK y)).getD k dQ).idx))
  rw[anq]
  refine congrArg (fun f:Nat→List PV=>((iP 3,iP 0,PV.seq (a :: b :: l).length f):C3)) (funext fun k=>?_)
  show tq (mK ((a :: b :: l).getD k bI))=_
  rw[aaE,aaE,ait]
  cases (a :: b :: l)[k]?<;>rfl
def okX (x:Ex):Prop:=(x.op=1∧x.args=[])∨(x.op=3∧∀y∈x.args,y.op=1∧y.args=[])
theorem ahC (n:Int):okX (uN n):=.inl ⟨rfl,rfl⟩
theorem aib (l:List Sk):okX (agw l):=by
 match l with
 | [y]=>exact .inl ⟨rfl,rfl⟩
 | []=>exact .inr ⟨rfl,fun y hy=>by simp[agw] at hy⟩
 | a :: b :: l=>
  refine .inr ⟨rfl,fun y hy=>?_⟩
  obtain ⟨z,_,rfl⟩:=arK.1 hy
  exact ⟨rfl,rfl⟩
abbrev SX := Stp × Ex
def sx0:SX:=(st0,uN 0)
def agK (act:Int) (p:List SX) (x:Stp):List SX:=
 if 0<x.wt then (p++[(⟨x.st,0⟩,agw x.st)])++[(⟨[],x.wt⟩,uN (2*act+1+((p.length+1:Nat):Int)))] else p++[(⟨x.st,0⟩,agw x.st)]
def am6 (s:mH):List SX:=s.sts.foldl (agK s.act) [(⟨[],0⟩,uN (2*s.act))]
def adB (q:SX):SC:=(q.1,toC q.2)
theorem amI (s:mH):dF s s.sts.length=(am6 s).map adB:=by
 have key:∀(l:List Stp) (p:List SX),l.foldl (sQ s.act) (p.map adB)=(l.foldl (agK s.act) p).map adB:=by
  intro l
  induction l with
  | nil=>intro p;rfl
  | cons x l ih=>
   intro p
   rw[asj,asj,←ih]
   congr 1
   unfold sQ agK
   rw[anq]
   split
   ·rw[aq3,aq3,aiz,aoR];rfl
   ·rw[aq3,aiz];rfl
 have:=key s.sts [(⟨[],0⟩,uN (2*s.act))]
 unfold dF
 rw[afj]
 exact this
theorem aof (s:mH):∀q∈am6 s,okX q.2:=by
 have key:∀(l:List Stp) (p:List SX),(∀q∈p,okX q.2)→∀q∈l.foldl (agK s.act) p,okX q.2:=by
  intro l
  induction l with
  | nil=>intro p h;exact h
  | cons x l ih=>
   intro p h
   rw[asj]
   refine ih _ fun q hq=>?_
   unfold agK at hq
   split at hq
   ·rcases afA.1 hq with hq | hq
    ·rcases afA.1 hq with hq | hq
     ·exact h q hq
     ·simp only[afq] at hq;subst hq;exact aib _
    ·simp only[afq] at hq;subst hq;exact ahC _
   ·rcases afA.1 hq with hq | hq
    ·exact h q hq
    ·simp only[afq] at hq;subst hq;exact aib _
 exact key s.sts _ fun q hq=>by simp only[afq] at hq;subst hq;exact ahC _
def akE:List UInt8:=[115,116,97,114,116]
def agA (p:List SX) (k:Nat):iU:=⟨[(k:Int)],[toN k p.length],(p.getD k sx0).2⟩
def chX (act:Int) (p:List SX):aS:=⟨act,[akE],p.map (·.1),(List.range p.length).map (agA p)⟩
def ofC (s:mH):aS:=if vF s=0 then chX s.act (am6 s) else ⟨0,[],[],[]⟩
theorem bG {a b:PV} {l m:List PV} (h:gD a b) (hl:bJ l m):bJ (a :: l) (b :: m):=by
 refine ⟨by simp[hl.1],fun k s s' hs hs'=>?_⟩
 match k with
 | 0=>cases hs;cases hs';exact h
 | k+1=>exact hl.2 k s s' (by simpa using hs) (by simpa using hs')
theorem mY:bJ [] []:=⟨rfl,fun k s s' hs _=>by simp at hs⟩
theorem gG {n:Nat} {f g:Nat→List PV} (h:∀k,k<n→bJ (f k) (g k)):gD (.seq n f) (.seq n g):=
 .seq n f g (fun j hj=>(h j hj).1) fun j k s s' hj hs hs'=>(h j hj).2 k s s' hs hs'
theorem vH {l m:List PV} (h:bJ l m):gD (.agg l) (.agg m):=.agg l m h.1 h.2
theorem aii {l m:List PV} (h:bJ l m):gD (.tup l) (.tup m):=.tup l m h.1 h.2
theorem aj2 (x:Int):gD (.seq 1 (bg 1 [iP x])) (lg [x]):=aiQ rfl fun j hj=>by
 obtain rfl:j=0:=by omega
 rfl
theorem apQ {x:Ex} (h:okX x):bJ (xD (toC x)) (xC x):=by
 refine bG (.refl _) (bG (.refl _) (bG ?_ mY))
 show gD (if x.op=1 then .val (.slice none 0 0) else .seq x.args.length (fun k=>tq (x.args.getD k dQ).idx)) (.seq x.args.length (exF x.args))
 rcases h with ⟨h1,h2⟩ | ⟨h1,h2⟩
 ·rw[if_pos h1,h2];exact .nil _
 ·rw[if_neg (by rw[h1];decide)]
  refine gG fun k hk=>?_
  have hy:=h2 _ (aaS (bH dQ hk))
  show bJ (tq (x.args.getD k dQ).idx) (exF x.args k)
  unfold exF tq
  rw[hy.1,hy.2]
  exact bG (.refl _) (bG (.refl _) (bG (.nil _) mY))
theorem aqm:gD aa5 (ssP [akE]):=gG fun k hk=>by
 obtain rfl:k=0:=by omega
 exact bJ.rfl' _
theorem ap2 (x:Stp):bJ (tN x) (stK x):=by
 refine bG ?_ (bG (.refl _) mY)
 split
 ·rename_i h;rw[h];exact .nil _
 ·exact .refl _
theorem afY (p:List SX) {k:Nat} (hk:k<p.length):(p.map adB).getD k oZ=adB (p.getD k sx0):=by
 rw[aaE,aaE,ait,aaC hk];rfl
theorem alL (act:Int) {p:List SX} (h:∀q∈p,okX q.2):gD (aeY act (p.map adB)) (uE (chX act p)):=by
 unfold aeY uE chK chX
 rw[anq]
 refine vH (bG (.refl _) (bG aqm (bG ?_ (bG ?_ mY))))
 ·show gD _ (.seq (p.map (·.1)).length (fun k=>stK ((p.map (·.1)).getD k st0)))
  rw[anq]
  refine gG fun k hk=>?_
  rw[afY p hk]
  have:(p.map (·.1)).getD k st0=(p.getD k sx0).1:=by
   rw[aaE,aaE,ait,aaC hk];rfl
  rw[this]
  exact ap2 _
 ·show gD _ (.seq ((List.range p.length).map (agA p)).length (fun k=>trK (((List.range p.length).map (agA p)).getD k aM)))
  rw[anq,List.length_range]
  refine gG fun k hk=>?_
  have e1:((List.range p.length).map (agA p)).getD k aM=agA p k:=by
   rw[aaE,ait,ash hk];rfl
  rw[e1]
  unfold aap
  rw[afY p hk,anq]
  have h3:=apQ (h _ (aaS (bH sx0 hk)))
  exact bG (aj2 _) (bG (aj2 _) h3)
theorem alI (s:mH):gD (ofRaw s) (.tup [uE (ofC s),iP (vF s)]):=by
 unfold ofRaw ofC
 by_cases h:vF s=0
 ·rw[if_pos h,if_pos h,h,amI]
  exact aii (bG (alL _ (aof s)) (bG (.refl _) mY))
 ·rw[if_neg h,if_neg h]
  refine aii (bG ?_ (bG (.refl _) mY))
  exact vH (bG (.refl _) (bG (.nil _) (bG (.nil _) (bG (.nil _) mY))))
def ofP (s:mH):PV:=.tup [uE (ofC s),iP (vF s)]
theorem aeN:aL Tryz.prog 18 (iR (fun s:mH=>[sqA s]) (fun _=>True) ofP):=adq ahk fun s _=>alI s
theorem aaq (m:List Bool):fZ (cK m)=fZ m:=funext fun k=>by unfold fZ;rw[tQ]
theorem aol (m:List Bool) {k:Nat} (hk:k<m.length) (b:Bool):(cK m).set k b=cK (m.set k b):=by
 unfold cK
 rw[List.set_append_left _ _ hk,ar5]
theorem abB (b:Bool):∀{l:List Int} {m:List Bool},fU m.length l→bM (cK m) l b=cK (bM m l b)
 | [],_,_=>rfl
 | k :: l,m,h=>by
  show bM ((cK m).set k.toNat b) l b=cK (bM (m.set k.toNat b) l b)
  have hk:=h k (anu ..)
  rw[aol m (by omega) b]
  exact abB b fun x hx=>by rw[ar5];exact h x (anw _ hx)
theorem aj3 {m:List Bool} {t:iU} (h1:fU m.length t.fr) (h2:fU m.length t.to):l7 (cK m) t=cK (l7 m t):=by
 unfold l7
 rw[abB false h1,abB true (by rw[dR];exact h2)]
def yQ (c:aS) (m:List Bool) (i:Nat):PV:=.tup [tZ (bf c m i).1,bP (bf c m i).2]
theorem zx:aL Tryz.prog 61 (iR (fun a:aS×List Bool×Nat=>[jH a.1,uG a.2.1,iA a.2.2]) (fun a=>bD a.1=0∧je a.1∧a.2.1.length=a.1.sts.length∧a.2.2<a.1.trs.length) (fun a=>yQ a.1 a.2.1 a.2.2)):=by
 refine ⟨aj8.1,fun ⟨c,m,i⟩ hp E vs w hg hh hA=>?_⟩
 obtain ⟨hc,ho,hm,hi⟩:=hp
 have hc:bD c=0:=hc
 have hm:m.length=c.sts.length:=hm
 have hi:i<c.trs.length:=hi
 obtain ⟨g1,g2,g3⟩:=kS hc hi
 have h24:=(jg hc).2.2.1.2
 have e1:uG (cK m)=uG m:=by unfold uG tZ;rw[aaq]
 have e2:tZ (bf c (cK m) i).1=tZ (bf c m i).1∧(bf c (cK m) i).2=(bf c m i).2:=by
  unfold bf
  rw[alv]
  split
  ·refine ⟨?_,rfl⟩
   rw[aj3 (by rw[hm];exact g1.2) (by rw[hm];exact g2.2)]
   unfold tZ;rw[aaq]
  ·exact ⟨by unfold tZ;rw[aaq],rfl⟩
 have key:=aj8.2 (c,cK m,i) ⟨hc,ho,nX (by omega),hi⟩ E vs w hg hh (by
  show jN E vs [jH c,uG (cK m),iA i]
  rw[e1];exact hA)
 refine key.mono fun e w' ⟨v,E',h1,h2,h3⟩=>⟨v,E',h1,?_,h3⟩
 have:PV.tup [tZ (bf c (cK m) i).1,bP (bf c (cK m) i).2]=yQ c m i:=by unfold yQ;rw[e2.1,e2.2]
 show aN _ v (yQ c m i)
 rw[←this];exact h2
def dD (m:List Bool):List PV:=dX 24 (fZ m)
def apZ (l:List Mk):LV:=.rw 117 24 l.length (fun k=>dD (l.getD k av).1)
def anE (l:List Mk):LV:=.rws 29 1 l.length (fun k=>[lg (l.getD k av).2])
def xE (l:List Mk):MK→Option PV
 | .bools b=>if l.any (fun y=>decide (cK y.1=b)) then some (bP true) else none
 | _=>none
def knO (l:List Mk):Ob:=.map (.bools 24) l.length (xE l)
theorem alG {a b:List Bool} (hl:a.length=b.length) (h:cK a=cK b):a=b:=by
 unfold cK at h
 rw[hl] at h
 exact (List.append_inj' h rfl).1
theorem adC {l:List Mk} {m:List Bool} (hl:∀y∈l,y.1.length=m.length):xE l (.bools (cK m))=if lD l m then some (bP true) else none:=by
 unfold xE lD
 have:(l.any fun y=>decide (cK y.1=cK m))=l.any fun y=>decide (y.1=m):=by
  refine aqZ.2 ?_
  simp only[ar9,decide_eq_true_eq]
  exact ⟨fun ⟨y,hy,h⟩=>⟨y,hy,alG (hl y hy) h⟩,fun ⟨y,hy,h⟩=>⟨y,hy,by rw[h]⟩⟩
 show (if (l.any fun y=>decide (cK y.1=cK m))=true then some (bP true) else none)=_
 rw[this]
theorem aU (l:List Mk) (x:Mk) (k:MK):qG (xE l) (.bools (cK x.1)) (bP true) k=xE (l++[x]) k:=by
 classical
 unfold qG
 split
 ·rename_i h;subst h
  show some (bP true)=if ((l++[x]).any fun y=>decide (cK y.1=cK x.1))=true then some (bP true) else none
  rw[if_pos (by simp)]
 ·rename_i h
  cases k with
  | bools b=>
   unfold xE
   have:decide (cK x.1=b)=false:=decide_eq_false fun e=>h (by rw[e])
   simp only[List.any_append,asM,List.any_nil,this,asL]
  | int a=>rfl
  | str a=>rfl
def al6 (l:List Mk):PV:=.seq l.length (fun k=>dD (l.getD k av).1)
def amf (l:List Mk):PV:=.seq l.length (fun k=>[lg (l.getD k av).2])
def wB (c:aS):PV:=match l8 c with
 | some l=>.tup [al6 l,amf l,iP 0]
 | none=>.tup [al6 [],amf [],iP 12]
theorem ahV {n:Nat} (h:0<n) (k:Nat):(mD n).getD k false=(k==0):=by
 unfold mD
 rw[aaE,asc]
 by_cases e:k=0
 ·subst e;rw[if_pos rfl,if_pos (by rw[aq2];exact h)];rfl
 ·rw[if_neg (fun h=>e h.symm),arZ,show (k==0)=false by simpa using e]
  split<;>rfl
theorem aiD {n:Nat} (h:0<n):fZ (mD n)=fZ (mD 1):=funext fun k=>by unfold fZ;rw[ahV h,ahV (by decide)]
theorem agU (m:List Bool):takeN 24 (dH 0 (dD m))=some (dX 24 (fZ m)):=wT 24 (fZ m)
theorem aV (a:List Mk) (x:Mk) {g:Nat→List PV} (hg:g 0=dD x.1):∀k,k<a.length+1→bN a.length (fun k=>dD (a.getD k av).1) g k=dD ((a++[x]).getD k av).1:=by
 intro k hk
 unfold bN
 by_cases h:k<a.length
 ·rw[if_pos h]
  show dD (a.getD k av).1=_
  rw[aaE,aaE,aee h]
 ·obtain rfl:k=a.length:=by omega
  rw[if_neg h,aqX,hg,aaE,aeD (aff _),aqX];rfl
theorem abj {u u':PV} (h:gD u u'):bJ [u] [u']:=by
 refine ⟨rfl,fun k s s' hs hs'=>?_⟩
 match k with
 | 0=>cases hs;cases hs';exact h
 | k+1=>simp at hs
theorem aW (a:List Mk) (x:Mk) {v:PV} (hv:gD v (lg x.2)):∀k,k<a.length+1→bJ (bN a.length (fun k=>[lg (a.getD k av).2]) (bg 1 [v]) k) [lg ((a++[x]).getD k av).2]:=by
 intro k hk
 unfold bN
 by_cases h:k<a.length
 ·rw[if_pos h]
  refine bJ.of ?_
  show [lg (a.getD k av).2]=_
  rw[aaE,aaE,aee h]
 ·obtain rfl:k=a.length:=by omega
  rw[if_neg h,aqX,aaE,aeD (aff _),aqX]
  exact abj hv
theorem dB {l:List Int} (h:l.length=0) (k:Nat):gD (.seq 1 (bg 1 [iP (k:Int)])) (lg (l++[(k:Int)])):=by
 obtain rfl:=aoZ.1 h
 exact aiQ rfl fun j hj=>by
  obtain rfl:j=0:=by omega
  rfl
theorem bV (l:List Int) (k:Nat):gD (.seq (0+l.length+1) (bN (0+l.length) (bN 0 (bg 1 []) (fun j=>[iP (l.getD j 0)])) (bg 1 [iP (k:Int)]))) (lg (l++[(k:Int)])):=by
 refine aiQ (by rw[aaA];simp) fun j hj=>adn (a:=l) (b:=[(k:Int)]) (afG _) (fun j hj=>acz (n:=l.length) j (by omega)) (fun j hj=>?_) j (by rw[aaA];show j<l.length+1;omega)
 have hj:j<1:=hj
 obtain rfl:j=0:=by omega
 rfl
theorem an6:xE []=fun _=>none:=funext fun k=>by cases k<;>rfl
theorem agy {l:List Mk} {x:Mk} (hl:∀y∈l,y.1.length=x.1.length) (h:lD l x.1=false):xE l (.bools (cK x.1))=none:=by
 rw[adC hl,if_neg (by rw[h];decide)]
end Go.Sx.Pe
