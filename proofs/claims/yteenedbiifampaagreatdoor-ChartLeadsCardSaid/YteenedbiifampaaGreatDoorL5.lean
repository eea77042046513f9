/- ChartLeads, part 5 of its proof: declarations that the last part uses. -/
import Derived.Test.YteenedbiifampaaGreatDoorL4
set_option maxHeartbeats 1000000
set_option maxRecDepth 4000
set_option linter.unusedSimpArgs false
set_option linter.unusedVariables false
set_option linter.unusedSectionVars false
namespace Go.Sx.Pe
open Go Go.Proofs Go.Sx.Pn
theorem ak3:aK Tryz.prog 26 aqI:=by
 refine aX (Tb:=tab) mixed aB Tryz.func26 rfl rfl ?_
 rintro (c:aQ) hpre
 refine ai (ai rfl (ai rfl rfl)) ?_
 obtain ⟨hst,htr⟩:=hpre
 refine ah (p:=c.act<1) (au (by omega)) (fun h1=>?_) (fun h1=>?_)
 ·refine ai (ai (fun _=>trivial) ?_) trivial
  show ak _ (iP (bE c))
  rw[bE,if_pos (.inl h1)]
  exact rfl
 refine ah (p:=6<c.act) (au (by omega)) (fun h2=>?_) (fun h2=>?_)
 ·refine ai (ai (fun _=>trivial) ?_) trivial
  show ak _ (iP (bE c))
  rw[bE,if_pos (.inr h2)]
  exact rfl
 have e0:¬(c.act<1∨6<c.act):=fun h=>h.elim h1 h2
 refine ei _ (ai (aki) (ei (c.ins) (ei [] (ai (a4 (ai (fun _=>Or.inl rfl) (ai nof (Or.inl rfl)))) (ai (by exact (ai rfl (fun _ _=>rfl))) (ai trivial (ai (trivial) ?_)))))))
 refine bD (p:=dK c.ins=0) (bU (by omega)) (fun h3=>?_) (fun h3=>?_)
 ·refine ai (ai (fun _=>trivial) ?_) trivial
  show ak _ (iP (bE c))
  rw[bE,if_neg e0,if_pos h3]
  exact rfl
 have h16:=rM h3
 have e1:¬¬dK c.ins=0:=fun h=>h h3
 refine ah (p:=c.sts.length=0) (gV (by omega)) (fun h4=>?_) (fun h4=>?_)
 ·refine ai (ai (fun _=>trivial) ?_) trivial
  show ak _ (iP (bE c))
  rw[bE,if_neg e0,if_neg e1,if_pos h4]
  exact rfl
 refine ah (p:=24<c.sts.length) (au (by omega)) (fun h5=>?_) (fun h5=>?_)
 ·refine ai (ai (fun _=>trivial) ?_) trivial
  show ak _ (iP (bE c))
  rw[bE,if_neg e0,if_neg e1,if_neg h4,if_pos (.inl h5)]
  exact rfl
 refine ah (p:=32<c.trs.length) (au (by omega)) (fun h6=>?_) (fun h6=>?_)
 ·refine ai (ai (fun _=>trivial) ?_) trivial
  show ak _ (iP (bE c))
  rw[bE,if_neg e0,if_neg e1,if_neg h4,if_pos (.inr h6)]
  exact rfl
 have e2:¬(24<c.sts.length∨32<c.trs.length):=fun h=>h.elim h5 h6
 refine ei (.seq [0,1,2,3,4,5]) (ai (by kernel_rfl) ?_)
 refine ei _ (ai (aiX) (ei ((c,c.sts)) (ei [] (ai (a4 (ai (fun _=>Or.inl rfl) (ai nof (Or.inl rfl)))) (ai (by exact (ai (ai rfl (fun _ _=>rfl)) (ai rfl rfl))) (ai trivial (ai (⟨by show c.sts.length≤1000000;omega,hst⟩) ?_)))))))
 refine bD (p:=dz (fun k=>eP c.act (c.sts.getD k st0)) c.sts.length=0) (bU (by dsimp only;omega)) (fun h7=>?_) (fun h7=>?_)
 ·refine ai (ai (fun _=>trivial) ?_) trivial
  show ak _ (iP (bE c))
  rw[bE,if_neg e0,if_neg e1,if_neg h4,if_neg e2,if_pos h7]
  exact rfl
 have hsm:yY c:=⟨by omega,by omega,by omega,by omega⟩
 refine ei _ (ai (aiZ) (ei ((c,c.trs)) (ei [] (ai (a4 (ai (fun _=>Or.inl rfl) (ai nof (Or.inl rfl)))) (ai (by exact (ai (ai rfl (fun _ _=>rfl)) (ai rfl rfl))) (ai trivial (ai (⟨by show c.trs.length≤1000000;omega,hsm,htr⟩) ?_)))))))
 refine ai (ai (fun _=>trivial) ?_) trivial
 show ak _ (iP (bE c))
 rw[bE,if_neg e0,if_neg e1,if_neg h4,if_neg e2,if_neg (fun h=>h h7)]
 exact rfl
theorem adk:aK Tryz.prog 27 aqI:=by
 refine aX (Tb:=tab) mixed aB Tryz.func27 rfl rfl ?_
 rintro (c:aQ) hpre
 refine ai (ai rfl (ai rfl rfl)) ?_
 obtain ⟨hst,htr⟩:=hpre
 refine ah (p:=c.act<1) (au (by omega)) (fun h1=>?_) (fun h1=>?_)
 ·refine ai (ai (fun _=>trivial) ?_) trivial
  show ak _ (iP (bE c))
  rw[bE,if_pos (.inl h1)]
  exact rfl
 refine ah (p:=6<c.act) (au (by omega)) (fun h2=>?_) (fun h2=>?_)
 ·refine ai (ai (fun _=>trivial) ?_) trivial
  show ak _ (iP (bE c))
  rw[bE,if_pos (.inr h2)]
  exact rfl
 have e0:¬(c.act<1∨6<c.act):=fun h=>h.elim h1 h2
 refine ei _ (ai (aj0) (ei (c.ins) (ei [] (ai (a4 (ai (fun _=>Or.inl rfl) (ai nof (Or.inl rfl)))) (ai (by exact (ai rfl (fun _ _=>rfl))) (ai trivial (ai (trivial) ?_)))))))
 refine bD (p:=dK c.ins=0) (bU (by omega)) (fun h3=>?_) (fun h3=>?_)
 ·refine ai (ai (fun _=>trivial) ?_) trivial
  show ak _ (iP (bE c))
  rw[bE,if_neg e0,if_pos h3]
  exact rfl
 have h16:=rM h3
 have e1:¬¬dK c.ins=0:=fun h=>h h3
 refine ah (p:=c.sts.length=0) (gV (by omega)) (fun h4=>?_) (fun h4=>?_)
 ·refine ai (ai (fun _=>trivial) ?_) trivial
  show ak _ (iP (bE c))
  rw[bE,if_neg e0,if_neg e1,if_pos h4]
  exact rfl
 refine ah (p:=24<c.sts.length) (au (by omega)) (fun h5=>?_) (fun h5=>?_)
 ·refine ai (ai (fun _=>trivial) ?_) trivial
  show ak _ (iP (bE c))
  rw[bE,if_neg e0,if_neg e1,if_neg h4,if_pos (.inl h5)]
  exact rfl
 refine ah (p:=32<c.trs.length) (au (by omega)) (fun h6=>?_) (fun h6=>?_)
 ·refine ai (ai (fun _=>trivial) ?_) trivial
  show ak _ (iP (bE c))
  rw[bE,if_neg e0,if_neg e1,if_neg h4,if_pos (.inr h6)]
  exact rfl
 have e2:¬(24<c.sts.length∨32<c.trs.length):=fun h=>h.elim h5 h6
 have hA:bE c=if ¬dz (fun k=>eP c.act (c.sts.getD k st0)) c.sts.length=0 then dz (fun k=>eP c.act (c.sts.getD k st0)) c.sts.length else dz (fun k=>iD c (c.trs.getD k aH)) c.trs.length:=by
  unfold bE;rw[if_neg e0,if_neg e1,if_neg h4,if_neg e2]
 refine ei (bF.inv { X:=Nat,up:=fun k=>[(4,.s (iA k))],uo:=fun k=>[],inv:=fun k=>k≤c.sts.length∧(∀j,j<k→eP c.act (c.sts.getD j st0)=0),meas:=fun k=>c.sts.length-k,x0:=0 }) ?_
 refine ai (ai (ai (by exact (a4 (ai rfl rfl))) (ai (by exact (ai (ai (fun _=>rfl) (iE (by simp only[zz,reduceCtorEq];rfl))) rfl)) (by exact trivial))) rfl) (ai (ai (aeu _) ?_) ?_)
 ·exact fun j hj=>absurd hj (aj9 _)
 intro (k:Nat) ⟨hk,hall⟩
 refine ah (p:=k<c.sts.length) (au (by omega)) (fun g1=>?_) (fun g1=>?_)
 ·refine ei (.seq [0,1,2,3,4,5,6,7]) (ai (by kernel_rfl) ?_)
  refine ai (ai (aa1 _) (iN (n:=c.sts.length) (by omega))) (ai rfl ?_)
  refine ei _ (ai (am4) (ei ((c,c.sts.getD k st0)) (ei [] (ai (a4 (ai (fun _=>Or.inl rfl) (ai nof (Or.inl rfl)))) (ai (by exact (ai (ai rfl (ai (ai rfl (fun _ _=>rfl)) (ai (ai rfl (fun _ _=>rfl)) (ai rfl (fun _ _=>rfl))))) (ai (ai rfl (fun _ _=>rfl)) (iE (by simp only[zz,reduceCtorEq]))))) (ai trivial (ai (hst _ (acI (bI st0 g1))) ?_)))))))
  refine bD (p:=eP c.act (c.sts.getD k st0)=0) (bU (by dsimp only;omega)) (fun g2=>?_) (fun g2=>?_)
  ·have e:=cK (f:=fun k=>eP c.act (c.sts.getD k st0)) g1 hall g2
   refine ai (ai (fun _=>trivial) ?_) trivial
   show ak _ (iP (bE c))
   rw[hA,if_pos (show ¬dz (fun k=>eP c.act (c.sts.getD k st0)) c.sts.length=0 by rw[e];exact g2),e]
   exact rfl
  refine ei (k+1) (ai (ai rfl rfl) (ai (ai (ai rfl (ai (ai rfl rfl) (ai (ai rfl rfl) (ai (ai (ai (fun _=>rfl) (aO (by omega))) rfl) trivial)))) rfl) (ai (ai (iL (by omega)) ?_) (iM (by omega)))))
  intro j hj
  by_cases hjk:j=k
  ·subst hjk;exact g2
  ·exact hall j (by omega)
 ·obtain rfl:k=c.sts.length:=by omega
  rw[if_neg (fun h=>h (fT hall))] at hA
  refine ei (bF.inv { X:=Nat,up:=fun j=>[(6,.s (iA j))],uo:=fun j=>[],inv:=fun j=>j≤c.trs.length∧(∀i,i<j→iD c (c.trs.getD i aH)=0),meas:=fun j=>c.trs.length-j,x0:=0 }) ?_
  refine ai (ai (ai (by exact (a4 (ai rfl rfl))) (ai (by exact (ai (ai (fun _=>rfl) (iE (by simp only[zz,reduceCtorEq];rfl))) rfl)) (by exact trivial))) rfl) (ai (ai (aeu _) ?_) ?_)
  ·exact fun i hi=>absurd hi (aj9 _)
  intro (j:Nat) ⟨hj,hallt⟩
  refine ah (p:=j<c.trs.length) (au (by omega)) (fun g3=>?_) (fun g3=>?_)
  ·refine ai (ai (aa1 _) (iN (n:=c.trs.length) (by omega))) (ai rfl ?_)
   have hto:=htr _ (acI (bI aH g3))
   refine ei _ (ai (ahb) (ei ((c,(c.trs.getD j aH).fr)) (ei [] (ai (a4 (ai (fun _=>Or.inl rfl) (ai nof (Or.inl rfl)))) (ai (by exact (ai (ai rfl (ai (ai rfl (fun _ _=>rfl)) (ai (ai rfl (fun _ _=>rfl)) (ai rfl (fun _ _=>rfl))))) (ai rfl (fun _ _=>rfl)))) (ai trivial (ai (hto.1) ?_)))))))
   refine bD (p:=gq c.sts.length (c.trs.getD j aH).fr=0) (bU (by dsimp only;omega)) (fun g4=>?_) (fun g4=>?_)
   ·have e:iD c (c.trs.getD j aH)=gq c.sts.length (c.trs.getD j aH).fr:=by unfold iD;rw[if_pos g4]
    refine ai (ai (fun _=>trivial) ?_) trivial
    show ak _ (iP (bE c))
    rw[hA,cK (f:=fun k=>iD c (c.trs.getD k aH)) g3 hallt (by rw[e];exact g4),e]
    exact rfl
   refine ei _ (ai (ahb) (ei ((c,(c.trs.getD j aH).to)) (ei [] (ai (a4 (ai (fun _=>Or.inl rfl) (ai nof (Or.inl rfl)))) (ai (by exact (ai (ai rfl (ai (ai rfl (fun _ _=>rfl)) (ai (ai rfl (fun _ _=>rfl)) (ai rfl (fun _ _=>rfl))))) (ai rfl (fun _ _=>rfl)))) (ai trivial (ai (hto.2.1) ?_)))))))
   refine bD (p:=gq c.sts.length (c.trs.getD j aH).to=0) (bU (by dsimp only;omega)) (fun g5=>?_) (fun g5=>?_)
   ·have e:iD c (c.trs.getD j aH)=gq c.sts.length (c.trs.getD j aH).to:=by unfold iD;rw[if_neg (fun h=>h g4),if_pos g5]
    refine ai (ai (fun _=>trivial) ?_) trivial
    show ak _ (iP (bE c))
    rw[hA,cK (f:=fun k=>iD c (c.trs.getD k aH)) g3 hallt (by rw[e];exact g5),e]
    exact rfl
   refine ei (.seq [0,1,2,3,4,5]) (ai (by kernel_rfl) ?_)
   have hsm:yY c:=⟨by omega,by omega,by omega,by omega⟩
   refine ei _ (ai (anw) (ei (c) (ei [] (ai (a4 (ai (fun _=>Or.inl rfl) (ai nof (Or.inl rfl)))) (ai (by exact (ai rfl (ai (ai rfl (fun _ _=>rfl)) (ai (ai rfl (fun _ _=>rfl)) (ai rfl (fun _ _=>rfl)))))) (ai trivial (ai (hsm) ?_)))))))
   refine ei _ (ai (akL) (ei (((c.trs.getD j aH).wh,nX c)) (ei [] (ai (a4 (ai (fun _=>Or.inl rfl) (ai nof (Or.inl rfl)))) (ai (by exact (ai (ai (iE (by simp only[zz,reduceCtorEq])) (ai (iE (by simp only[zz,reduceCtorEq])) (ai rfl (fun _ _=>rfl)))) rfl)) (ai trivial (ai (trivial) ?_)))))))
   have e:iD c (c.trs.getD j aH)=dM (c.trs.getD j aH).wh (nX c):=by unfold iD;rw[if_neg (fun h=>h g4),if_neg (fun h=>h g5)]
   refine bD (p:=dM (c.trs.getD j aH).wh (nX c)=0) (bU (by dsimp only;omega)) (fun g6=>?_) (fun g6=>?_)
   ·refine ai (ai (fun _=>trivial) ?_) trivial
    show ak _ (iP (bE c))
    rw[hA,cK (f:=fun k=>iD c (c.trs.getD k aH)) g3 hallt (by rw[e];exact g6),e]
    exact rfl
   refine ei (j+1) (ai (ai rfl rfl) (ai (ai (ai rfl (ai (ai rfl rfl) (ai (ai rfl rfl) (ai (ai (ai (fun _=>rfl) (aO (by omega))) rfl) trivial)))) rfl) (ai (ai (iL (by omega)) ?_) (iM (by omega)))))
   intro i hi
   by_cases hij:i=j
   ·subst hij;rw[e];exact g6
   ·exact hallt i (by omega)
  ·obtain rfl:j=c.trs.length:=by omega
   refine ai (ai (fun _=>trivial) ?_) trivial
   show ak _ (iP (bE c))
   rw[hA,fT hallt]
   exact rfl
abbrev dec (n : Nat) : List UInt8 := Lib.decDigits n
def adM (n:Nat):List UInt8:=if n=0 then [] else dec n
theorem aky (n:Nat):adM n=if n=0 then [] else adM (n / 10)++[UInt8.ofNat (48+n % 10)]:=by
 unfold adM
 by_cases h:n=0
 ·rw[if_pos h,if_pos h]
 ·rw[if_neg h,if_neg h]
  unfold dec
  rw[Lib.decDigits]
  by_cases h2:n<10
  ·rw[dif_pos h2,if_pos (by omega),asC h2];rfl
  ·rw[dif_neg h2,if_neg (by omega)]
theorem aop (s:List UInt8) (l h:Nat):(strOf s).extract l h=strOf ((s.take h).drop l):=by
 apply ByteArray.ext
 simp only[strOf,ByteArray.data_extract]
 apply Array.ext'
 simp[List.drop_take]
theorem vX:aK Tryz.prog 79 (bR (fun n:Nat=>[iA n]) (fun n=>n<100) (fun n=>sP (dec n))):=
 agb (ad6 (α:=Nat) Tryz.func79 rfl rfl (vals:=fun n=>[.int .i64 n]) (pre:=fun n=>n<100) (ret:=fun n=>.string (strOf (dec n))) (fun _ _=>rfl)
  fun n hn w=>(Tryz.strconv_Itoa_small n hn w).mono fun e w' h=>by
   obtain ⟨h1,h2⟩:=h
   subst h2
   exact ⟨h1,RowKit.Below.refl _ _⟩) id
  (fun _ _=>rfl) (fun _ _=>rfl) (fun _ _=>rfl) (fun _ _=>rfl) (fun _ h=>h)
def ac4 (i:Nat) (d:UInt8):List UInt8:=[UInt8.ofNat (97+i),d]
def jl:Nat→List (List UInt8)
 | 0=>[]
 | n+1=>jl n++[ac4 n 48,ac4 n 49]
theorem aaj:∀n,(jl n).length=2*n
 | 0=>rfl
 | n+1=>by rw[jl,aaG,aaj n];simp;omega
def yN (k:Nat):List UInt8:=121 :: dec k
def nC:Nat→List (List UInt8)
 | 0=>[]
 | n+1=>nC n++[yN n]
theorem aaB:∀n,(nC n).length=n
 | 0=>rfl
 | n+1=>by rw[nC,aaG,aaB n];rfl
def dO (c:aQ):List (List UInt8):=jl c.act.toNat++c.ins++nC c.sts.length
theorem aax {a b:List (List UInt8)} {n:Nat} {f g:Nat→List PV} (hn:n=a.length) (hf:∀k,k<a.length→f k=[sP (a.getD k [])]) (hg:∀k,k<b.length→g k=[sP (b.getD k [])]):∀k,k<(a++b).length→bQ n f g k=[sP ((a++b).getD k [])]:=by
 intro k hk
 subst hn
 unfold bQ
 by_cases h:k<a.length
 ·rw[if_pos h,hf k h,aaI,aaI,afl h]
 ·have hb:k-a.length<b.length:=by rw[aaG] at hk;omega
  rw[if_neg h,hg _ hb,aaI,aaI,afN (by omega)]
def ssR (l:List (List UInt8)):LV:=.rw 9 1 l.length (fun k=>[sP (l.getD k [])])
def abc:List UInt8:=[97,98,99,100,101,102]
theorem aqJ {d:Nat} (h:d<6):(strOf abc).extract ((d:Int)).toNat (((d+1:Nat):Int)).toNat=strOf [UInt8.ofNat (97+d)]:=by
 rw[aqz,aqz,aop]
 have:∀d:Fin 6,(abc.take (d.1+1)).drop d.1=[UInt8.ofNat (97+d.1)]:=by decide
 exact congrArg strOf (this ⟨d,h⟩)
def agn (c:aQ):Prop:=1≤c.act∧c.act≤6∧c.ins.length≤1000∧c.sts.length≤99
def arJ:Spec:=jq (fun c:aQ=>[kP c]) agn (fun c=>ssP (dO c))
theorem aoz {x y:List UInt8} {a b:ByteArray} (ha:a=strOf x) (hb:b=strOf y):∀k,k<[x,y].length→bg 1 [.val (.string a),.val (.string b)] k=[sP ([x,y].getD k [])]:=by
 intro k hk
 have hk:k<2:=hk
 subst ha;subst hb
 match k,hk with
 | 0,_=>rfl
 | 1,_=>rfl
theorem aiW {x:List UInt8} {a:ByteArray} (ha:a=strOf x):∀k,k<[x].length→bg 1 [.val (.string a)] k=[sP ([x].getD k [])]:=by
 intro k hk
 have hk:k<1:=hk
 subst ha
 obtain rfl:k=0:=by omega
 rfl
theorem aI {l:List PV} (n:Nat) (h:l.length=n):∀k,k<n→(bg 1 l k).length=1:=by
 intro k hk
 subst h
 induction l generalizing k with
 | nil=>simp at hk
 | cons d l ih=>
  cases k with
  | zero=>rfl
  | succ k=>
   have h1:=ih k (by simpa using hk)
   show (bg 1 (d :: l) (k+1)).length=1
   have:bg 1 (d :: l) (k+1)=bg 1 l k:=by
    unfold bg
    rw[apS,apS];rfl
   rw[this];exact h1
theorem aeT {n:Nat} (h:n≤10000):n≤maxLen∧n*16≤140737488355328:=⟨by unfold maxLen;omega,by omega⟩
theorem aqS:aK Tryz.prog 76 arJ:=by
 refine aX (Tb:=tab) mixed aB Tryz.func76 rfl rfl ?_
 rintro (c:aQ) hpre
 refine ai (ai rfl (ai rfl rfl)) ?_
 obtain ⟨h1,h2,h3,h4⟩:=hpre
 have h1:1≤c.act:=h1
 have h2:c.act≤6:=h2
 have h3:c.ins.length≤1000:=h3
 have h4:c.sts.length≤99:=h4
 refine ei (bF.inv { X:=Nat,up:=fun i=>[(9,.s (iA i)),(3,ssR (jl i))],uo:=fun i=>[],inv:=fun i=>i≤c.act.toNat∧(True),meas:=fun i=>c.act.toNat-i,x0:=0 }) ?_
 refine ai (ai (ai (by exact (a4 (ai rfl rfl))) (ai (by exact (ai (ai (ai (fun _=>rfl) (iE (by simp only[zz,reduceCtorEq];rfl))) rfl) rfl)) (by exact trivial))) rfl) (ai (ai (aeu _) ?_) ?_)
 ·trivial
 intro (i:Nat) ⟨hi,_⟩
 have hln:=aaj i
 refine ah (p:=i<c.act.toNat) (by exact au (by omega)) (fun g1=>?_) (fun g1=>?_)
 ·have hw:IntKind.i64.wrap ((i:Int)+1)=((i+1:Nat):Int):=aO (by omega)
  have hx:(strOf abc).extract ((i:Int)).toNat (IntKind.i64.wrap ((i:Int)+1)).toNat=strOf [UInt8.ofNat (97+i)]:=by rw[hw];exact aqJ (by omega)
  have hxs:((((strOf abc).extract ((i:Int)).toNat (IntKind.i64.wrap ((i:Int)+1)).toNat).size+1:Nat):Int)≤9223372036854775807:=by rw[hx,dI];show ((1+1:Nat):Int)≤_;decide
  refine ai (ai (aa1 _) (ai (by rw[hw];omega) (by rw[hw];show ((i+1:Nat):Int)≤6;omega))) ?_
  refine ai hxs (ai hxs ?_)
  refine ai (aeT (by show (jl i).length+2≤10000;omega)) (ai (aI 2 rfl) ?_)
  refine ei (i+1) (ai (ai rfl rfl) (ai (ai (ai rfl (ai (ai rfl rfl) (ai (ai rfl rfl) (ai (ai (ai (ai (fun _=>rfl) (aO (by omega))) rfl) (ai rfl (ai rfl (ai ?_ ?_)))) trivial)))) rfl) (ai (ai (iL (by omega)) trivial) (iM (by omega)))))
  ·show (jl i).length+2=(jl (i+1)).length
   rw[jl,aaG];rfl
  ·exact fun k hk=>aax (a:=jl i) (b:=[ac4 i 48,ac4 i 49]) (n:=(jl i).length) (f:=fun k=>[sP ((jl i).getD k [])]) rfl (fun _ _=>rfl) (aoz (x:=ac4 i 48) (y:=ac4 i 49) (a:=(strOf abc).extract ((i:Int)).toNat (IntKind.i64.wrap ((i:Int)+1)).toNat++strOf [48]) (b:=(strOf abc).extract ((i:Int)).toNat (IntKind.i64.wrap ((i:Int)+1)).toNat++strOf [49]) (by rw[hx,eH];rfl) (by rw[hx,eH];rfl)) k (by rw[aaG];exact hk)
 ·obtain rfl:i=c.act.toNat:=by omega
  refine ai (aeT (by show (jl c.act.toNat).length+c.ins.length≤10000;omega)) (ai (fun _ _=>rfl) ?_)
  refine ei (bF.inv { X:=Nat,up:=fun j=>[(31,.s (iA j)),(3,ssR (jl c.act.toNat++c.ins++nC j))],uo:=fun j=>[],inv:=fun j=>j≤c.sts.length∧(True),meas:=fun j=>c.sts.length-j,x0:=0 }) ?_
  refine ai (ai (ai (by exact (a4 (ai rfl rfl))) (ai ?_ ?_)) rfl) (ai (ai (aeu _) ?_) ?_)
  ·refine (ai (ai (ai (fun _=>rfl) (iE (by simp only[zz,reduceCtorEq];rfl))) rfl) (ai rfl (ai rfl (ai ?_ ?_))))
   ·show (jl c.act.toNat).length+c.ins.length=(jl c.act.toNat++c.ins++nC 0).length
    rw[aaG,aaG];rfl
   ·intro k hk
    have:=aax (a:=jl c.act.toNat) (b:=c.ins) (n:=(jl c.act.toNat).length) (f:=fun k=>[sP ((jl c.act.toNat).getD k [])]) (g:=fun k=>[sP (c.ins.getD k [])]) rfl (fun _ _=>rfl) (fun _ _=>rfl) k (by rw[aaG];exact hk)
    rw[this]
    show _=[sP ((jl c.act.toNat++c.ins++[]).getD k [])]
    rw[aqr]
  ·exact trivial
  ·trivial
  intro (j:Nat) ⟨hj,_⟩
  have hlj:=aaB j
  have hla:(jl c.act.toNat++c.ins++nC j).length=2*c.act.toNat+c.ins.length+j:=by rw[aaG,aaG,hln,hlj]
  refine ah (p:=j<c.sts.length) (au (by omega)) (fun g2=>?_) (fun g2=>?_)
  ·refine ei _ (ai (vX) (ei (j) (ei [] (ai (a4 (ai (fun _=>Or.inl rfl) (ai nof (Or.inl rfl)))) (ai (by exact rfl) (ai trivial (ai ((by show j<100;omega)) ?_)))))))
   have hd:(dec j).length≤2:=by
    have:∀j:Fin 100,(Lib.decDigits j.1).length≤2:=by decide +kernel
    exact this ⟨j,by omega⟩
   refine ai (by show (((strOf [121]).size+(strOf (dec j)).size:Nat):Int)≤9223372036854775807;rw[dI,dI,List.length_singleton];omega) ?_
   refine ai (aeT (by show (jl c.act.toNat++c.ins++nC j).length+1≤10000;omega)) (ai (aI 1 rfl) ?_)
   refine ei (j+1) (ai (ai rfl rfl) (ai (ai (ai rfl (ai (ai rfl rfl) (ai (ai rfl rfl) (ai (ai (ai (ai (fun _=>rfl) (aO (by omega))) rfl) (ai rfl (ai rfl (ai ?_ ?_)))) trivial)))) rfl) (ai (ai (iL (by omega)) trivial) (iM (by omega)))))
   ·show (jl c.act.toNat++c.ins++nC j).length+1=(jl c.act.toNat++c.ins++nC (j+1)).length
    rw[nC,aaG,aaG,aaG,aaG,aaG];rfl
   ·have e:jl c.act.toNat++c.ins++nC (j+1)=(jl c.act.toNat++c.ins++nC j)++[yN j]:=by rw[nC];simp
    have:=aax (a:=jl c.act.toNat++c.ins++nC j) (b:=[yN j]) rfl (fun _ _=>rfl) (aiW (x:=yN j) (a:=strOf [121]++strOf (dec j)) (by rw[eH];rfl))
    rw[←e] at this
    intro k hk
    exact this k (by rw[e,aaG];exact hk)
  ·obtain rfl:j=c.sts.length:=by omega
   refine ai (ai (fun h=>absurd (show false=true from h) (by decide)) ?_) trivial
   show ak _ (ssP (dO c))
   rw[dO]
   exact (ai rfl (fun _ _=>rfl))
theorem iG {c:aQ} (h:bE c=0):(1≤c.act∧c.act≤6)∧dK c.ins=0∧(0<c.sts.length∧c.sts.length≤24)∧c.trs.length≤32∧(∀k,k<c.sts.length→eP c.act (c.sts.getD k st0)=0)∧∀k,k<c.trs.length→iD c (c.trs.getD k aH)=0:=by
 unfold bE at h
 split at h
 ·cases h
 split at h
 ·rename_i h1 h2;exact absurd h h2
 split at h
 ·cases h
 split at h
 ·cases h
 split at h
 ·rename_i h1;exact absurd h h1
 rename_i h1 h2 h3 h4 h5
 refine ⟨by omega,arn.1 h2,by omega,by omega,fun k hk=>ng (arn.1 h5) k hk,fun k hk=>ng h k hk⟩
theorem am8 {c:aQ} (h:bE c=0):agn c:=by
 obtain ⟨h1,h2,h3,h4,-⟩:=iG h
 have:=rM h2
 exact ⟨h1.1,h1.2,by omega,by omega⟩
def fQ (m:List Bool) (k:Nat):PV:=bP (m.getD k false)
def tZ (m:List Bool):PV:=.arr 24 (fQ m)
def tq (m:List Bool):SV:=.p false (tZ m)
theorem nL (g:Nat→PV):∀(n i k:Nat),k<n→(lW g i n)[k]?=some (g (i+k))
 | 0,_,_,h=>by omega
 | n+1,i,0,_=>rfl
 | n+1,i,k+1,h=>by
  show (lW g (i+1) n)[k]?=_
  rw[nL g n (i+1) k (by omega),show i+1+k=i+(k+1) by omega]
theorem anC (m:List Bool) {k:Nat} (h:k<24):(dY 24 (fQ m))[k]?=some (fQ m k):=by
 unfold dY;rw[nL _ _ _ _ h,aip]
def iK (n:Nat) (l:List Int):Prop:=∀k∈l,0≤k∧k<(n:Int)
theorem oL {n:Nat} {l:List Int} (h:iK n l) {k:Nat} (hk:k<l.length):0≤l.getD k 0∧l.getD k 0<(n:Int):=h _ (acI (bI 0 hk))
def gL (m:List Bool) (k:Int):Bool:=m.getD k.toNat false
def allM (m:List Bool) (l:List Int):Bool:=l.all (gL m)
def apV (m:List Bool):PV:=.fn 161 [.pt (dY 24 (fQ m)) 0]
theorem ao1:aK Tryz.prog 161 (bR (fun a:List Bool×Int=>[iA a.2,.p false (.pt (dY 24 (fQ a.1)) 0)]) (fun a=>0≤a.2∧a.2<24) (fun a=>bP (!gL a.1 a.2))):=by
 refine aX (Tb:=tab) mixed aB Tryz.func161 rfl rfl ?_
 rintro (a:List Bool×Int) hpre
 refine ai (ai rfl (ai rfl rfl)) ?_
 have h1:0≤a.2:=hpre.1
 have h2:a.2<24:=hpre.2
 refine ai ⟨h1,h2⟩ ?_
 refine ei (fQ a.1 a.2.toNat) (ai (by rw[aip];exact anC a.1 (by omega)) ?_)
 refine ai (ai (fun _=>trivial) ?_) trivial
 exact rfl
def arl:Spec:=bR (fun a:List Bool×List Int=>[isA a.2,.p false (apV a.1)]) (fun a=>iK 24 a.2∧a.2.length≤1000000) (fun a=>iP (gJ (fun k=>!gL a.1 k) a.2))
theorem an8:aK Tryz.prog 106 arl:=by
 refine aX (Tb:=tab) mixed aB Tryz.func106 rfl rfl ?_
 rintro (a:List Bool×List Int) hpre
 refine ai (ai rfl (ai rfl rfl)) ?_
 obtain ⟨hx,hl⟩:=hpre
 have hl:a.2.length≤1000000:=hl
 refine ei (bF.inv { X:=Nat,up:=fun k=>[(8,.s (iA k))],uo:=fun k=>[],inv:=fun k=>k≤a.2.length∧(∀y∈a.2.take k,(!gL a.1 y)=false),meas:=fun k=>a.2.length-k,x0:=0 }) ?_
 refine ai (ai (ai (by exact (a4 (ai rfl rfl))) (ai (by exact (ai (ai (fun _=>rfl) (iE (by simp only[zz,reduceCtorEq];rfl))) rfl)) (by exact trivial))) rfl) (ai (ai (aeu _) ?_) ?_)
 ·exact fun y hy=>absurd hy (by simp)
 intro (k:Nat) ⟨hk,hall⟩
 refine ah (p:=k<a.2.length) (au (by omega)) (fun h1=>?_) (fun h1=>?_)
 ·refine ai (ai (aa1 _) (iN (n:=a.2.length) (by omega))) (ai rfl ?_)
  refine ei _ (ai (ao1) (ei ((a.1,a.2.getD k 0)) (ei [] (ai (a4 (ai (fun _=>Or.inl rfl) (ai nof (Or.inl rfl)))) (ai (by exact (ai (iE (by simp only[zz,reduceCtorEq])) (ai rfl rfl))) (ai trivial (ai (oL hx h1) ?_)))))))
  refine aZ (b:=!gL a.1 (a.2.getD k 0)) rfl (fun h2=>?_) (fun h2=>?_)
  ·refine ai (ai (fun _=>trivial) ?_) trivial
   show ak _ (iP (gJ (fun k=>!gL a.1 k) a.2))
   rw[mZ (d:=0) h1 h2 hall]
   exact rfl
  refine ei (k+1) (ai (ai rfl rfl) (ai (ai (ai rfl (ai (ai rfl rfl) (ai (ai rfl rfl) (ai (ai (ai (fun _=>rfl) (aO (by omega))) rfl) trivial)))) rfl) (ai (ai (iL (by omega)) ?_) (iM (by omega)))))
  intro y hy
  rw[aS 0 h1] at hy
  rcases aia.1 hy with hy | hy
  ·exact hall y hy
  ·simp only[ag4] at hy;subst hy;exact h2
 ·obtain rfl:k=a.2.length:=by omega
  rw[agN] at hall
  refine ai (ai (fun _=>trivial) ?_) trivial
  show ak _ (iP (gJ (fun k=>!gL a.1 k) a.2))
  rw[oK hall]
  exact rfl
theorem an3:aK Tryz.prog 38 (bR (fun a:List Bool×List Int=>[isA a.2,.p false (apV a.1)]) (fun a=>iK 24 a.2∧a.2.length≤1000000) (fun a=>bP (a.2.any fun k=>!gL a.1 k))):=by
 refine aX (Tb:=tab) mixed aB Tryz.func38 rfl rfl ?_
 rintro (a:List Bool×List Int) hpre
 refine ai (ai rfl (ai rfl rfl)) ?_
 refine ei _ (ai (an8) (ei (a) (ei [] (ai (a4 (ai (fun _=>Or.inl rfl) (ai nof (Or.inl rfl)))) (ai (by exact (ai (ai rfl (fun _ _=>rfl)) (ai rfl rfl))) (ai trivial (ai (hpre) ?_)))))))
 refine ai (ai (fun _=>trivial) ?_) trivial
 show ak _ (bP (a.2.any fun k=>!gL a.1 k))
 rw[(mK (fun k=>!gL a.1 k) a.2).symm]
 exact rfl
theorem ap6:aK Tryz.prog 114 (bR (fun a:List Bool×List Int=>[tq a.1,isA a.2]) (fun a=>iK 24 a.2∧a.2.length≤1000000) (fun a=>bP (allM a.1 a.2))):=by
 refine iY [3000006] ?_
 refine aX (Tb:=tab) mixed aB Tryz.func114 rfl rfl ?_
 rintro (a:List Bool×List Int) hpre
 refine ai (ai rfl (ai rfl rfl)) ?_
 refine ei _ (ai (an3) (ei (a) (ei [] (ai (a4 (ai (fun _=>Or.inl rfl) (ai nof (Or.inl rfl)))) (ai (by exact (ai (ai rfl (fun _ _=>rfl)) (ai rfl rfl))) (ai trivial (ai (hpre) ?_)))))))
 refine ai (ai (fun _=>trivial) ?_) trivial
 show ak _ (bP (allM a.1 a.2))
 rw[show allM a.1 a.2=!(a.2.any fun k=>!gL a.1 k) by unfold allM;simp[List.not_any_eq_all_not]]
 exact rfl
def cB (l:List Bool):List Bool:=l++List.replicate (24-l.length) false
theorem sJ (l:List Bool) (k:Nat):(cB l).getD k false=l.getD k false:=by
 unfold cB
 rw[aaI,aaI]
 by_cases h:k<l.length
 ·rw[afl h]
 ·rw[afN (by omega),arx (l:=l) (by omega),asB]
  split<;>rfl
theorem oz {l:List Bool} (h:l.length≤24):(cB l).length=24:=by unfold cB;rw[aaG,ar9];omega
theorem aeS {n:Nat} {f g:Nat→List PV}:∀k,k<0+n→bQ 0 f g k=g k:=fun k hk=>by
 unfold bQ;rw[if_neg (aj9 _),asq]
def arh:Spec:=bR (fun l:List (Bool)=>[xQ l]) (fun l=>l.length≤1000000) (fun l=>mJ l)
theorem aoa:aK Tryz.prog 40 arh:=by
 refine aX (Tb:=tab) mixed aB Tryz.func40 rfl rfl ?_
 rintro (l:List (Bool)) hpre
 refine ai (ai rfl (ai rfl rfl)) ?_
 have hl:l.length≤1000000:=hpre
 intro b hb
 refine aY (fun h1=>?_) (fun h1=>?_)
 ·have h1:l.length=0:=hb h1
  refine ai (ai (fun _=>trivial) ?_) trivial
  show ak _ (mJ l)
  rw[apC.1 h1]
  exact rfl
 ·refine ai (mxL (n:=0+l.length) (by omega) (by decide)) (ai (fun _ _=>rfl) ?_)
  refine ai (ai (fun _ k hk=>by rw[aeS k hk];rfl) ?_) trivial
  refine (ai ?_ (fun _ _=>rfl))
  exact aip _
def arB:Spec:=bR (fun a:aQ×List Bool=>[kP a.1,tq a.2]) (fun a=>a.1.sts.length≤24∧a.2.length=24) (fun a=>mJ (a.2.take a.1.sts.length))
theorem aic:aK Tryz.prog 98 arB:=by
 refine aX (Tb:=tab) mixed aB Tryz.func98 rfl rfl ?_
 rintro (a:aQ×List Bool) hpre
 refine ai (ai rfl (ai rfl rfl)) ?_
 obtain ⟨h1,h2⟩:=hpre
 have h1:a.1.sts.length≤24:=h1
 have h2:a.2.length=24:=h2
 refine ai (ai (by decide) (ai (aa1 _) (by show (a.1.sts.length:Int)≤24;omega))) ?_
 have htl:(a.2.take a.1.sts.length).length=a.1.sts.length:=by rw[aiN];omega
 refine ei _ (ai (aoa) (ei (a.2.take a.1.sts.length) (ei [] (ai (ai rfl (ai rfl (ai rfl (ai rfl (ai (fun _=>Or.inl rfl) (ai (fun _=>ai rfl rfl) (Or.inl rfl))))))) (ai ?_ (ai (by exact trivial) (ai ((by show (a.2.take a.1.sts.length).length≤1000000;omega)) ?_)))))))
 ·refine (ai rfl (ai ?_ ?_))
  ·show ((a.1.sts.length:Int)).toNat-(0:Int).toNat=(a.2.take a.1.sts.length).length
   rw[htl];simp
  ·intro k hk
   have hk:k<((a.1.sts.length:Int)).toNat-(0:Int).toNat:=hk
   have hk:k<a.1.sts.length:=by simpa using hk
   show [bP (a.2.getD ((0:Int).toNat+k) false)]=[bP ((a.2.take a.1.sts.length).getD k false)]
   rw[show (0:Int).toNat+k=k by simp,aaI,aaI,alv,if_pos hk]
 refine ai (ai (fun _=>trivial) ?_) trivial
 exact (ai rfl (fun _ _=>rfl))
def isR (l:List Int):LV:=.rw 3 1 l.length (fun k=>[iP (l.getD k 0)])
theorem adw {a b:List Int} {n:Nat} {f g:Nat→List PV} (hn:n=a.length) (hf:∀k,k<a.length→f k=[iP (a.getD k 0)]) (hg:∀k,k<b.length→g k=[iP (b.getD k 0)]):∀k,k<(a++b).length→bQ n f g k=[iP ((a++b).getD k 0)]:=by
 intro k hk
 subst hn
 unfold bQ
 by_cases h:k<a.length
 ·rw[if_pos h,hf k h,aaI,aaI,afl h]
 ·have hb:k-a.length<b.length:=by rw[aaG] at hk;omega
  rw[if_neg h,hg _ hb,aaI,aaI,afN (by omega)]
theorem aoW (a:List Int) (x:Int):∀k,k<a.length+1→bQ a.length (fun k=>[iP (a.getD k 0)]) (bg 1 [iP x]) k=[iP ((a++[x]).getD k 0)]:=fun k hk=>
 adw (a:=a) (b:=[x]) rfl (fun _ _=>rfl) (fun j hj=>by
  have hj:j<1:=hj
  obtain rfl:j=0:=by omega
  rfl) k (by rw[aaG];exact hk)
def mh (p:Nat→Bool):Nat→List Int
 | 0=>[]
 | n+1=>if p n then mh p n++[(n:Int)] else mh p n
theorem abr (p:Nat→Bool):∀n,(mh p n).length≤n
 | 0=>agv _
 | n+1=>by
  have:=abr p n
  rw[mh];split
  ·rw[aaG];simp;omega
  ·omega
theorem aau {n:Nat} {l:List Int} (h:gq n l=0) (hn:n≤24):iK 24 l∧iK n l∧0<l.length:=by
 unfold gq at h
 split at h
 ·cases h
 ·rename_i h0
  have h1:=ng h
  have:iK n l:=by
   intro k hk
   obtain ⟨i,hi,rfl⟩:=apT hk
   have h2:=h1 i hi
   unfold l5 at h2
   have hg:l.getD i 0=l[i]:=by rw[aaI,aaQ hi];rfl
   rw[hg] at h2
   split at h2
   ·cases h2
   ·omega
  exact ⟨fun k hk=>by have:=this k hk;omega,this,by omega⟩
theorem aov {c:aQ} {t:jK} (h:iD c t=0) (hn:c.sts.length≤24):(iK 24 t.fr∧iK c.sts.length t.fr)∧(iK 24 t.to∧iK c.sts.length t.to)∧dM t.wh (nX c)=0:=by
 unfold iD at h
 split at h
 ·rename_i h1;exact absurd h h1
 rename_i h1
 split at h
 ·rename_i h2;exact absurd h h2
 rename_i h2
 have g1:=aau (arn.1 h1) hn
 have g2:=aau (arn.1 h2) hn
 exact ⟨⟨g1.1,g1.2.1⟩,⟨g2.1,g2.2.1⟩,h⟩
theorem mH {c:aQ} (h:bE c=0) {i:Nat} (hi:i<c.trs.length):(iK 24 (c.trs.getD i aH).fr∧iK c.sts.length (c.trs.getD i aH).fr)∧(iK 24 (c.trs.getD i aH).to∧iK c.sts.length (c.trs.getD i aH).to)∧dM (c.trs.getD i aH).wh (nX c)=0:=by
 obtain ⟨_,_,h3,_,_,h6⟩:=iG h
 exact aov (h6 i hi) h3.2
theorem aap {c:aQ} (h:jr c) {i:Nat} (hi:i<c.trs.length):ai1 (c.trs.getD i aH):=h.2 _ (acI (bI aH hi))
theorem anh (a:List Bool) (k:Int):gL (cB a) k=gL a k:=sJ a k.toNat
theorem ani (a:List Bool) (l:List Int):allM (cB a) l=allM a l:=by
 unfold allM;rw[show gL (cB a)=gL a from funext (anh a)]
def bC (m:List Bool) (l:List Int) (b:Bool):List Bool:=l.foldl (fun m k=>m.set k.toNat b) m
theorem dF (b:Bool):∀(l:List Int) (m:List Bool),(bC m l b).length=m.length
 | [],_=>rfl
 | k :: l,m=>by
  show (bC (m.set k.toNat b) l b).length=_
  rw[dF b l,asu]
theorem nA (m:List Bool) (l:List Int) (k:Int) (b:Bool):bC m (l++[k]) b=(bC m l b).set k.toNat b:=by unfold bC;rw[asw];rfl
theorem aiO {m:List Bool} (hm:m.length=24) {j:Nat} (hj:j<24) (b:Bool) (k:Nat):pW (fQ m) j (bP b) k=fQ (m.set j b) k:=by
 unfold pW fQ
 rw[aaI,aaI,asy]
 by_cases h:k=j
 ·rw[if_pos h,if_pos h.symm,if_pos (by omega)];rfl
 ·rw[if_neg h,if_neg (fun e=>h e.symm)]
def kr (m:List Bool) (t:jK):List Bool:=bC (bC m t.fr false) t.to true
def bf (c:aQ) (m:List Bool) (i:Nat):List Bool×Bool:=if allM m (c.trs.getD i aH).fr then (kr m (c.trs.getD i aH),true) else (m,false)
def mkO (m:List Bool):Ob:=.arr 117 24 (fQ m)
def arC:Spec:=jq (fun a:aQ×List Bool×Nat=>[kP a.1,tq a.2.1,iA a.2.2]) (fun a=>bE a.1=0∧jr a.1∧a.2.1.length=24∧a.2.2<a.1.trs.length) (fun a=>.tup [tZ (bf a.1 a.2.1 a.2.2).1,bP (bf a.1 a.2.1 a.2.2).2])
theorem akX:aK Tryz.prog 61 arC:=by
 refine aX (Tb:=tab) mixed aB Tryz.func61 rfl rfl ?_
 rintro ⟨c,m,i⟩ hpre
 refine ai (ai rfl (ai rfl rfl)) ?_
 obtain ⟨hc,ho,hm,hi⟩:=hpre
 have hc:bE c=0:=hc
 have ho:jr c:=ho
 have hm:m.length=24:=hm
 have hi:i<c.trs.length:=hi
 obtain ⟨g1,g2,g3⟩:=mH hc hi
 have hto:=aap ho hi
 refine ai (ai (aa1 _) (iN (n:=c.trs.length) (by omega))) (ai rfl ?_)
 refine ei _ (ai (ap6) (ei ((m,(c.trs.getD i aH).fr)) (ei [] (ai (a4 (ai (fun _=>Or.inl rfl) (ai nof (Or.inl rfl)))) (ai (by exact (ai (ai rfl (fun _ _=>rfl)) (ai rfl (fun _ _=>rfl)))) (ai trivial (ai (⟨g1.1,hto.1⟩) ?_)))))))
 refine aZ (b:=!allM m (c.trs.getD i aH).fr) rfl (fun h2=>?_) (fun h2=>?_)
 ·have h2:allM m (c.trs.getD i aH).fr=false:=by simpa using h2
  have e:bf c m i=(m,false):=by unfold bf;rw[h2];rfl
  refine ai (ai (fun h=>absurd (show false=true from h) (by decide)) ?_) trivial
  show ak _ (.tup [tZ (bf c m i).1,bP (bf c m i).2])
  rw[e]
  exact (ai (ai rfl (fun _ _=>rfl)) rfl)
 have h2:allM m (c.trs.getD i aH).fr=true:=by simpa using h2
 have e:bf c m i=(kr m (c.trs.getD i aH),true):=by unfold bf;rw[h2];rfl
 have hf:(c.trs.getD i aH).fr.length≤1000000:=hto.1
 have ht:(c.trs.getD i aH).to.length≤1000000:=hto.2.1
 refine ei (bF.inv { X:=Nat,up:=fun k=>[(27,.s (iA k))],uo:=fun k=>[⟨1,117,[.ob (mkO (bC m ((c.trs.getD i aH).fr.take k) false))]⟩],inv:=fun k=>k≤(c.trs.getD i aH).fr.length∧(True),meas:=fun k=>(c.trs.getD i aH).fr.length-k,x0:=0 }) ?_
 refine ai (ai (ai (by exact (a4 (ai rfl rfl))) (ai ?_ ?_)) rfl) (ai (ai (aeu _) ?_) ?_)
 ·exact (ai (ai (fun _=>rfl) (iE (by simp only[zz,reduceCtorEq];rfl))) rfl)
 ·exact (ai (ai rfl (ai rfl (fun _ _=>rfl))) trivial)
  skip
 ·trivial
 intro (k:Nat) ⟨hk,_⟩
 refine ah (p:=k<(c.trs.getD i aH).fr.length) (by simp only[zz,reduceCtorEq];omega) (fun h3=>?_) (fun h3=>?_)
 ·refine ai (ai (aa1 _) (iN (n:=(c.trs.getD i aH).fr.length) (by omega))) (ai rfl ?_)
  have hx:=oL g1.1 h3
  have h24:((c.trs.getD i aH).fr.getD k 0).toNat<24:=by omega
  refine ai hx ?_
  refine ai (by show 0+((c.trs.getD i aH).fr.getD k 0).toNat*1<24;omega) ?_
  refine ei (k+1) (ai (ai rfl rfl) (ai (ai (ai rfl (ai (ai rfl rfl) (ai (ai rfl rfl) (ai (ai (ai (fun _=>rfl) (aO (by omega))) rfl) (ai (ai rfl (ai rfl ?_)) trivial))))) rfl) (ai (ai (iL (by omega)) trivial) (iM (by omega)))))
  intro q hq
  show pW (fQ (bC m ((c.trs.getD i aH).fr.take k) false)) (0+((c.trs.getD i aH).fr.getD k 0).toNat*1) (bP false) q=fQ (bC m ((c.trs.getD i aH).fr.take (k+1)) false) q
  rw[aip,apS,aiO (by rw[dF];exact hm) h24,aS 0 h3,nA]
 ·obtain rfl:k=(c.trs.getD i aH).fr.length:=by omega
  rw[agN]
  refine ei (bF.inv { X:=Nat,up:=fun j=>[(37,.s (iA j))],uo:=fun j=>[⟨1,117,[.ob (mkO (bC (bC m (c.trs.getD i aH).fr false) ((c.trs.getD i aH).to.take j) true))]⟩],inv:=fun j=>j≤(c.trs.getD i aH).to.length∧(True),meas:=fun j=>(c.trs.getD i aH).to.length-j,x0:=0 }) ?_
  refine ai (ai (ai (by exact (a4 (ai rfl rfl))) (ai ?_ ?_)) rfl) (ai (ai (aeu _) ?_) ?_)
  ·exact (ai (ai (fun _=>rfl) (iE (by simp only[zz,reduceCtorEq];rfl))) rfl)
  ·exact (ai (ai rfl (ai rfl (fun _ _=>rfl))) trivial)
   skip
  ·trivial
  intro (j:Nat) ⟨hk,_⟩
  refine ah (p:=j<(c.trs.getD i aH).to.length) (by simp only[zz,reduceCtorEq];omega) (fun h3=>?_) (fun h3=>?_)
  ·refine ai (ai (aa1 _) (iN (n:=(c.trs.getD i aH).to.length) (by omega))) (ai rfl ?_)
   have hx:=oL g2.1 h3
   have h24:((c.trs.getD i aH).to.getD j 0).toNat<24:=by omega
   refine ai hx ?_
   refine ai (by show 0+((c.trs.getD i aH).to.getD j 0).toNat*1<24;omega) ?_
   refine ei (j+1) (ai (ai rfl rfl) (ai (ai (ai rfl (ai (ai rfl rfl) (ai (ai rfl rfl) (ai (ai (ai (fun _=>rfl) (aO (by omega))) rfl) (ai (ai rfl (ai rfl ?_)) trivial))))) rfl) (ai (ai (iL (by omega)) trivial) (iM (by omega)))))
   intro q hq
   show pW (fQ (bC (bC m (c.trs.getD i aH).fr false) ((c.trs.getD i aH).to.take j) true)) (0+((c.trs.getD i aH).to.getD j 0).toNat*1) (bP true) q=fQ (bC (bC m (c.trs.getD i aH).fr false) ((c.trs.getD i aH).to.take (j+1)) true) q
   rw[aip,apS,aiO (by rw[dF];exact (dF _ _ _).trans hm) h24,aS 0 h3,nA]
  ·obtain rfl:j=(c.trs.getD i aH).to.length:=by omega
   rw[agN]
   refine ai (ai (fun h=>absurd (show false=true from h) (by decide)) ?_) trivial
   show ak _ (.tup [tZ (bf c m i).1,bP (bf c m i).2])
   rw[e]
   exact (ai (ai rfl (fun _ _=>rfl)) rfl)
def apR (m:List Bool) (t:jK):PV:=.fn 125 [.pt (dY 24 (fQ m)) 0,.pt (trK t) 0]
def fu (l:List Int) (k:Int):Bool:=l.any fun y=>k==y
def lY (m:List Bool) (t:jK) (k:Int):Bool:=gL m k&&!fu t.fr k
theorem aoY:aK Tryz.prog 125 (bR (fun a:(List Bool×jK)×Int=>[iA a.2,.p false (.pt (dY 24 (fQ a.1.1)) 0),.p false (.pt (trK a.1.2) 0)]) (fun a=>(0≤a.2∧a.2<24)∧a.1.2.fr.length≤1000000) (fun a=>bP (lY a.1.1 a.1.2 a.2))):=by
 refine aX (Tb:=tab) mixed aB Tryz.func125 rfl rfl ?_
 rintro (a:(List Bool×jK)×Int) hpre
 refine ai (ai rfl (ai rfl rfl)) ?_
 obtain ⟨⟨h1,h2⟩,h3⟩:=hpre
 have h1:0≤a.2:=h1
 have h2:a.2<24:=h2
 refine ai ⟨h1,h2⟩ ?_
 refine ei (fQ a.1.1 a.2.toNat) (ai (by rw[aip];exact anC a.1.1 (by omega)) ?_)
 refine aZ (b:=gL a.1.1 a.2) rfl (fun h4=>?_) (fun h4=>?_)
 ·refine ei _ (ai (ac8) (ei ((a.1.2.fr,a.2)) (ei [] (ai (a4 (ai (fun _=>Or.inl rfl) (ai nof (Or.inl rfl)))) (ai (by exact (ai (ai rfl (fun _ _=>rfl)) rfl)) (ai trivial (ai (h3) ?_)))))))
  refine ai (ai (fun _=>trivial) ?_) trivial
  show ak _ (bP (lY a.1.1 a.1.2 a.2))
  rw[show lY a.1.1 a.1.2 a.2=!fu a.1.2.fr a.2 by unfold lY;rw[h4];rfl]
  exact rfl
 ·refine ai (ai (fun _=>trivial) ?_) trivial
  show ak _ (bP (lY a.1.1 a.1.2 a.2))
  rw[show lY a.1.1 a.1.2 a.2=false by unfold lY;rw[h4];rfl]
  exact rfl
def ak2 (a:(List Bool×jK)×List Int):Prop:=iK 24 a.2∧a.2.length≤1000000∧a.1.2.fr.length≤1000000
theorem ao8:aK Tryz.prog 106 (bR (fun a:(List Bool×jK)×List Int=>[isA a.2,.p false (apR a.1.1 a.1.2)]) ak2 (fun a=>iP (gJ (lY a.1.1 a.1.2) a.2))):=by
 refine aX (Tb:=tab) mixed aB Tryz.func106 rfl rfl ?_
 rintro (a:(List Bool×jK)×List Int) hpre
 refine ai (ai rfl (ai rfl rfl)) ?_
 obtain ⟨hx,hl,hf⟩:=hpre
 have hl:a.2.length≤1000000:=hl
 refine ei (bF.inv { X:=Nat,up:=fun k=>[(8,.s (iA k))],uo:=fun k=>[],inv:=fun k=>k≤a.2.length∧(∀y∈a.2.take k,lY a.1.1 a.1.2 y=false),meas:=fun k=>a.2.length-k,x0:=0 }) ?_
 refine ai (ai (ai (by exact (a4 (ai rfl rfl))) (ai (by exact (ai (ai (fun _=>rfl) (iE (by simp only[zz,reduceCtorEq];rfl))) rfl)) (by exact trivial))) rfl) (ai (ai (aeu _) ?_) ?_)
 ·exact fun y hy=>absurd hy (by simp)
 intro (k:Nat) ⟨hk,hall⟩
 refine ah (p:=k<a.2.length) (au (by omega)) (fun h1=>?_) (fun h1=>?_)
 ·refine ai (ai (aa1 _) (iN (n:=a.2.length) (by omega))) (ai rfl ?_)
  refine ei _ (ai (aoY) (ei ((a.1,a.2.getD k 0)) (ei [] (ai (a4 (ai (fun _=>Or.inl rfl) (ai nof (Or.inl rfl)))) (ai (by exact (ai (iE (by simp only[zz,reduceCtorEq])) (ai (ai rfl rfl) (ai rfl rfl)))) (ai trivial (ai (⟨oL hx h1,hf⟩) ?_)))))))
  refine aZ (b:=lY a.1.1 a.1.2 (a.2.getD k 0)) rfl (fun h2=>?_) (fun h2=>?_)
  ·refine ai (ai (fun _=>trivial) ?_) trivial
   show ak _ (iP (gJ (lY a.1.1 a.1.2) a.2))
   rw[mZ (d:=0) h1 h2 hall]
   exact rfl
  refine ei (k+1) (ai (ai rfl rfl) (ai (ai (ai rfl (ai (ai rfl rfl) (ai (ai rfl rfl) (ai (ai (ai (fun _=>rfl) (aO (by omega))) rfl) trivial)))) rfl) (ai (ai (iL (by omega)) ?_) (iM (by omega)))))
  intro y hy
  rw[aS 0 h1] at hy
  rcases aia.1 hy with hy | hy
  ·exact hall y hy
  ·simp only[ag4] at hy;subst hy;exact h2
 ·obtain rfl:k=a.2.length:=by omega
  rw[agN] at hall
  refine ai (ai (fun _=>trivial) ?_) trivial
  show ak _ (iP (gJ (lY a.1.1 a.1.2) a.2))
  rw[oK hall]
  exact rfl
theorem aoL:aK Tryz.prog 38 (bR (fun a:(List Bool×jK)×List Int=>[isA a.2,.p false (apR a.1.1 a.1.2)]) ak2 (fun a=>bP (a.2.any (lY a.1.1 a.1.2)))):=by
 refine aX (Tb:=tab) mixed aB Tryz.func38 rfl rfl ?_
 rintro (a:(List Bool×jK)×List Int) hpre
 refine ai (ai rfl (ai rfl rfl)) ?_
 refine ei _ (ai (ao8) (ei (a) (ei [] (ai (a4 (ai (fun _=>Or.inl rfl) (ai nof (Or.inl rfl)))) (ai (by exact (ai (ai rfl (fun _ _=>rfl)) (ai rfl rfl))) (ai trivial (ai (hpre) ?_)))))))
 refine ai (ai (fun _=>trivial) ?_) trivial
 show ak _ (bP (a.2.any (lY a.1.1 a.1.2)))
 rw[(mK (lY a.1.1 a.1.2) a.2).symm]
 exact rfl
def xX (c:aQ) (m:List Bool) (i:Nat):Bool:=(c.trs.getD i aH).to.any (lY m (c.trs.getD i aH))
def ar2:Spec:=bR (fun a:aQ×List Bool×Nat=>[kP a.1,tq a.2.1,iA a.2.2]) (fun a=>bE a.1=0∧jr a.1∧a.2.2<a.1.trs.length) (fun a=>bP (xX a.1 a.2.1 a.2.2))
theorem ad5:aK Tryz.prog 62 ar2:=by
 refine iY [3000015] ?_
 refine aX (Tb:=tab) mixed aB Tryz.func62 rfl rfl ?_
 rintro ⟨c,m,i⟩ hpre
 refine ai (ai rfl (ai rfl rfl)) ?_
 obtain ⟨hc,ho,hi⟩:=hpre
 have hc:bE c=0:=hc
 have ho:jr c:=ho
 have hi:i<c.trs.length:=hi
 obtain ⟨g1,g2,g3⟩:=mH hc hi
 have hto:=aap ho hi
 refine ai (ai (aa1 _) (iN (n:=c.trs.length) (by omega))) (ai rfl ?_)
 refine ei _ (ai (aoL) (ei (((m,c.trs.getD i aH),(c.trs.getD i aH).to)) (ei [] (ai (a4 (ai (fun _=>Or.inl rfl) (ai nof (Or.inl rfl)))) (ai (by exact (ai (ai rfl (fun _ _=>rfl)) (ai rfl rfl))) (ai trivial (ai (⟨g2.1,hto.2.1,hto.1⟩) ?_)))))))
 refine ai (ai (fun _=>trivial) ?_) trivial
 exact rfl
theorem aag {α:Type} {l m:List α} {k:Nat} (d:α) (h1:k<l.length) (h2:k<m.length) (h:l.take k=m.take k) (e:l.getD k d=m.getD k d):l.take (k+1)=m.take (k+1):=by
 rw[aS d h1,aS d h2,h,e]
def ak0:Spec:=bR (fun a:List (Bool)×List (Bool)=>[xQ a.1,xQ a.2]) (fun a=>a.1.length≤1000000) (fun a=>bP (decide (a.1=a.2)))
theorem amt:aK Tryz.prog 120 ak0:=by
 refine aX (Tb:=tab) mixed aB Tryz.func120 rfl rfl ?_
 rintro (a:List (Bool)×List (Bool)) hpre
 refine ai (ai rfl (ai rfl rfl)) ?_
 have hl:a.1.length≤1000000:=hpre
 refine bD (p:=a.1.length=a.2.length) (bU (by omega)) (fun h1=>?_) (fun h1=>?_)
 ·refine ai (ai (fun _=>trivial) ?_) trivial
  show ak _ (bP (decide (a.1=a.2)))
  rw[decide_eq_false (fun h=>h1 (congrArg List.length h))]
  exact rfl
 refine ei (bF.inv { X:=Nat,up:=fun k=>[(5,.s (iA k))],uo:=fun k=>[],inv:=fun k=>k≤a.1.length∧(a.1.take k=a.2.take k),meas:=fun k=>a.1.length-k,x0:=0 }) ?_
 refine ai (ai (ai (by exact (a4 (ai rfl rfl))) (ai (by exact (ai (ai (fun _=>rfl) (iE (by simp only[zz,reduceCtorEq];rfl))) rfl)) (by exact trivial))) rfl) (ai (ai (aeu _) ?_) ?_)
 ·rfl
 intro (k:Nat) ⟨hk,hall⟩
 refine ah (p:=k<a.1.length) (au (by omega)) (fun h4=>?_) (fun h4=>?_)
 ·refine ei (.seq [0,1,2,3,4,5,6,7,8]) (ai (by kernel_rfl) ?_)
  refine ai (ai (aa1 _) (iN (n:=a.1.length) (by omega))) (ai rfl ?_)
  refine ai (ai (aa1 _) (iN (n:=a.2.length) (by omega))) (ai rfl ?_)
  refine bD (p:=a.1.getD k false=a.2.getD k false) (by exact bne_iff_ne) (fun h5=>?_) (fun h5=>?_)
  ·refine ai (ai (fun _=>trivial) ?_) trivial
   show ak _ (bP (decide (a.1=a.2)))
   rw[decide_eq_false (fun h=>h5 (by rw[h]))]
   exact rfl
  refine ei (k+1) (ai (ai rfl rfl) (ai (ai (ai rfl (ai (ai rfl rfl) (ai (ai rfl rfl) (ai (ai (ai (fun _=>rfl) (aO (by omega))) rfl) trivial)))) rfl) (ai (ai (iL (by omega)) ?_) (iM (by omega)))))
  exact aag false h4 (by omega) hall h5
 ·obtain rfl:k=a.1.length:=by omega
  rw[agN,h1,agN] at hall
  refine ai (ai (fun _=>trivial) ?_) trivial
  show ak _ (bP (decide (a.1=a.2)))
  rw[decide_eq_true hall]
  exact rfl
theorem ane:aK Tryz.prog 54 ak0:=by
 refine aX (Tb:=tab) mixed aB Tryz.func54 rfl rfl ?_
 rintro (a:List Bool×List Bool) hpre
 refine ai (ai rfl (ai rfl rfl)) ?_
 refine ei _ (ai (amt) (ei (a) (ei [] (ai (a4 (ai (fun _=>Or.inl rfl) (ai nof (Or.inl rfl)))) (ai (by exact (ai (ai rfl (fun _ _=>rfl)) (ai rfl (fun _ _=>rfl)))) (ai trivial (ai (hpre) ?_)))))))
 refine ai (ai (fun _=>trivial) ?_) trivial
 exact rfl
def bsR (l:List Bool):LV:=.rw 4 1 l.length (fun k=>[bP (l.getD k false)])
theorem ade {m:List Bool} {j:Nat} (hj:j<m.length) (b:Bool):∀k,jN (fun k=>[bP (m.getD k false)]) j 0 [bP b] k=[bP ((m.set j b).getD k false)]:=by
 intro k
 unfold jN
 rw[aaI (l:=m.set j b),asy]
 by_cases h:k=j
 ·rw[if_pos h,if_pos h.symm,if_pos hj];rfl
 ·rw[if_neg h,if_neg (fun e=>h e.symm),←aaI]
def gQ:List Bool→List Bool→Int
 | x :: a,y :: b=>if x=y then gQ a b else if y then -1 else 1
 | _,_=>0
theorem ad4 {a b:List Bool} (hl:a.length=b.length):∀{k:Nat},k≤a.length→a.take k=b.take k→gQ a b=gQ (a.drop k) (b.drop k)
 | 0,_,_=>rfl
 | k+1,hk,h=>by
  have h1:a.take k=b.take k:=by
   have:=congrArg (List.take k) h
   rwa [asY,asY,asM (by omega)] at this
  rw[ad4 hl (k:=k) (by omega) h1]
  have ha:a.drop k=a.getD k false :: a.drop (k+1):=by
   rw[aps (by omega),aaI,aaQ (by omega)];rfl
  have hb:b.drop k=b.getD k false :: b.drop (k+1):=by
   rw[aps (by omega),aaI,aaQ (by omega)];rfl
  have e:a.getD k false=b.getD k false:=by
   have:=congrArg (fun l=>l.getD k false) h
   simpa [aaI,alv] using this
  rw[ha,hb,gQ,if_pos e]
theorem aoj {a b:List Bool} (hl:a.length=b.length) {k:Nat} (hk:k<a.length) (h:a.take k=b.take k) (hn:a.getD k false≠b.getD k false):gQ a b=if b.getD k false then -1 else 1:=by
 rw[ad4 hl (k:=k) (by omega) h]
 have ha:a.drop k=a.getD k false :: a.drop (k+1):=by
  rw[aps (by omega),aaI,aaQ (by omega)];rfl
 have hb:b.drop k=b.getD k false :: b.drop (k+1):=by
  rw[aps (by omega),aaI,aaQ (by omega)];rfl
 rw[ha,hb,gQ,if_neg hn]
theorem ah1 {a b:List Bool} (h:a=b):gQ a b=0:=by
 subst h
 induction a with
 | nil=>rfl
 | cons x a ih=>rw[gQ,if_pos rfl,ih]
def al8 (a b:List Bool):Bool:=gQ a b==-1
def lq (n:Nat):List Bool:=(List.replicate n false).set 0 true
abbrev Mk := List Bool × List Int
def ay:Mk:=([],[])
def kJ (l:List Mk) (m:List Bool):Bool:=l.any fun y=>decide (y.1=m)
def o9 (x y:Int):Int:=if x<y then -1 else if y<x then 1 else 0
theorem afp:aK Tryz.prog 163 (bR (fun x:Int=>[iA x]) (fun _=>True) (fun _=>bP false)):=by
 refine aX (Tb:=tab) mixed aB Tryz.func163 rfl rfl ?_
 rintro (x:Int) hpre
 refine ai (ai rfl (ai rfl rfl)) ?_
 refine ai (ai (fun _=>trivial) ?_) trivial
 show ak _ (bP false)
 rw[show false=(x != x) by simp]
 exact rfl
theorem ao6:aK Tryz.prog 126 (bR (fun a:Int×Int=>[iA a.1,iA a.2]) (fun _=>True) (fun a=>iP (o9 a.1 a.2))):=by
 refine aX (Tb:=tab) mixed aB Tryz.func126 rfl rfl ?_
 rintro (a:Int×Int) hpre
 refine ai (ai rfl (ai rfl rfl)) ?_
 refine ei _ (ai (afp) (ei (a.1) (ei [] (ai (a4 (ai (fun _=>Or.inl rfl) (ai nof (Or.inl rfl)))) (ai (by exact rfl) (ai trivial (ai (trivial) ?_)))))))
 refine ei _ (ai (afp) (ei (a.2) (ei [] (ai (a4 (ai (fun _=>Or.inl rfl) (ai nof (Or.inl rfl)))) (ai (by exact rfl) (ai trivial (ai (trivial) ?_)))))))
 refine ah (p:=a.1<a.2) (au (by omega)) (fun h1=>?_) (fun h1=>?_)
 ·refine ai (ai (fun _=>trivial) ?_) trivial
  show ak _ (iP (o9 a.1 a.2))
  rw[o9,if_pos h1]
  exact rfl
 refine ah (p:=a.2<a.1) (au (by omega)) (fun h2=>?_) (fun h2=>?_)
 ·refine ai (ai (fun _=>trivial) ?_) trivial
  show ak _ (iP (o9 a.1 a.2))
  rw[o9,if_neg h1,if_pos h2]
  exact rfl
 ·refine ai (ai (fun _=>trivial) ?_) trivial
  show ak _ (iP (o9 a.1 a.2))
  rw[o9,if_neg h1,if_neg h2]
  exact rfl
def cmpL:List Int→List Int→Int
 | [],[]=>0
 | [],_ :: _=>-1
 | _ :: _,[]=>1
 | x :: a,y :: b=>if o9 x y=0 then cmpL a b else o9 x y
theorem akp {x y:Int} (h:o9 x y=0):x=y:=by
 unfold o9 at h
 split at h
 ·cases h
 ·split at h
  ·cases h
  ·omega
theorem adQ {a b:List Int}:∀{k:Nat},k≤a.length→k≤b.length→a.take k=b.take k→cmpL a b=cmpL (a.drop k) (b.drop k)
 | 0,_,_,_=>rfl
 | k+1,hk,hk2,h=>by
  have h1:a.take k=b.take k:=by
   have:=congrArg (List.take k) h
   rwa [asY,asY,asM (by omega)] at this
  rw[adQ (k:=k) (by omega) (by omega) h1]
  have ha:a.drop k=a.getD k 0 :: a.drop (k+1):=by
   rw[aps (by omega),aaI,aaQ (by omega)];rfl
  have hb:b.drop k=b.getD k 0 :: b.drop (k+1):=by
   rw[aps (by omega),aaI,aaQ (by omega)];rfl
  have e:a.getD k 0=b.getD k 0:=by
   have:=congrArg (fun l=>l.getD k 0) h
   simpa [aaI,alv] using this
  rw[ha,hb,cmpL,if_pos (by rw[e];unfold o9;rw[if_neg (by omega),if_neg (by omega)])]
theorem aak:aK Tryz.prog 64 (bR (fun a:List Int×List Int=>[isA a.1,isA a.2]) (fun a=>a.1.length≤1000000) (fun a=>iP (cmpL a.1 a.2))):=by
 refine aX (Tb:=tab) mixed aB Tryz.func64 rfl rfl ?_
 rintro (a:List Int×List Int) hpre
 refine ai (ai rfl (ai rfl rfl)) ?_
 have hl:a.1.length≤1000000:=hpre
 refine ei (bF.inv { X:=Nat,up:=fun k=>[(11,.s (iA k))],uo:=fun k=>[],inv:=fun k=>k≤a.1.length∧(k≤a.2.length∧a.1.take k=a.2.take k),meas:=fun k=>a.1.length-k,x0:=0 }) ?_
 refine ai (ai (ai (by exact (a4 (ai rfl rfl))) (ai (by exact (ai (ai (fun _=>rfl) (iE (by simp only[zz,reduceCtorEq];rfl))) rfl)) (by exact trivial))) rfl) (ai (ai (aeu _) ?_) ?_)
 ·exact ⟨aeu _,rfl⟩
 intro (k:Nat) ⟨hk,hk2,hall⟩
 have hD:=adQ hk hk2 hall
 refine ah (p:=k<a.1.length) (au (by omega)) (fun h1=>?_) (fun h1=>?_)
 ·refine ai (ai (aa1 _) (iN (n:=a.1.length) (by omega))) (ai rfl ?_)
  have ha:a.1.drop k=a.1.getD k 0 :: a.1.drop (k+1):=by
   rw[aps (by omega),aaI,aaQ (by omega)];rfl
  refine ah (p:=a.2.length≤k) (cu (by omega)) (fun h2=>?_) (fun h2=>?_)
  ·refine ai (ai (fun _=>trivial) ?_) trivial
   show ak _ (iP (cmpL a.1 a.2))
   rw[show cmpL a.1 a.2=1 by rw[hD,ha,asF h2];rfl]
   exact rfl
  have hb:a.2.drop k=a.2.getD k 0 :: a.2.drop (k+1):=by
   rw[aps (by omega),aaI,aaQ (by omega)];rfl
  refine ai (ai (aa1 _) (iN (n:=a.2.length) (by omega))) (ai rfl ?_)
  refine ei _ (ai (ao6) (ei ((a.1.getD k 0,a.2.getD k 0)) (ei [] (ai (a4 (ai (fun _=>Or.inl rfl) (ai nof (Or.inl rfl)))) (ai (by exact (ai (iE (by simp only[zz,reduceCtorEq])) (iE (by simp only[zz,reduceCtorEq])))) (ai trivial (ai (trivial) ?_)))))))
  refine bD (p:=o9 (a.1.getD k 0) (a.2.getD k 0)=0) (bU (by dsimp only;omega)) (fun h3=>?_) (fun h3=>?_)
  ·refine ai (ai (fun _=>trivial) ?_) trivial
   show ak _ (iP (cmpL a.1 a.2))
   rw[show cmpL a.1 a.2=o9 (a.1.getD k 0) (a.2.getD k 0) by rw[hD,ha,hb,cmpL,if_neg h3]]
   exact rfl
  refine ei (k+1) (ai (ai rfl rfl) (ai (ai (ai rfl (ai (ai rfl rfl) (ai (ai rfl rfl) (ai (ai (ai (fun _=>rfl) (aO (by omega))) rfl) trivial)))) rfl) (ai (ai (iL (by omega)) (ai ?_ ?_)) (iM (by omega)))))
  ·show k+1≤a.2.length;omega
  ·exact aag 0 h1 (by omega) hall (akp h3)
 ·obtain rfl:k=a.1.length:=by omega
  rw[asF (agv _)] at hD
  refine ah (p:=a.1.length<a.2.length) (au (by omega)) (fun h4=>?_) (fun h4=>?_)
  ·have hb:a.2.drop a.1.length=a.2.getD a.1.length 0 :: a.2.drop (a.1.length+1):=by
    rw[aps (by omega),aaI,aaQ (by omega)];rfl
   refine ai (ai (fun _=>trivial) ?_) trivial
   show ak _ (iP (cmpL a.1 a.2))
   rw[show cmpL a.1 a.2=-1 by rw[hD,hb];rfl]
   exact rfl
  ·refine ai (ai (fun _=>trivial) ?_) trivial
   show ak _ (iP (cmpL a.1 a.2))
   rw[show cmpL a.1 a.2=0 by rw[hD,asF (by omega)];rfl]
   exact rfl
def gP (c:aQ) (i:Nat):jK:=c.trs.getD i aH
def aC (c:aQ) (l:List Mk) (a i:Nat):Mk:=(kr (l.getD a ay).1 (gP c i),(l.getD a ay).2++[(i:Int)])
def adds (c:aQ) (l:List Mk) (a i:Nat):Bool:=allM (l.getD a ay).1 (gP c i).fr&&!kJ l (aC c l a i).1
def je (c:aQ) (l:List Mk) (a i:Nat):List Mk:=if adds c l a i then l++[aC c l a i] else l
def dR (c:aQ) (l:List Mk) (a:Nat):Nat→List Mk
 | 0=>l
 | k+1=>je c (dR c l a k) a k
def mM (c:aQ):Nat→List Mk→Nat→Option (List Mk)
 | 0,l,a=>some l
 | f+1,l,a=>if l.length≤a then some l else if 16384<(dR c l a c.trs.length).length then none else mM c f (dR c l a c.trs.length) (a+1)
def mk1 (c:aQ):List Mk:=[(lq c.sts.length,[])]
def pJ (c:aQ):Option (List Mk):=mM c 16385 (mk1 c) 0
theorem yO (c:aQ) (l:List Mk) (a i:Nat):(∃t,je c l a i=l++t)∧(je c l a i).length≤l.length+1:=by
 unfold je
 split
 ·exact ⟨⟨_,rfl⟩,by simp⟩
 ·exact ⟨⟨[],(aqr _).symm⟩,by omega⟩
theorem akv (c:aQ) (l:List Mk) (a:Nat):∀{j k:Nat},j≤k→(dR c l a j).length≤(dR c l a k).length:=by
 intro j k h
 induction k with
 | zero=>
  have:j=0:=by omega
  subst this;exact agv _
 | succ k ih=>
  by_cases e:j=k+1
  ·subst e;exact agv _
  ·have h1:=ih (by omega)
   obtain ⟨⟨t,ht⟩,_⟩:=yO c (dR c l a k) a k
   have:(dR c l a (k+1)).length=(dR c l a k).length+t.length:=by
    show (je c (dR c l a k) a k).length=_
    rw[ht,aaG]
   omega
theorem ow (c:aQ) (l:List Mk) (a:Nat):∀k,∃t,dR c l a k=l++t
 | 0=>⟨[],(aqr _).symm⟩
 | k+1=>by
  obtain ⟨t,ht⟩:=ow c l a k
  obtain ⟨⟨t2,h2⟩,_⟩:=yO c (dR c l a k) a k
  exact ⟨t++t2,by show je c (dR c l a k) a k=_;rw[h2,ht,asf]⟩
def l7 (c:aQ) (l:List Mk):Prop:=∀y∈l,y.1.length=c.sts.length∧iK c.trs.length y.2
theorem akP {c:aQ} {l:List Mk} {a i:Nat} (h:l7 c l) (ha:a<l.length) (hi:i<c.trs.length):l7 c (l++[aC c l a i]):=by
 intro y hy
 rcases aia.1 hy with hy | hy
 ·exact h y hy
 ·simp only[ag4] at hy
  subst hy
  have hg:=h _ (acI (bI ay ha))
  refine ⟨by show (kr _ _).length=_;unfold kr;rw[dF,dF];exact hg.1,fun x hx=>?_⟩
  rcases aia.1 hx with hx | hx
  ·exact hg.2 x hx
  ·simp only[ag4] at hx;subst hx;omega
theorem good_step {c:aQ} {l:List Mk} {a i:Nat} (h:l7 c l) (ha:a<l.length) (hi:i<c.trs.length):l7 c (je c l a i):=by
 unfold je
 split
 ·exact akP h ha hi
 ·exact h
theorem good_row {c:aQ} {l:List Mk} {a:Nat} (h:l7 c l) (ha:a<l.length):∀{k:Nat},k≤c.trs.length→l7 c (dR c l a k)
 | 0,_=>h
 | k+1,hk=>good_step (good_row h ha (by omega)) (by obtain ⟨t,ht⟩:=ow c l a k;rw[ht,aaG];omega) (by omega)
theorem abC (c:aQ):l7 c (mk1 c):=by
 intro y hy
 simp only[mk1,ag4] at hy
 subst hy
 exact ⟨by show (lq _).length=_;unfold lq;rw[asu,ar9],fun x hx=>by simp at hx⟩
theorem amu {c:aQ} {f:Nat} {l:List Mk} {a:Nat} (h:l.length≤a):mM c f l a=some l:=by
 cases f with
 | zero=>rfl
 | succ f=>rw[mM,if_pos h]
theorem amJ {c:aQ} {f:Nat} {l:List Mk} {a k:Nat} (ha:a<l.length) (hk:k≤c.trs.length) (h:16384<(dR c l a k).length):mM c (f+1) l a=none:=by
 have:=akv c l a hk
 rw[mM,if_neg (by omega),if_pos (by omega)]
theorem amP {c:aQ} {f:Nat} {l:List Mk} {a:Nat} (ha:a<l.length) (h:(dR c l a c.trs.length).length≤16384):mM c (f+1) l a=mM c f (dR c l a c.trs.length) (a+1):=by
 rw[mM,if_neg (by omega),if_neg (by omega)]
theorem adJ {u u' v v':PV} (h1:gN u u') (h2:gN v v'):bM [u,v] [u',v']:=by
 refine ⟨rfl,fun k s s' hs hs'=>?_⟩
 match k with
 | 0=>cases hs;cases hs';exact h1
 | 1=>cases hs;cases hs';exact h2
 | k+2=>simp at hs
theorem alP {n:Nat} {f:Nat→List PV} {l:List Int} (hn:n=l.length) (hf:∀k,k<n→f k=[iP (l.getD k 0)]):gN (.seq n f) (l6 l):=by
 subst hn
 refine .seq _ _ _ (fun j hj=>by rw[hf j hj]) fun j k s s' hj hs hs'=>?_
 rw[hf j hj] at hs
 have hs':[iP (l.getD j 0)][k]?=some s':=hs'
 rw[hs] at hs';cases hs';exact .refl _
theorem jJ {c:aQ} {l:List Mk} {a:Nat} (ha:a<l.length) (k:Nat):(dR c l a k).getD a ay=l.getD a ay:=by
 obtain ⟨t,ht⟩:=ow c l a k
 rw[ht,aaI,aaI,afl ha]
def y9 (n:Nat) (l:List Mk):Prop:=∀y∈l,y.2.length≤n
theorem adD {c:aQ} {l:List Mk} {a:Nat} (ha:a<l.length) (h:y9 a l):∀k,y9 (a+1) (dR c l a k)
 | 0=>fun y hy=>Nat.le_succ_of_le (h y hy)
 | k+1=>by
  have ih:=adD (c:=c) ha h k
  show y9 (a+1) (je c (dR c l a k) a k)
  unfold je
  split
  ·intro y hy
   rcases aia.1 hy with hy | hy
   ·exact ih y hy
   ·simp only[ag4] at hy
    subst hy
    show (((dR c l a k).getD a ay).2++[(k:Int)]).length≤a+1
    rw[jJ ha,aaG]
    have:=h _ (acI (bI ay ha))
    show (l.getD a ay).2.length+1≤a+1
    omega
  ·exact ih
theorem aav (m:List Bool):fQ (cB m)=fQ m:=funext fun k=>by unfold fQ;rw[sJ]
theorem aoN (m:List Bool) {k:Nat} (hk:k<m.length) (b:Bool):(cB m).set k b=cB (m.set k b):=by
 unfold cB
 rw[List.set_append_left _ _ hk,asu]
theorem abF (b:Bool):∀{l:List Int} {m:List Bool},iK m.length l→bC (cB m) l b=cB (bC m l b)
 | [],_,_=>rfl
 | k :: l,m,h=>by
  show bC ((cB m).set k.toNat b) l b=cB (bC (m.set k.toNat b) l b)
  have hk:=h k (anW ..)
  rw[aoN m (by omega) b]
  exact abF b fun x hx=>by rw[asu];exact h x (anX _ hx)
theorem ale {m:List Bool} {t:jK} (h1:iK m.length t.fr) (h2:iK m.length t.to):kr (cB m) t=cB (kr m t):=by
 unfold kr
 rw[abF false h1,abF true (by rw[dF];exact h2)]
def uX (c:aQ) (m:List Bool) (i:Nat):PV:=.tup [tZ (bf c m i).1,bP (bf c m i).2]
theorem vD:aK Tryz.prog 61 (jq (fun a:aQ×List Bool×Nat=>[kP a.1,tq a.2.1,iA a.2.2]) (fun a=>bE a.1=0∧jr a.1∧a.2.1.length=a.1.sts.length∧a.2.2<a.1.trs.length) (fun a=>uX a.1 a.2.1 a.2.2)):=by
 refine ⟨akX.1,fun ⟨c,m,i⟩ hp E vs w hg hh hA=>?_⟩
 obtain ⟨hc,ho,hm,hi⟩:=hp
 have hc:bE c=0:=hc
 have hm:m.length=c.sts.length:=hm
 have hi:i<c.trs.length:=hi
 obtain ⟨g1,g2,g3⟩:=mH hc hi
 have h24:=(iG hc).2.2.1.2
 have e1:tq (cB m)=tq m:=by unfold tq tZ;rw[aav]
 have e2:tZ (bf c (cB m) i).1=tZ (bf c m i).1∧(bf c (cB m) i).2=(bf c m i).2:=by
  unfold bf
  rw[ani]
  split
  ·refine ⟨?_,rfl⟩
   rw[ale (by rw[hm];exact g1.2) (by rw[hm];exact g2.2)]
   unfold tZ;rw[aav]
  ·exact ⟨by unfold tZ;rw[aav],rfl⟩
 have key:=akX.2 (c,cB m,i) ⟨hc,ho,oz (by omega),hi⟩ E vs w hg hh (by
  show jR E vs [kP c,tq (cB m),iA i]
  rw[e1];exact hA)
 refine key.mono fun e w' ⟨v,E',h1,h2,h3⟩=>⟨v,E',h1,?_,h3⟩
 have:PV.tup [tZ (bf c (cB m) i).1,bP (bf c (cB m) i).2]=uX c m i:=by unfold uX;rw[e2.1,e2.2]
 show aN _ v (uX c m i)
 rw[←this];exact h2
def dD (m:List Bool):List PV:=dY 24 (fQ m)
def ap0 (l:List Mk):LV:=.rw 117 24 l.length (fun k=>dD (l.getD k ay).1)
def anK (l:List Mk):LV:=.rws 29 1 l.length (fun k=>[l6 (l.getD k ay).2])
def xE (l:List Mk):MK→Option PV
 | .bools b=>if l.any (fun y=>decide (cB y.1=b)) then some (bP true) else none
 | _=>none
def knO (l:List Mk):Ob:=.map (.bools 24) l.length (xE l)
theorem amm {a b:List Bool} (hl:a.length=b.length) (h:cB a=cB b):a=b:=by
 unfold cB at h
 rw[hl] at h
 exact (List.append_inj' h rfl).1
theorem adp {l:List Mk} {m:List Bool} (hl:∀y∈l,y.1.length=m.length):xE l (.bools (cB m))=if kJ l m then some (bP true) else none:=by
 unfold xE kJ
 have:(l.any fun y=>decide (cB y.1=cB m))=l.any fun y=>decide (y.1=m):=by
  refine aru.2 ?_
  simp only[arw,decide_eq_true_eq]
  exact ⟨fun ⟨y,hy,h⟩=>⟨y,hy,amm (hl y hy) h⟩,fun ⟨y,hy,h⟩=>⟨y,hy,by rw[h]⟩⟩
 show (if (l.any fun y=>decide (cB y.1=cB m))=true then some (bP true) else none)=_
 rw[this]
theorem aU (l:List Mk) (x:Mk) (k:MK):nQ (xE l) (.bools (cB x.1)) (bP true) k=xE (l++[x]) k:=by
 classical
 unfold nQ
 split
 ·rename_i h;subst h
  show some (bP true)=if ((l++[x]).any fun y=>decide (cB y.1=cB x.1))=true then some (bP true) else none
  rw[if_pos (by simp)]
 ·rename_i h
  cases k with
  | bools b=>
   unfold xE
   have:decide (cB x.1=b)=false:=decide_eq_false fun e=>h (by rw[e])
   simp only[asW,asJ,as9,this,ash]
  | int a=>rfl
  | str a=>rfl
def afv (l:List Mk):PV:=.seq l.length (fun k=>dD (l.getD k ay).1)
def amA (l:List Mk):PV:=.seq l.length (fun k=>[l6 (l.getD k ay).2])
def wL (c:aQ):PV:=match pJ c with
 | some l=>.tup [afv l,amA l,iP 0]
 | none=>.tup [afv [],amA [],iP 12]
theorem ah8 {n:Nat} (h:0<n) (k:Nat):(lq n).getD k false=(k==0):=by
 unfold lq
 rw[aaI,asy]
 by_cases e:k=0
 ·subst e;rw[if_pos rfl,if_pos (by rw[ar9];exact h)];rfl
 ·rw[if_neg (fun h=>e h.symm),asB,show (k==0)=false by simpa using e]
  split<;>rfl
theorem ahU {n:Nat} (h:0<n):fQ (lq n)=fQ (lq 1):=funext fun k=>by unfold fQ;rw[ah8 h,ah8 (by decide)]
theorem acG (m:List Bool):takeN 24 (dJ 0 (dD m))=some (dY 24 (fQ m)):=wU 24 (fQ m)
theorem aV (a:List Mk) (x:Mk) {g:Nat→List PV} (hg:g 0=dD x.1):∀k,k<a.length+1→bQ a.length (fun k=>dD (a.getD k ay).1) g k=dD ((a++[x]).getD k ay).1:=by
 intro k hk
 unfold bQ
 by_cases h:k<a.length
 ·rw[if_pos h]
  show dD (a.getD k ay).1=_
  rw[aaI,aaI,afl h]
 ·obtain rfl:k=a.length:=by omega
  rw[if_neg h,ar8,hg,aaI,afN (agv _),ar8];rfl
theorem abj {u u':PV} (h:gN u u'):bM [u] [u']:=by
 refine ⟨rfl,fun k s s' hs hs'=>?_⟩
 match k with
 | 0=>cases hs;cases hs';exact h
 | k+1=>simp at hs
theorem aW (a:List Mk) (x:Mk) {v:PV} (hv:gN v (l6 x.2)):∀k,k<a.length+1→bM (bQ a.length (fun k=>[l6 (a.getD k ay).2]) (bg 1 [v]) k) [l6 ((a++[x]).getD k ay).2]:=by
 intro k hk
 unfold bQ
 by_cases h:k<a.length
 ·rw[if_pos h]
  refine bM.of ?_
  show [l6 (a.getD k ay).2]=_
  rw[aaI,aaI,afl h]
 ·obtain rfl:k=a.length:=by omega
  rw[if_neg h,ar8,aaI,afN (agv _),ar8]
  exact abj hv
theorem dB {l:List Int} (h:l.length=0) (k:Nat):gN (.seq 1 (bg 1 [iP (k:Int)])) (l6 (l++[(k:Int)])):=by
 obtain rfl:=apC.1 h
 exact alP rfl fun j hj=>by
  obtain rfl:j=0:=by omega
  rfl
theorem bV (l:List Int) (k:Nat):gN (.seq (0+l.length+1) (bQ (0+l.length) (bQ 0 (bg 1 []) (fun j=>[iP (l.getD j 0)])) (bg 1 [iP (k:Int)]))) (l6 (l++[(k:Int)])):=by
 refine alP (by rw[aaG];simp) fun j hj=>adw (a:=l) (b:=[(k:Int)]) (aip _) (fun j hj=>aeS (n:=l.length) j (by omega)) (fun j hj=>?_) j (by rw[aaG];show j<l.length+1;omega)
 have hj:j<1:=hj
 obtain rfl:j=0:=by omega
 rfl
theorem aom:xE []=fun _=>none:=funext fun k=>by cases k<;>rfl
theorem afT {l:List Mk} {x:Mk} (hl:∀y∈l,y.1.length=x.1.length) (h:kJ l x.1=false):xE l (.bools (cB x.1))=none:=by
 rw[adp hl,if_neg (by rw[h];decide)]
set_option maxHeartbeats 16000000 in
theorem ajt:aK Tryz.prog 124 (jq (fun c:aQ=>[kP c]) (fun c=>bE c=0∧jr c) wL):=by
 refine iY [63,3000066] ?_
 refine aX (Tb:=tab) mixed aB Tryz.func124 rfl rfl ?_
 rintro (c:aQ) hpre
 refine ai (ai rfl (ai rfl rfl)) ?_
 obtain ⟨hc,ho⟩:=hpre
 have hc:bE c=0:=hc
 have ho:jr c:=ho
 obtain ⟨_,_,⟨b3,b4⟩,b5,_⟩:=iG hc
 refine ai (ai (by decide) (by decide)) ?_
 refine ai (by decide) (ei (fQ (lq c.sts.length)) (ai (by rw[ahU b3];rfl) ?_))
 refine ai rfl (ei (cB (lq c.sts.length)) (ai (ai (oz (by unfold lq;rw[asu,ar9];exact b4)) (fun k _=>by rw[sJ];rfl)) ?_))
 refine ei 1 (ai (ai (fun _=>rfl) (fun _ h=>by cases h)) ?_)
 refine ei (bF.inv { X:=Nat×List Mk,up:=fun x=>[(8,.s (iA x.1)),(5,ap0 x.2),(6,anK x.2)],uo:=fun x=>[⟨3,0,[.ob (knO x.2)]⟩],inv:=fun x=>x.1≤x.2.length∧x.2.length≤16384∧(l7 c x.2∧y9 x.1 x.2)∧mM c (16385-x.1) x.2 x.1=pJ c,meas:=fun x=>16385-x.1,x0:=(0,mk1 c) }) ?_
 refine ai (ai (ai (by exact (a4 (ai rfl rfl))) (ai ?_ ?_)) ?_) (ai ?_ ?_)
 ·refine (ai (ai (ai (fun _=>rfl) (iE (by simp only[zz,reduceCtorEq];rfl))) rfl) (ai (ai rfl (ai rfl (ai rfl ?_))) (ai rfl (ai rfl (ai rfl ?_)))))
  ·intro k hk
   obtain rfl:k=0:=by omega
   show _=dD (lq c.sts.length)
   unfold dD;rw[ahU b3];rfl
  ·intro k hk
   have hk:k<1:=hk
   obtain rfl:k=0:=by omega
   exact abj (.nil _)
 ·refine (ai (ai rfl (ai rfl ?_)) trivial)
  intro k
  rw[←aom]
  exact aU [] (lq c.sts.length,[]) k
 ·rfl
 ·exact ⟨aeu _,by show 1≤16384;decide,⟨abC c,fun y hy=>by simp only[mk1,ag4] at hy;subst hy;exact aeu _⟩,rfl⟩
 rintro ⟨a,l⟩ ⟨hal,hll,⟨hg,hwl⟩,hr⟩
 have hal:a≤l.length:=hal
 have hll:l.length≤16384:=hll
 have hg:l7 c l:=hg
 have hwl:y9 a l:=hwl
 have hr:mM c (16385-a) l a=pJ c:=hr
 refine ah (p:=a<l.length) (au (by dsimp only;omega)) (fun h1=>?_) (fun h1=>?_)
 ·refine ei (bF.inv { X:=Nat,up:=fun k=>[(29,.s (iA k)),(5,ap0 (dR c l a k)),(6,anK (dR c l a k))],uo:=fun k=>[⟨3,0,[.ob (knO (dR c l a k))]⟩],inv:=fun k=>k≤c.trs.length∧((dR c l a k).length≤16384),meas:=fun k=>c.trs.length-k,x0:=0 }) ?_
  refine ai (ai (ai (by exact (a4 (ai rfl rfl))) (ai ?_ ?_)) rfl) (ai (ai (aeu _) ?_) ?_)
  ·refine (ai (ai (ai (fun _=>rfl) (iE (by simp only[zz,reduceCtorEq];rfl))) rfl) (ai (ai rfl (ai rfl (ai rfl (fun _ _=>rfl)))) (ai rfl (ai rfl (ai rfl ?_)))))
   exact fun k _=>bM.rfl' _
  ·exact (ai (ai rfl (ai rfl (fun _=>rfl))) trivial)
  ·exact hll
  intro (k:Nat) ⟨hk,hkl⟩
  have hgk:=good_row hg h1 hk
  have hways:=adD (c:=c) h1 hwl k
  obtain ⟨t,ht⟩:=ow c l a k
  have hak:a<(dR c l a k).length:=by rw[ht,aaG];omega
  refine ah (p:=k<c.trs.length) (au (by omega)) (fun h2=>?_) (fun h2=>?_)
  ·have hst:dR c l a (k+1)=je c (dR c l a k) a k:=rfl
   have hrun:16384<(dR c l a (k+1)).length→pJ c=none:=fun h=>by
    rw[←hr,show 16385-a=(16384-a)+1 by omega]
    exact amJ h1 (show k+1≤c.trs.length from h2) h
   generalize dR c l a k=L at *
   have hkl:L.length≤16384:=hkl
   have hga:=hgk _ (acI (bI ay hak))
   have hw:=hways _ (acI (bI ay hak))
   obtain ⟨q1,q2,q3⟩:=mH hc h2
   have hto:=aap ho h2
   have hnl:(aC c L a k).1.length=c.sts.length:=by
    show (kr _ _).length=_
    unfold kr;rw[dF,dF];exact hga.1
   have hln:∀y∈L,y.1.length=(aC c L a k).1.length:=fun y hy=>by rw[hnl];exact (hgk y hy).1
   refine ei (.one 0 (.one 1 (.one 2 (.one 3 (.one 4 (.one 5 (.alt 6 (.one 7 (.one 8 (.one 9 (.one 10 (.one 11 (.one 12 .done)))))) (.alt 10 (.one 6 (.one 7 (.one 8 (.one 9 (.one 11 (.one 12 .done)))))) .stop)))))))) (ai (by kernel_rfl) ?_)
   refine ai (ai (aa1 _) (by show (a:Int)<(L.length:Int);omega)) ?_
   refine ai (by show a<L.length;exact hak) (ei (fQ (L.getD a ay).1) (ai (acG _) ?_))
   refine ai ?_ (ai ?_ trivial)
   ·refine ei _ (ai (vD) (ei ((c,(L.getD a ay).1,k)) (ei [] (ai (a4 (ai (fun _=>Or.inl rfl) (ai nof (Or.inl rfl)))) (ai (by exact (ai (ai rfl (ai (ai rfl (fun _ _=>rfl)) (ai (ai rfl (fun _ _=>rfl)) (ai rfl (fun _ _=>rfl))))) (ai (ai rfl (fun _ _=>rfl)) rfl))) (ai trivial (ai (⟨hc,ho,hga.1,h2⟩) ?_)))))))
    refine aZ (b:=!(bf c (L.getD a ay).1 k).2) rfl (fun h3=>?_) (fun h3=>?_)
    ·have h3:allM (L.getD a ay).1 (gP c k).fr=false:=by
      have h3:(bf c (L.getD a ay).1 k).2=false:=by simpa using h3
      unfold bf at h3
      split at h3
      ·cases h3
      ·rename_i h;exact ar6.2 h
     have e:dR c l a (k+1)=L:=by rw[hst];unfold je adds;rw[h3];simp
     refine ei (k+1) (ai (ai rfl rfl) (ai (ai (ai rfl (ai (ai rfl rfl) (ai (ai rfl rfl) (ai (ai (ai (ai (fun _=>rfl) (aO (by omega))) rfl) (ai (ai rfl (ai rfl (ai ?_ ?_))) (ai rfl (ai rfl (ai ?_ ?_))))) (ai (ai rfl (ai ?_ ?_)) trivial))))) rfl) (ai (ai (iL (by omega)) ?_) (iM (by omega)))))
     all_goals rw[e]
     ·exact fun _ _=>rfl
     ·exact fun k _=>bM.rfl' _
     ·exact fun _=>rfl
     ·exact hkl
    have h3:allM (L.getD a ay).1 (gP c k).fr=true:=by
     have h3:(bf c (L.getD a ay).1 k).2=true:=by simpa using h3
     unfold bf at h3
     split at h3
     ·assumption
     ·cases h3
    have hcan:(bf c (L.getD a ay).1 k).1=(aC c L a k).1:=by unfold bf;exact congrArg Prod.fst (if_pos h3)
    have hkey:∀q,q<24→fQ (bf c (L.getD a ay).1 k).1 q=.val (.bool ((cB (aC c L a k).1).getD q false)):=fun q _=>by rw[hcan,sJ];rfl
    refine ai (ai rfl rfl) (ei (cB (aC c L a k).1) (ai (ai (oz (by omega)) hkey) ?_))
    refine ei (bP (kJ L (aC c L a k).1)) (ei (kJ L (aC c L a k).1) (ai ?_ ?_))
    ·show (∀d',xE L (.bools (cB (aC c L a k).1))=some d'→_)∧(xE L (.bools (cB (aC c L a k).1))=none→_)
     rw[adp hln]
     cases kJ L (aC c L a k).1
     ·exact ⟨fun d' h=>by simp at h,fun _=>⟨rfl,rfl⟩⟩
     ·exact ⟨fun d' h=>by simp at h;exact ⟨h.symm,rfl⟩,fun h=>by simp at h⟩
    refine aZ (b:=kJ L (aC c L a k).1) rfl (fun h4=>?_) (fun h4=>?_)
    ·have e:dR c l a (k+1)=L:=by rw[hst];unfold je adds;rw[h4];simp
     refine ei (k+1) (ai (ai rfl rfl) (ai (ai (ai rfl (ai (ai rfl rfl) (ai (ai rfl rfl) (ai (ai (ai (ai (fun _=>rfl) (aO (by omega))) rfl) (ai (ai rfl (ai rfl (ai ?_ ?_))) (ai rfl (ai rfl (ai ?_ ?_))))) (ai (ai rfl (ai ?_ ?_)) trivial))))) rfl) (ai (ai (iL (by omega)) ?_) (iM (by omega)))))
     all_goals rw[e]
     ·exact fun _ _=>rfl
     ·exact fun k _=>bM.rfl' _
     ·exact fun _=>rfl
     ·exact hkl
    have hn:adds c L a k=true:=by unfold adds;rw[h3,h4];rfl
    have e:dR c l a (k+1)=L++[aC c L a k]:=by rw[hst];unfold je;rw[if_pos hn]
    refine ah (p:=L.length=16384) (gV (by omega)) (fun h5=>?_) (fun h5=>?_)
    ·refine ai (ai (fun h=>absurd (show false=true from h) (by decide)) ?_) trivial
     show ak _ (wL c)
     rw[wL,hrun (by rw[e,aaG];show 16384<L.length+1;omega)]
     exact (ai rfl (ai rfl rfl))
    refine ai rfl (ei (cB (aC c L a k).1) (ai (ai (oz (by omega)) hkey) ?_))
    refine ei (L.length+1) (ai (ai (fun _=>rfl) (fun d hd=>absurd ((afT hln h4).symm.trans hd) (by simp))) ?_)
    refine ei (.one 0 (.one 1 (.one 4 (.one 5 (.one 6 (.one 7 (.one 10 (.alt 2 (.alt 3 (.one 8 (.altw 9 (.one 11 (.one 12 (.one 13 (.one 14 (.one 15 (.one 16 .done)))))) (.alt 11 (.wr 9 (.one 12 (.one 13 (.one 14 (.one 15 (.one 16 .done)))))) .stop))) (.alt 8 (.alt 3 (.altw 9 (.one 11 (.one 12 (.one 13 (.one 14 (.one 15 (.one 16 .done)))))) (.alt 11 (.wr 9 (.one 12 (.one 13 (.one 14 (.one 15 (.one 16 .done)))))) .stop)) (.alt 11 (.one 3 (.wr 9 (.one 12 (.one 13 (.one 14 (.one 15 (.one 16 .done))))))) .stop)) (.alt 11 (.alt 3 (.one 8 (.wr 9 (.one 12 (.one 13 (.one 14 (.one 15 (.one 16 .done))))))) (.alt 8 (.one 3 (.wr 9 (.one 12 (.one 13 (.one 14 (.one 15 (.one 16 .done))))))) .stop)) .stop))) (.alt 8 (.alt 2 (.alt 3 (.altw 9 (.one 11 (.one 12 (.one 13 (.one 14 (.one 15 (.one 16 .done)))))) (.alt 11 (.wr 9 (.one 12 (.one 13 (.one 14 (.one 15 (.one 16 .done)))))) .stop)) (.alt 11 (.one 3 (.wr 9 (.one 12 (.one 13 (.one 14 (.one 15 (.one 16 .done))))))) .stop)) (.alt 11 (.one 2 (.one 3 (.wr 9 (.one 12 (.one 13 (.one 14 (.one 15 (.one 16 .done)))))))) .stop)) (.alt 11 (.alt 2 (.alt 3 (.one 8 (.wr 9 (.one 12 (.one 13 (.one 14 (.one 15 (.one 16 .done))))))) (.alt 8 (.one 3 (.wr 9 (.one 12 (.one 13 (.one 14 (.one 15 (.one 16 .done))))))) .stop)) (.alt 8 (.one 2 (.one 3 (.wr 9 (.one 12 (.one 13 (.one 14 (.one 15 (.one 16 .done)))))))) .stop)) .stop)))))))))) (ai (by kernel_rfl) ?_)
    refine ai (ai (aa1 _) (by show (a:Int)<(L.length:Int);omega)) ?_
    refine ai ?_ ?_
    ·refine ai ?_ ?_
     ·refine ai (mxL (n:=L.length+1) (by omega) (by decide)) (ai (lt1 rfl) ?_)
      refine ai (by show a<L.length;exact hak) ?_
      refine ai ?_ ?_
      ·refine eY mixed aB Tryz.func63 rfl rfl ?_
       refine ai rfl ?_
       intro b hb
       refine aY (fun hb0=>?_) (fun hb0=>?_)
       ·have hb1:(L.getD a ay).2.length=0:=hb hb0
        refine ai (ai (by decide) (by decide)) (ai (aI 1 rfl) ?_)
        refine ai (mxL (n:=L.length+1) (by omega) (by decide)) (ai (aI 1 rfl) ?_)
        refine ei (k+1) (ai (ai rfl rfl) (ai (ai (ai rfl (ai (ai rfl rfl) (ai (ai rfl rfl) (ai (ai (ai (ai (fun _=>rfl) (aO (by omega))) rfl) (ai (ai rfl (ai rfl (ai ?_ ?_))) (ai rfl (ai rfl (ai ?_ ?_))))) (ai (ai rfl (ai ?_ ?_)) trivial))))) rfl) (ai (ai (iL (by omega)) ?_) (iM (by omega)))))
        all_goals rw[e]
        ·rw[aaG];rfl
        ·exact aV L (aC c L a k) (show dD (bf c (L.getD a ay).1 k).1=_ by rw[hcan])
        ·rw[aaG];rfl
        ·exact aW L (aC c L a k) (dB hb1 k)
        ·rw[aaG];rfl
        ·exact aU L (aC c L a k)
        ·rw[aaG];show L.length+1≤16384;omega
       ·refine ai (mxL (n:=0+(L.getD a ay).2.length) (by omega) (by decide)) (ai (fun _ _=>rfl) ?_)
        refine ai (mxL (n:=0+(L.getD a ay).2.length+1) (by omega) (by decide)) (ai (aI 1 rfl) ?_)
        refine ai (mxL (n:=L.length+1) (by omega) (by decide)) (ai (aI 1 rfl) ?_)
        refine ei (k+1) (ai (ai rfl rfl) (ai (ai (ai rfl (ai (ai rfl rfl) (ai (ai rfl rfl) (ai (ai (ai (ai (fun _=>rfl) (aO (by omega))) rfl) (ai (ai rfl (ai rfl (ai ?_ ?_))) (ai rfl (ai rfl (ai ?_ ?_))))) (ai (ai rfl (ai ?_ ?_)) trivial))))) rfl) (ai (ai (iL (by omega)) ?_) (iM (by omega)))))
        all_goals rw[e]
        ·rw[aaG];rfl
        ·exact aV L (aC c L a k) (show dD (bf c (L.getD a ay).1 k).1=_ by rw[hcan])
        ·rw[aaG];rfl
        ·exact aW L (aC c L a k) (bV (L.getD a ay).2 k)
        ·rw[aaG];rfl
        ·exact aU L (aC c L a k)
        ·rw[aaG];show L.length+1≤16384;omega
      refine ai ?_ trivial
      refine eY mixed aB Tryz.func63 rfl rfl ?_
      refine ai rfl ?_
      intro b hb
      refine aY (fun hb0=>?_) (fun hb0=>?_)
      ·have hb1:(L.getD a ay).2.length=0:=hb hb0
       refine ai (ai (by decide) (by decide)) (ai (aI 1 rfl) ?_)
       refine ai (mxL (n:=L.length+1) (by omega) (by decide)) (ai (aI 1 rfl) ?_)
       refine ei (k+1) (ai (ai rfl rfl) (ai (ai (ai rfl (ai (ai rfl rfl) (ai (ai rfl rfl) (ai (ai (ai (ai (fun _=>rfl) (aO (by omega))) rfl) (ai (ai rfl (ai rfl (ai ?_ ?_))) (ai rfl (ai rfl (ai ?_ ?_))))) (ai (ai rfl (ai ?_ ?_)) trivial))))) rfl) (ai (ai (iL (by omega)) ?_) (iM (by omega)))))
       all_goals rw[e]
       ·rw[aaG];rfl
       ·exact aV L (aC c L a k) (show dD (bf c (L.getD a ay).1 k).1=_ by rw[hcan])
       ·rw[aaG];rfl
       ·exact aW L (aC c L a k) (dB hb1 k)
       ·rw[aaG];rfl
       ·exact aU L (aC c L a k)
       ·rw[aaG];show L.length+1≤16384;omega
      ·refine ai (mxL (n:=0+(L.getD a ay).2.length) (by omega) (by decide)) (ai (fun _ _=>rfl) ?_)
       refine ai (mxL (n:=0+(L.getD a ay).2.length+1) (by omega) (by decide)) (ai (aI 1 rfl) ?_)
       refine ai (mxL (n:=L.length+1) (by omega) (by decide)) (ai (aI 1 rfl) ?_)
       refine ei (k+1) (ai (ai rfl rfl) (ai (ai (ai rfl (ai (ai rfl rfl) (ai (ai rfl rfl) (ai (ai (ai (ai (fun _=>rfl) (aO (by omega))) rfl) (ai (ai rfl (ai rfl (ai ?_ ?_))) (ai rfl (ai rfl (ai ?_ ?_))))) (ai (ai rfl (ai ?_ ?_)) trivial))))) rfl) (ai (ai (iL (by omega)) ?_) (iM (by omega)))))
       all_goals rw[e]
       ·rw[aaG];rfl
       ·exact aV L (aC c L a k) (show dD (bf c (L.getD a ay).1 k).1=_ by rw[hcan])
       ·rw[aaG];rfl
       ·exact aW L (aC c L a k) (bV (L.getD a ay).2 k)
       ·rw[aaG];rfl
       ·exact aU L (aC c L a k)
       ·rw[aaG];show L.length+1≤16384;omega
     refine ai ?_ ?_
     ·refine ai (by show a<L.length;exact hak) ?_
      refine ai ?_ ?_
      ·refine ai (mxL (n:=L.length+1) (by omega) (by decide)) (ai (lt1 rfl) ?_)
       refine ai ?_ ?_
       ·refine eY mixed aB Tryz.func63 rfl rfl ?_
        refine ai rfl ?_
        intro b hb
        refine aY (fun hb0=>?_) (fun hb0=>?_)
        ·have hb1:(L.getD a ay).2.length=0:=hb hb0
         refine ai (ai (by decide) (by decide)) (ai (aI 1 rfl) ?_)
         refine ai (mxL (n:=L.length+1) (by omega) (by decide)) (ai (aI 1 rfl) ?_)
         refine ei (k+1) (ai (ai rfl rfl) (ai (ai (ai rfl (ai (ai rfl rfl) (ai (ai rfl rfl) (ai (ai (ai (ai (fun _=>rfl) (aO (by omega))) rfl) (ai (ai rfl (ai rfl (ai ?_ ?_))) (ai rfl (ai rfl (ai ?_ ?_))))) (ai (ai rfl (ai ?_ ?_)) trivial))))) rfl) (ai (ai (iL (by omega)) ?_) (iM (by omega)))))
         all_goals rw[e]
         ·rw[aaG];rfl
         ·exact aV L (aC c L a k) (show dD (bf c (L.getD a ay).1 k).1=_ by rw[hcan])
         ·rw[aaG];rfl
         ·exact aW L (aC c L a k) (dB hb1 k)
         ·rw[aaG];rfl
         ·exact aU L (aC c L a k)
         ·rw[aaG];show L.length+1≤16384;omega
        ·refine ai (mxL (n:=0+(L.getD a ay).2.length) (by omega) (by decide)) (ai (fun _ _=>rfl) ?_)
         refine ai (mxL (n:=0+(L.getD a ay).2.length+1) (by omega) (by decide)) (ai (aI 1 rfl) ?_)
         refine ai (mxL (n:=L.length+1) (by omega) (by decide)) (ai (aI 1 rfl) ?_)
         refine ei (k+1) (ai (ai rfl rfl) (ai (ai (ai rfl (ai (ai rfl rfl) (ai (ai rfl rfl) (ai (ai (ai (ai (fun _=>rfl) (aO (by omega))) rfl) (ai (ai rfl (ai rfl (ai ?_ ?_))) (ai rfl (ai rfl (ai ?_ ?_))))) (ai (ai rfl (ai ?_ ?_)) trivial))))) rfl) (ai (ai (iL (by omega)) ?_) (iM (by omega)))))
         all_goals rw[e]
         ·rw[aaG];rfl
         ·exact aV L (aC c L a k) (show dD (bf c (L.getD a ay).1 k).1=_ by rw[hcan])
         ·rw[aaG];rfl
         ·exact aW L (aC c L a k) (bV (L.getD a ay).2 k)
         ·rw[aaG];rfl
         ·exact aU L (aC c L a k)
         ·rw[aaG];show L.length+1≤16384;omega
       refine ai ?_ trivial
       refine eY mixed aB Tryz.func63 rfl rfl ?_
       refine ai rfl ?_
       intro b hb
       refine aY (fun hb0=>?_) (fun hb0=>?_)
       ·have hb1:(L.getD a ay).2.length=0:=hb hb0
        refine ai (ai (by decide) (by decide)) (ai (aI 1 rfl) ?_)
        refine ai (mxL (n:=L.length+1) (by omega) (by decide)) (ai (aI 1 rfl) ?_)
        refine ei (k+1) (ai (ai rfl rfl) (ai (ai (ai rfl (ai (ai rfl rfl) (ai (ai rfl rfl) (ai (ai (ai (ai (fun _=>rfl) (aO (by omega))) rfl) (ai (ai rfl (ai rfl (ai ?_ ?_))) (ai rfl (ai rfl (ai ?_ ?_))))) (ai (ai rfl (ai ?_ ?_)) trivial))))) rfl) (ai (ai (iL (by omega)) ?_) (iM (by omega)))))
        all_goals rw[e]
        ·rw[aaG];rfl
        ·exact aV L (aC c L a k) (show dD (bf c (L.getD a ay).1 k).1=_ by rw[hcan])
        ·rw[aaG];rfl
        ·exact aW L (aC c L a k) (dB hb1 k)
        ·rw[aaG];rfl
        ·exact aU L (aC c L a k)
        ·rw[aaG];show L.length+1≤16384;omega
       ·refine ai (mxL (n:=0+(L.getD a ay).2.length) (by omega) (by decide)) (ai (fun _ _=>rfl) ?_)
        refine ai (mxL (n:=0+(L.getD a ay).2.length+1) (by omega) (by decide)) (ai (aI 1 rfl) ?_)
        refine ai (mxL (n:=L.length+1) (by omega) (by decide)) (ai (aI 1 rfl) ?_)
        refine ei (k+1) (ai (ai rfl rfl) (ai (ai (ai rfl (ai (ai rfl rfl) (ai (ai rfl rfl) (ai (ai (ai (ai (fun _=>rfl) (aO (by omega))) rfl) (ai (ai rfl (ai rfl (ai ?_ ?_))) (ai rfl (ai rfl (ai ?_ ?_))))) (ai (ai rfl (ai ?_ ?_)) trivial))))) rfl) (ai (ai (iL (by omega)) ?_) (iM (by omega)))))
        all_goals rw[e]
        ·rw[aaG];rfl
        ·exact aV L (aC c L a k) (show dD (bf c (L.getD a ay).1 k).1=_ by rw[hcan])
        ·rw[aaG];rfl
        ·exact aW L (aC c L a k) (bV (L.getD a ay).2 k)
        ·rw[aaG];rfl
        ·exact aU L (aC c L a k)
        ·rw[aaG];show L.length+1≤16384;omega
      refine ai ?_ trivial
      refine ai (mxL (n:=L.length+1) (by omega) (by decide)) (ai (lt1 rfl) ?_)
      refine eY mixed aB Tryz.func63 rfl rfl ?_
      refine ai rfl ?_
      intro b hb
      refine aY (fun hb0=>?_) (fun hb0=>?_)
      ·have hb1:(L.getD a ay).2.length=0:=hb hb0
       refine ai (ai (by decide) (by decide)) (ai (aI 1 rfl) ?_)
       refine ai (mxL (n:=L.length+1) (by omega) (by decide)) (ai (aI 1 rfl) ?_)
       refine ei (k+1) (ai (ai rfl rfl) (ai (ai (ai rfl (ai (ai rfl rfl) (ai (ai rfl rfl) (ai (ai (ai (ai (fun _=>rfl) (aO (by omega))) rfl) (ai (ai rfl (ai rfl (ai ?_ ?_))) (ai rfl (ai rfl (ai ?_ ?_))))) (ai (ai rfl (ai ?_ ?_)) trivial))))) rfl) (ai (ai (iL (by omega)) ?_) (iM (by omega)))))
       all_goals rw[e]
       ·rw[aaG];rfl
       ·exact aV L (aC c L a k) (show dD (bf c (L.getD a ay).1 k).1=_ by rw[hcan])
       ·rw[aaG];rfl
       ·exact aW L (aC c L a k) (dB hb1 k)
       ·rw[aaG];rfl
       ·exact aU L (aC c L a k)
       ·rw[aaG];show L.length+1≤16384;omega
      ·refine ai (mxL (n:=0+(L.getD a ay).2.length) (by omega) (by decide)) (ai (fun _ _=>rfl) ?_)
       refine ai (mxL (n:=0+(L.getD a ay).2.length+1) (by omega) (by decide)) (ai (aI 1 rfl) ?_)
       refine ai (mxL (n:=L.length+1) (by omega) (by decide)) (ai (aI 1 rfl) ?_)
       refine ei (k+1) (ai (ai rfl rfl) (ai (ai (ai rfl (ai (ai rfl rfl) (ai (ai rfl rfl) (ai (ai (ai (ai (fun _=>rfl) (aO (by omega))) rfl) (ai (ai rfl (ai rfl (ai ?_ ?_))) (ai rfl (ai rfl (ai ?_ ?_))))) (ai (ai rfl (ai ?_ ?_)) trivial))))) rfl) (ai (ai (iL (by omega)) ?_) (iM (by omega)))))
       all_goals rw[e]
       ·rw[aaG];rfl
       ·exact aV L (aC c L a k) (show dD (bf c (L.getD a ay).1 k).1=_ by rw[hcan])
       ·rw[aaG];rfl
       ·exact aW L (aC c L a k) (bV (L.getD a ay).2 k)
       ·rw[aaG];rfl
       ·exact aU L (aC c L a k)
       ·rw[aaG];show L.length+1≤16384;omega
     refine ai ?_ trivial
     refine ai ?_ ?_
     ·refine ai (mxL (n:=L.length+1) (by omega) (by decide)) (ai (lt1 rfl) ?_)
      refine ai (by show a<L.length;exact hak) ?_
      refine eY mixed aB Tryz.func63 rfl rfl ?_
      refine ai rfl ?_
      intro b hb
      refine aY (fun hb0=>?_) (fun hb0=>?_)
      ·have hb1:(L.getD a ay).2.length=0:=hb hb0
       refine ai (ai (by decide) (by decide)) (ai (aI 1 rfl) ?_)
       refine ai (mxL (n:=L.length+1) (by omega) (by decide)) (ai (aI 1 rfl) ?_)
       refine ei (k+1) (ai (ai rfl rfl) (ai (ai (ai rfl (ai (ai rfl rfl) (ai (ai rfl rfl) (ai (ai (ai (ai (fun _=>rfl) (aO (by omega))) rfl) (ai (ai rfl (ai rfl (ai ?_ ?_))) (ai rfl (ai rfl (ai ?_ ?_))))) (ai (ai rfl (ai ?_ ?_)) trivial))))) rfl) (ai (ai (iL (by omega)) ?_) (iM (by omega)))))
       all_goals rw[e]
       ·rw[aaG];rfl
       ·exact aV L (aC c L a k) (show dD (bf c (L.getD a ay).1 k).1=_ by rw[hcan])
       ·rw[aaG];rfl
       ·exact aW L (aC c L a k) (dB hb1 k)
       ·rw[aaG];rfl
       ·exact aU L (aC c L a k)
       ·rw[aaG];show L.length+1≤16384;omega
      ·refine ai (mxL (n:=0+(L.getD a ay).2.length) (by omega) (by decide)) (ai (fun _ _=>rfl) ?_)
       refine ai (mxL (n:=0+(L.getD a ay).2.length+1) (by omega) (by decide)) (ai (aI 1 rfl) ?_)
       refine ai (mxL (n:=L.length+1) (by omega) (by decide)) (ai (aI 1 rfl) ?_)
       refine ei (k+1) (ai (ai rfl rfl) (ai (ai (ai rfl (ai (ai rfl rfl) (ai (ai rfl rfl) (ai (ai (ai (ai (fun _=>rfl) (aO (by omega))) rfl) (ai (ai rfl (ai rfl (ai ?_ ?_))) (ai rfl (ai rfl (ai ?_ ?_))))) (ai (ai rfl (ai ?_ ?_)) trivial))))) rfl) (ai (ai (iL (by omega)) ?_) (iM (by omega)))))
       all_goals rw[e]
       ·rw[aaG];rfl
       ·exact aV L (aC c L a k) (show dD (bf c (L.getD a ay).1 k).1=_ by rw[hcan])
       ·rw[aaG];rfl
       ·exact aW L (aC c L a k) (bV (L.getD a ay).2 k)
       ·rw[aaG];rfl
       ·exact aU L (aC c L a k)
       ·rw[aaG];show L.length+1≤16384;omega
     refine ai ?_ trivial
     refine ai (by show a<L.length;exact hak) ?_
     refine ai (mxL (n:=L.length+1) (by omega) (by decide)) (ai (lt1 rfl) ?_)
     refine eY mixed aB Tryz.func63 rfl rfl ?_
     refine ai rfl ?_
     intro b hb
     refine aY (fun hb0=>?_) (fun hb0=>?_)
     ·have hb1:(L.getD a ay).2.length=0:=hb hb0
      refine ai (ai (by decide) (by decide)) (ai (aI 1 rfl) ?_)
      refine ai (mxL (n:=L.length+1) (by omega) (by decide)) (ai (aI 1 rfl) ?_)
      refine ei (k+1) (ai (ai rfl rfl) (ai (ai (ai rfl (ai (ai rfl rfl) (ai (ai rfl rfl) (ai (ai (ai (ai (fun _=>rfl) (aO (by omega))) rfl) (ai (ai rfl (ai rfl (ai ?_ ?_))) (ai rfl (ai rfl (ai ?_ ?_))))) (ai (ai rfl (ai ?_ ?_)) trivial))))) rfl) (ai (ai (iL (by omega)) ?_) (iM (by omega)))))
      all_goals rw[e]
      ·rw[aaG];rfl
      ·exact aV L (aC c L a k) (show dD (bf c (L.getD a ay).1 k).1=_ by rw[hcan])
      ·rw[aaG];rfl
      ·exact aW L (aC c L a k) (dB hb1 k)
      ·rw[aaG];rfl
      ·exact aU L (aC c L a k)
      ·rw[aaG];show L.length+1≤16384;omega
     ·refine ai (mxL (n:=0+(L.getD a ay).2.length) (by omega) (by decide)) (ai (fun _ _=>rfl) ?_)
      refine ai (mxL (n:=0+(L.getD a ay).2.length+1) (by omega) (by decide)) (ai (aI 1 rfl) ?_)
      refine ai (mxL (n:=L.length+1) (by omega) (by decide)) (ai (aI 1 rfl) ?_)
      refine ei (k+1) (ai (ai rfl rfl) (ai (ai (ai rfl (ai (ai rfl rfl) (ai (ai rfl rfl) (ai (ai (ai (ai (fun _=>rfl) (aO (by omega))) rfl) (ai (ai rfl (ai rfl (ai ?_ ?_))) (ai rfl (ai rfl (ai ?_ ?_))))) (ai (ai rfl (ai ?_ ?_)) trivial))))) rfl) (ai (ai (iL (by omega)) ?_) (iM (by omega)))))
      all_goals rw[e]
      ·rw[aaG];rfl
      ·exact aV L (aC c L a k) (show dD (bf c (L.getD a ay).1 k).1=_ by rw[hcan])
      ·rw[aaG];rfl
      ·exact aW L (aC c L a k) (bV (L.getD a ay).2 k)
      ·rw[aaG];rfl
      ·exact aU L (aC c L a k)
      ·rw[aaG];show L.length+1≤16384;omega
    refine ai ?_ ?_
    ·refine ai (by show a<L.length;exact hak) ?_
     refine ai ?_ ?_
     ·refine ai ?_ ?_
      ·refine ai (mxL (n:=L.length+1) (by omega) (by decide)) (ai (lt1 rfl) ?_)
       refine ai ?_ ?_
       ·refine eY mixed aB Tryz.func63 rfl rfl ?_
        refine ai rfl ?_
        intro b hb
        refine aY (fun hb0=>?_) (fun hb0=>?_)
        ·have hb1:(L.getD a ay).2.length=0:=hb hb0
         refine ai (ai (by decide) (by decide)) (ai (aI 1 rfl) ?_)
         refine ai (mxL (n:=L.length+1) (by omega) (by decide)) (ai (aI 1 rfl) ?_)
         refine ei (k+1) (ai (ai rfl rfl) (ai (ai (ai rfl (ai (ai rfl rfl) (ai (ai rfl rfl) (ai (ai (ai (ai (fun _=>rfl) (aO (by omega))) rfl) (ai (ai rfl (ai rfl (ai ?_ ?_))) (ai rfl (ai rfl (ai ?_ ?_))))) (ai (ai rfl (ai ?_ ?_)) trivial))))) rfl) (ai (ai (iL (by omega)) ?_) (iM (by omega)))))
         all_goals rw[e]
         ·rw[aaG];rfl
         ·exact aV L (aC c L a k) (show dD (bf c (L.getD a ay).1 k).1=_ by rw[hcan])
         ·rw[aaG];rfl
         ·exact aW L (aC c L a k) (dB hb1 k)
         ·rw[aaG];rfl
         ·exact aU L (aC c L a k)
         ·rw[aaG];show L.length+1≤16384;omega
        ·refine ai (mxL (n:=0+(L.getD a ay).2.length) (by omega) (by decide)) (ai (fun _ _=>rfl) ?_)
         refine ai (mxL (n:=0+(L.getD a ay).2.length+1) (by omega) (by decide)) (ai (aI 1 rfl) ?_)
         refine ai (mxL (n:=L.length+1) (by omega) (by decide)) (ai (aI 1 rfl) ?_)
         refine ei (k+1) (ai (ai rfl rfl) (ai (ai (ai rfl (ai (ai rfl rfl) (ai (ai rfl rfl) (ai (ai (ai (ai (fun _=>rfl) (aO (by omega))) rfl) (ai (ai rfl (ai rfl (ai ?_ ?_))) (ai rfl (ai rfl (ai ?_ ?_))))) (ai (ai rfl (ai ?_ ?_)) trivial))))) rfl) (ai (ai (iL (by omega)) ?_) (iM (by omega)))))
         all_goals rw[e]
         ·rw[aaG];rfl
         ·exact aV L (aC c L a k) (show dD (bf c (L.getD a ay).1 k).1=_ by rw[hcan])
         ·rw[aaG];rfl
         ·exact aW L (aC c L a k) (bV (L.getD a ay).2 k)
         ·rw[aaG];rfl
         ·exact aU L (aC c L a k)
         ·rw[aaG];show L.length+1≤16384;omega
       refine ai ?_ trivial
       refine eY mixed aB Tryz.func63 rfl rfl ?_
       refine ai rfl ?_
       intro b hb
       refine aY (fun hb0=>?_) (fun hb0=>?_)
       ·have hb1:(L.getD a ay).2.length=0:=hb hb0
        refine ai (ai (by decide) (by decide)) (ai (aI 1 rfl) ?_)
        refine ai (mxL (n:=L.length+1) (by omega) (by decide)) (ai (aI 1 rfl) ?_)
        refine ei (k+1) (ai (ai rfl rfl) (ai (ai (ai rfl (ai (ai rfl rfl) (ai (ai rfl rfl) (ai (ai (ai (ai (fun _=>rfl) (aO (by omega))) rfl) (ai (ai rfl (ai rfl (ai ?_ ?_))) (ai rfl (ai rfl (ai ?_ ?_))))) (ai (ai rfl (ai ?_ ?_)) trivial))))) rfl) (ai (ai (iL (by omega)) ?_) (iM (by omega)))))
        all_goals rw[e]
        ·rw[aaG];rfl
        ·exact aV L (aC c L a k) (show dD (bf c (L.getD a ay).1 k).1=_ by rw[hcan])
        ·rw[aaG];rfl
        ·exact aW L (aC c L a k) (dB hb1 k)
        ·rw[aaG];rfl
        ·exact aU L (aC c L a k)
        ·rw[aaG];show L.length+1≤16384;omega
       ·refine ai (mxL (n:=0+(L.getD a ay).2.length) (by omega) (by decide)) (ai (fun _ _=>rfl) ?_)
        refine ai (mxL (n:=0+(L.getD a ay).2.length+1) (by omega) (by decide)) (ai (aI 1 rfl) ?_)
        refine ai (mxL (n:=L.length+1) (by omega) (by decide)) (ai (aI 1 rfl) ?_)
        refine ei (k+1) (ai (ai rfl rfl) (ai (ai (ai rfl (ai (ai rfl rfl) (ai (ai rfl rfl) (ai (ai (ai (ai (fun _=>rfl) (aO (by omega))) rfl) (ai (ai rfl (ai rfl (ai ?_ ?_))) (ai rfl (ai rfl (ai ?_ ?_))))) (ai (ai rfl (ai ?_ ?_)) trivial))))) rfl) (ai (ai (iL (by omega)) ?_) (iM (by omega)))))
        all_goals rw[e]
        ·rw[aaG];rfl
        ·exact aV L (aC c L a k) (show dD (bf c (L.getD a ay).1 k).1=_ by rw[hcan])
        ·rw[aaG];rfl
        ·exact aW L (aC c L a k) (bV (L.getD a ay).2 k)
        ·rw[aaG];rfl
        ·exact aU L (aC c L a k)
        ·rw[aaG];show L.length+1≤16384;omega
      refine ai ?_ trivial
      refine ai (mxL (n:=L.length+1) (by omega) (by decide)) (ai (lt1 rfl) ?_)
      refine eY mixed aB Tryz.func63 rfl rfl ?_
      refine ai rfl ?_
      intro b hb
      refine aY (fun hb0=>?_) (fun hb0=>?_)
      ·have hb1:(L.getD a ay).2.length=0:=hb hb0
       refine ai (ai (by decide) (by decide)) (ai (aI 1 rfl) ?_)
       refine ai (mxL (n:=L.length+1) (by omega) (by decide)) (ai (aI 1 rfl) ?_)
       refine ei (k+1) (ai (ai rfl rfl) (ai (ai (ai rfl (ai (ai rfl rfl) (ai (ai rfl rfl) (ai (ai (ai (ai (fun _=>rfl) (aO (by omega))) rfl) (ai (ai rfl (ai rfl (ai ?_ ?_))) (ai rfl (ai rfl (ai ?_ ?_))))) (ai (ai rfl (ai ?_ ?_)) trivial))))) rfl) (ai (ai (iL (by omega)) ?_) (iM (by omega)))))
       all_goals rw[e]
       ·rw[aaG];rfl
       ·exact aV L (aC c L a k) (show dD (bf c (L.getD a ay).1 k).1=_ by rw[hcan])
       ·rw[aaG];rfl
       ·exact aW L (aC c L a k) (dB hb1 k)
       ·rw[aaG];rfl
       ·exact aU L (aC c L a k)
       ·rw[aaG];show L.length+1≤16384;omega
      ·refine ai (mxL (n:=0+(L.getD a ay).2.length) (by omega) (by decide)) (ai (fun _ _=>rfl) ?_)
       refine ai (mxL (n:=0+(L.getD a ay).2.length+1) (by omega) (by decide)) (ai (aI 1 rfl) ?_)
       refine ai (mxL (n:=L.length+1) (by omega) (by decide)) (ai (aI 1 rfl) ?_)
       refine ei (k+1) (ai (ai rfl rfl) (ai (ai (ai rfl (ai (ai rfl rfl) (ai (ai rfl rfl) (ai (ai (ai (ai (fun _=>rfl) (aO (by omega))) rfl) (ai (ai rfl (ai rfl (ai ?_ ?_))) (ai rfl (ai rfl (ai ?_ ?_))))) (ai (ai rfl (ai ?_ ?_)) trivial))))) rfl) (ai (ai (iL (by omega)) ?_) (iM (by omega)))))
       all_goals rw[e]
       ·rw[aaG];rfl
       ·exact aV L (aC c L a k) (show dD (bf c (L.getD a ay).1 k).1=_ by rw[hcan])
       ·rw[aaG];rfl
       ·exact aW L (aC c L a k) (bV (L.getD a ay).2 k)
       ·rw[aaG];rfl
       ·exact aU L (aC c L a k)
       ·rw[aaG];show L.length+1≤16384;omega
     refine ai ?_ trivial
     refine ai (mxL (n:=L.length+1) (by omega) (by decide)) (ai (lt1 rfl) ?_)
     refine eY mixed aB Tryz.func63 rfl rfl ?_
     refine ai rfl ?_
     intro b hb
     refine aY (fun hb0=>?_) (fun hb0=>?_)
     ·have hb1:(L.getD a ay).2.length=0:=hb hb0
      refine ai (ai (by decide) (by decide)) (ai (aI 1 rfl) ?_)
      refine ai (mxL (n:=L.length+1) (by omega) (by decide)) (ai (aI 1 rfl) ?_)
      refine ei (k+1) (ai (ai rfl rfl) (ai (ai (ai rfl (ai (ai rfl rfl) (ai (ai rfl rfl) (ai (ai (ai (ai (fun _=>rfl) (aO (by omega))) rfl) (ai (ai rfl (ai rfl (ai ?_ ?_))) (ai rfl (ai rfl (ai ?_ ?_))))) (ai (ai rfl (ai ?_ ?_)) trivial))))) rfl) (ai (ai (iL (by omega)) ?_) (iM (by omega)))))
      all_goals rw[e]
      ·rw[aaG];rfl
      ·exact aV L (aC c L a k) (show dD (bf c (L.getD a ay).1 k).1=_ by rw[hcan])
      ·rw[aaG];rfl
      ·exact aW L (aC c L a k) (dB hb1 k)
      ·rw[aaG];rfl
      ·exact aU L (aC c L a k)
      ·rw[aaG];show L.length+1≤16384;omega
     ·refine ai (mxL (n:=0+(L.getD a ay).2.length) (by omega) (by decide)) (ai (fun _ _=>rfl) ?_)
      refine ai (mxL (n:=0+(L.getD a ay).2.length+1) (by omega) (by decide)) (ai (aI 1 rfl) ?_)
      refine ai (mxL (n:=L.length+1) (by omega) (by decide)) (ai (aI 1 rfl) ?_)
      refine ei (k+1) (ai (ai rfl rfl) (ai (ai (ai rfl (ai (ai rfl rfl) (ai (ai rfl rfl) (ai (ai (ai (ai (fun _=>rfl) (aO (by omega))) rfl) (ai (ai rfl (ai rfl (ai ?_ ?_))) (ai rfl (ai rfl (ai ?_ ?_))))) (ai (ai rfl (ai ?_ ?_)) trivial))))) rfl) (ai (ai (iL (by omega)) ?_) (iM (by omega)))))
      all_goals rw[e]
      ·rw[aaG];rfl
      ·exact aV L (aC c L a k) (show dD (bf c (L.getD a ay).1 k).1=_ by rw[hcan])
      ·rw[aaG];rfl
      ·exact aW L (aC c L a k) (bV (L.getD a ay).2 k)
      ·rw[aaG];rfl
      ·exact aU L (aC c L a k)
      ·rw[aaG];show L.length+1≤16384;omega
    refine ai ?_ trivial
    refine ai ?_ ?_
    ·refine ai ?_ ?_
     ·refine ai (mxL (n:=L.length+1) (by omega) (by decide)) (ai (lt1 rfl) ?_)
      refine ai (by show a<L.length;exact hak) ?_
      refine eY mixed aB Tryz.func63 rfl rfl ?_
      refine ai rfl ?_
      intro b hb
      refine aY (fun hb0=>?_) (fun hb0=>?_)
      ·have hb1:(L.getD a ay).2.length=0:=hb hb0
       refine ai (ai (by decide) (by decide)) (ai (aI 1 rfl) ?_)
       refine ai (mxL (n:=L.length+1) (by omega) (by decide)) (ai (aI 1 rfl) ?_)
       refine ei (k+1) (ai (ai rfl rfl) (ai (ai (ai rfl (ai (ai rfl rfl) (ai (ai rfl rfl) (ai (ai (ai (ai (fun _=>rfl) (aO (by omega))) rfl) (ai (ai rfl (ai rfl (ai ?_ ?_))) (ai rfl (ai rfl (ai ?_ ?_))))) (ai (ai rfl (ai ?_ ?_)) trivial))))) rfl) (ai (ai (iL (by omega)) ?_) (iM (by omega)))))
       all_goals rw[e]
       ·rw[aaG];rfl
       ·exact aV L (aC c L a k) (show dD (bf c (L.getD a ay).1 k).1=_ by rw[hcan])
       ·rw[aaG];rfl
       ·exact aW L (aC c L a k) (dB hb1 k)
       ·rw[aaG];rfl
       ·exact aU L (aC c L a k)
       ·rw[aaG];show L.length+1≤16384;omega
      ·refine ai (mxL (n:=0+(L.getD a ay).2.length) (by omega) (by decide)) (ai (fun _ _=>rfl) ?_)
       refine ai (mxL (n:=0+(L.getD a ay).2.length+1) (by omega) (by decide)) (ai (aI 1 rfl) ?_)
       refine ai (mxL (n:=L.length+1) (by omega) (by decide)) (ai (aI 1 rfl) ?_)
       refine ei (k+1) (ai (ai rfl rfl) (ai (ai (ai rfl (ai (ai rfl rfl) (ai (ai rfl rfl) (ai (ai (ai (ai (fun _=>rfl) (aO (by omega))) rfl) (ai (ai rfl (ai rfl (ai ?_ ?_))) (ai rfl (ai rfl (ai ?_ ?_))))) (ai (ai rfl (ai ?_ ?_)) trivial))))) rfl) (ai (ai (iL (by omega)) ?_) (iM (by omega)))))
       all_goals rw[e]
       ·rw[aaG];rfl
       ·exact aV L (aC c L a k) (show dD (bf c (L.getD a ay).1 k).1=_ by rw[hcan])
       ·rw[aaG];rfl
       ·exact aW L (aC c L a k) (bV (L.getD a ay).2 k)
       ·rw[aaG];rfl
       ·exact aU L (aC c L a k)
       ·rw[aaG];show L.length+1≤16384;omega
     refine ai ?_ trivial
     refine ai (by show a<L.length;exact hak) ?_
     refine ai (mxL (n:=L.length+1) (by omega) (by decide)) (ai (lt1 rfl) ?_)
     refine eY mixed aB Tryz.func63 rfl rfl ?_
     refine ai rfl ?_
     intro b hb
     refine aY (fun hb0=>?_) (fun hb0=>?_)
     ·have hb1:(L.getD a ay).2.length=0:=hb hb0
      refine ai (ai (by decide) (by decide)) (ai (aI 1 rfl) ?_)
      refine ai (mxL (n:=L.length+1) (by omega) (by decide)) (ai (aI 1 rfl) ?_)
      refine ei (k+1) (ai (ai rfl rfl) (ai (ai (ai rfl (ai (ai rfl rfl) (ai (ai rfl rfl) (ai (ai (ai (ai (fun _=>rfl) (aO (by omega))) rfl) (ai (ai rfl (ai rfl (ai ?_ ?_))) (ai rfl (ai rfl (ai ?_ ?_))))) (ai (ai rfl (ai ?_ ?_)) trivial))))) rfl) (ai (ai (iL (by omega)) ?_) (iM (by omega)))))
      all_goals rw[e]
      ·rw[aaG];rfl
      ·exact aV L (aC c L a k) (show dD (bf c (L.getD a ay).1 k).1=_ by rw[hcan])
      ·rw[aaG];rfl
      ·exact aW L (aC c L a k) (dB hb1 k)
      ·rw[aaG];rfl
      ·exact aU L (aC c L a k)
      ·rw[aaG];show L.length+1≤16384;omega
     ·refine ai (mxL (n:=0+(L.getD a ay).2.length) (by omega) (by decide)) (ai (fun _ _=>rfl) ?_)
      refine ai (mxL (n:=0+(L.getD a ay).2.length+1) (by omega) (by decide)) (ai (aI 1 rfl) ?_)
      refine ai (mxL (n:=L.length+1) (by omega) (by decide)) (ai (aI 1 rfl) ?_)
      refine ei (k+1) (ai (ai rfl rfl) (ai (ai (ai rfl (ai (ai rfl rfl) (ai (ai rfl rfl) (ai (ai (ai (ai (fun _=>rfl) (aO (by omega))) rfl) (ai (ai rfl (ai rfl (ai ?_ ?_))) (ai rfl (ai rfl (ai ?_ ?_))))) (ai (ai rfl (ai ?_ ?_)) trivial))))) rfl) (ai (ai (iL (by omega)) ?_) (iM (by omega)))))
      all_goals rw[e]
      ·rw[aaG];rfl
      ·exact aV L (aC c L a k) (show dD (bf c (L.getD a ay).1 k).1=_ by rw[hcan])
      ·rw[aaG];rfl
      ·exact aW L (aC c L a k) (bV (L.getD a ay).2 k)
      ·rw[aaG];rfl
      ·exact aU L (aC c L a k)
      ·rw[aaG];show L.length+1≤16384;omega
    refine ai ?_ trivial
    refine ai (by show a<L.length;exact hak) ?_
    refine ai (mxL (n:=L.length+1) (by omega) (by decide)) (ai (lt1 rfl) ?_)
    refine eY mixed aB Tryz.func63 rfl rfl ?_
    refine ai rfl ?_
    intro b hb
    refine aY (fun hb0=>?_) (fun hb0=>?_)
    ·have hb1:(L.getD a ay).2.length=0:=hb hb0
     refine ai (ai (by decide) (by decide)) (ai (aI 1 rfl) ?_)
     refine ai (mxL (n:=L.length+1) (by omega) (by decide)) (ai (aI 1 rfl) ?_)
     refine ei (k+1) (ai (ai rfl rfl) (ai (ai (ai rfl (ai (ai rfl rfl) (ai (ai rfl rfl) (ai (ai (ai (ai (fun _=>rfl) (aO (by omega))) rfl) (ai (ai rfl (ai rfl (ai ?_ ?_))) (ai rfl (ai rfl (ai ?_ ?_))))) (ai (ai rfl (ai ?_ ?_)) trivial))))) rfl) (ai (ai (iL (by omega)) ?_) (iM (by omega)))))
     all_goals rw[e]
     ·rw[aaG];rfl
     ·exact aV L (aC c L a k) (show dD (bf c (L.getD a ay).1 k).1=_ by rw[hcan])
     ·rw[aaG];rfl
     ·exact aW L (aC c L a k) (dB hb1 k)
     ·rw[aaG];rfl
     ·exact aU L (aC c L a k)
     ·rw[aaG];show L.length+1≤16384;omega
    ·refine ai (mxL (n:=0+(L.getD a ay).2.length) (by omega) (by decide)) (ai (fun _ _=>rfl) ?_)
     refine ai (mxL (n:=0+(L.getD a ay).2.length+1) (by omega) (by decide)) (ai (aI 1 rfl) ?_)
     refine ai (mxL (n:=L.length+1) (by omega) (by decide)) (ai (aI 1 rfl) ?_)
     refine ei (k+1) (ai (ai rfl rfl) (ai (ai (ai rfl (ai (ai rfl rfl) (ai (ai rfl rfl) (ai (ai (ai (ai (fun _=>rfl) (aO (by omega))) rfl) (ai (ai rfl (ai rfl (ai ?_ ?_))) (ai rfl (ai rfl (ai ?_ ?_))))) (ai (ai rfl (ai ?_ ?_)) trivial))))) rfl) (ai (ai (iL (by omega)) ?_) (iM (by omega)))))
     all_goals rw[e]
     ·rw[aaG];rfl
     ·exact aV L (aC c L a k) (show dD (bf c (L.getD a ay).1 k).1=_ by rw[hcan])
     ·rw[aaG];rfl
     ·exact aW L (aC c L a k) (bV (L.getD a ay).2 k)
     ·rw[aaG];rfl
     ·exact aU L (aC c L a k)
     ·rw[aaG];show L.length+1≤16384;omega
   ·refine ei _ (ai (vD) (ei ((c,(L.getD a ay).1,k)) (ei [] (ai (a4 (ai (fun _=>Or.inl rfl) (ai nof (Or.inl rfl)))) (ai (by exact (ai (ai rfl (ai (ai rfl (fun _ _=>rfl)) (ai (ai rfl (fun _ _=>rfl)) (ai rfl (fun _ _=>rfl))))) (ai (ai rfl (fun _ _=>rfl)) rfl))) (ai trivial (ai (⟨hc,ho,hga.1,h2⟩) ?_)))))))
    refine aZ (b:=!(bf c (L.getD a ay).1 k).2) rfl (fun h3=>?_) (fun h3=>?_)
    ·have h3:allM (L.getD a ay).1 (gP c k).fr=false:=by
      have h3:(bf c (L.getD a ay).1 k).2=false:=by simpa using h3
      unfold bf at h3
      split at h3
      ·cases h3
      ·rename_i h;exact ar6.2 h
     have e:dR c l a (k+1)=L:=by rw[hst];unfold je adds;rw[h3];simp
     refine ei (k+1) (ai (ai rfl rfl) (ai (ai (ai rfl (ai (ai rfl rfl) (ai (ai rfl rfl) (ai (ai (ai (ai (fun _=>rfl) (aO (by omega))) rfl) (ai (ai rfl (ai rfl (ai ?_ ?_))) (ai rfl (ai rfl (ai ?_ ?_))))) (ai (ai rfl (ai ?_ ?_)) trivial))))) rfl) (ai (ai (iL (by omega)) ?_) (iM (by omega)))))
     all_goals rw[e]
     ·exact fun _ _=>rfl
     ·exact fun k _=>bM.rfl' _
     ·exact fun _=>rfl
     ·exact hkl
    have h3:allM (L.getD a ay).1 (gP c k).fr=true:=by
     have h3:(bf c (L.getD a ay).1 k).2=true:=by simpa using h3
     unfold bf at h3
     split at h3
     ·assumption
     ·cases h3
    have hcan:(bf c (L.getD a ay).1 k).1=(aC c L a k).1:=by unfold bf;exact congrArg Prod.fst (if_pos h3)
    have hkey:∀q,q<24→fQ (bf c (L.getD a ay).1 k).1 q=.val (.bool ((cB (aC c L a k).1).getD q false)):=fun q _=>by rw[hcan,sJ];rfl
    refine ai (ai rfl rfl) (ei (cB (aC c L a k).1) (ai (ai (oz (by omega)) hkey) ?_))
    refine ei (bP (kJ L (aC c L a k).1)) (ei (kJ L (aC c L a k).1) (ai ?_ ?_))
    ·show (∀d',xE L (.bools (cB (aC c L a k).1))=some d'→_)∧(xE L (.bools (cB (aC c L a k).1))=none→_)
     rw[adp hln]
     cases kJ L (aC c L a k).1
     ·exact ⟨fun d' h=>by simp at h,fun _=>⟨rfl,rfl⟩⟩
     ·exact ⟨fun d' h=>by simp at h;exact ⟨h.symm,rfl⟩,fun h=>by simp at h⟩
    refine aZ (b:=kJ L (aC c L a k).1) rfl (fun h4=>?_) (fun h4=>?_)
    ·have e:dR c l a (k+1)=L:=by rw[hst];unfold je adds;rw[h4];simp
     refine ei (k+1) (ai (ai rfl rfl) (ai (ai (ai rfl (ai (ai rfl rfl) (ai (ai rfl rfl) (ai (ai (ai (ai (fun _=>rfl) (aO (by omega))) rfl) (ai (ai rfl (ai rfl (ai ?_ ?_))) (ai rfl (ai rfl (ai ?_ ?_))))) (ai (ai rfl (ai ?_ ?_)) trivial))))) rfl) (ai (ai (iL (by omega)) ?_) (iM (by omega)))))
     all_goals rw[e]
     ·exact fun _ _=>rfl
     ·exact fun k _=>bM.rfl' _
     ·exact fun _=>rfl
     ·exact hkl
    have hn:adds c L a k=true:=by unfold adds;rw[h3,h4];rfl
    have e:dR c l a (k+1)=L++[aC c L a k]:=by rw[hst];unfold je;rw[if_pos hn]
    refine ah (p:=L.length=16384) (gV (by omega)) (fun h5=>?_) (fun h5=>?_)
    ·refine ai (ai (fun h=>absurd (show false=true from h) (by decide)) ?_) trivial
     show ak _ (wL c)
     rw[wL,hrun (by rw[e,aaG];show 16384<L.length+1;omega)]
     exact (ai rfl (ai rfl rfl))
    refine ai rfl (ei (cB (aC c L a k).1) (ai (ai (oz (by omega)) hkey) ?_))
    refine ei (L.length+1) (ai (ai (fun _=>rfl) (fun d hd=>absurd ((afT hln h4).symm.trans hd) (by simp))) ?_)
    refine ei (.one 0 (.one 1 (.one 4 (.one 5 (.one 6 (.one 7 (.one 10 (.alt 2 (.alt 3 (.one 8 (.altw 9 (.one 11 (.one 12 (.one 13 (.one 14 (.one 15 (.one 16 .done)))))) (.alt 11 (.wr 9 (.one 12 (.one 13 (.one 14 (.one 15 (.one 16 .done)))))) .stop))) (.alt 8 (.alt 3 (.altw 9 (.one 11 (.one 12 (.one 13 (.one 14 (.one 15 (.one 16 .done)))))) (.alt 11 (.wr 9 (.one 12 (.one 13 (.one 14 (.one 15 (.one 16 .done)))))) .stop)) (.alt 11 (.one 3 (.wr 9 (.one 12 (.one 13 (.one 14 (.one 15 (.one 16 .done))))))) .stop)) (.alt 11 (.alt 3 (.one 8 (.wr 9 (.one 12 (.one 13 (.one 14 (.one 15 (.one 16 .done))))))) (.alt 8 (.one 3 (.wr 9 (.one 12 (.one 13 (.one 14 (.one 15 (.one 16 .done))))))) .stop)) .stop))) (.alt 8 (.alt 2 (.alt 3 (.altw 9 (.one 11 (.one 12 (.one 13 (.one 14 (.one 15 (.one 16 .done)))))) (.alt 11 (.wr 9 (.one 12 (.one 13 (.one 14 (.one 15 (.one 16 .done)))))) .stop)) (.alt 11 (.one 3 (.wr 9 (.one 12 (.one 13 (.one 14 (.one 15 (.one 16 .done))))))) .stop)) (.alt 11 (.one 2 (.one 3 (.wr 9 (.one 12 (.one 13 (.one 14 (.one 15 (.one 16 .done)))))))) .stop)) (.alt 11 (.alt 2 (.alt 3 (.one 8 (.wr 9 (.one 12 (.one 13 (.one 14 (.one 15 (.one 16 .done))))))) (.alt 8 (.one 3 (.wr 9 (.one 12 (.one 13 (.one 14 (.one 15 (.one 16 .done))))))) .stop)) (.alt 8 (.one 2 (.one 3 (.wr 9 (.one 12 (.one 13 (.one 14 (.one 15 (.one 16 .done)))))))) .stop)) .stop)))))))))) (ai (by kernel_rfl) ?_)
    refine ai (ai (aa1 _) (by show (a:Int)<(L.length:Int);omega)) ?_
    refine ai ?_ ?_
    ·refine ai ?_ ?_
     ·refine ai (mxL (n:=L.length+1) (by omega) (by decide)) (ai (lt1 rfl) ?_)
      refine ai (by show a<L.length;exact hak) ?_
      refine ai ?_ ?_
      ·refine eY mixed aB Tryz.func63 rfl rfl ?_
       refine ai rfl ?_
       intro b hb
       refine aY (fun hb0=>?_) (fun hb0=>?_)
       ·have hb1:(L.getD a ay).2.length=0:=hb hb0
        refine ai (ai (by decide) (by decide)) (ai (aI 1 rfl) ?_)
        refine ai (mxL (n:=L.length+1) (by omega) (by decide)) (ai (aI 1 rfl) ?_)
        refine ei (k+1) (ai (ai rfl rfl) (ai (ai (ai rfl (ai (ai rfl rfl) (ai (ai rfl rfl) (ai (ai (ai (ai (fun _=>rfl) (aO (by omega))) rfl) (ai (ai rfl (ai rfl (ai ?_ ?_))) (ai rfl (ai rfl (ai ?_ ?_))))) (ai (ai rfl (ai ?_ ?_)) trivial))))) rfl) (ai (ai (iL (by omega)) ?_) (iM (by omega)))))
        all_goals rw[e]
        ·rw[aaG];rfl
        ·exact aV L (aC c L a k) (show dD (bf c (L.getD a ay).1 k).1=_ by rw[hcan])
        ·rw[aaG];rfl
        ·exact aW L (aC c L a k) (dB hb1 k)
        ·rw[aaG];rfl
        ·exact aU L (aC c L a k)
        ·rw[aaG];show L.length+1≤16384;omega
       ·refine ai (mxL (n:=0+(L.getD a ay).2.length) (by omega) (by decide)) (ai (fun _ _=>rfl) ?_)
        refine ai (mxL (n:=0+(L.getD a ay).2.length+1) (by omega) (by decide)) (ai (aI 1 rfl) ?_)
        refine ai (mxL (n:=L.length+1) (by omega) (by decide)) (ai (aI 1 rfl) ?_)
        refine ei (k+1) (ai (ai rfl rfl) (ai (ai (ai rfl (ai (ai rfl rfl) (ai (ai rfl rfl) (ai (ai (ai (ai (fun _=>rfl) (aO (by omega))) rfl) (ai (ai rfl (ai rfl (ai ?_ ?_))) (ai rfl (ai rfl (ai ?_ ?_))))) (ai (ai rfl (ai ?_ ?_)) trivial))))) rfl) (ai (ai (iL (by omega)) ?_) (iM (by omega)))))
        all_goals rw[e]
        ·rw[aaG];rfl
        ·exact aV L (aC c L a k) (show dD (bf c (L.getD a ay).1 k).1=_ by rw[hcan])
        ·rw[aaG];rfl
        ·exact aW L (aC c L a k) (bV (L.getD a ay).2 k)
        ·rw[aaG];rfl
        ·exact aU L (aC c L a k)
        ·rw[aaG];show L.length+1≤16384;omega
      refine ai ?_ trivial
      refine eY mixed aB Tryz.func63 rfl rfl ?_
      refine ai rfl ?_
      intro b hb
      refine aY (fun hb0=>?_) (fun hb0=>?_)
      ·have hb1:(L.getD a ay).2.length=0:=hb hb0
       refine ai (ai (by decide) (by decide)) (ai (aI 1 rfl) ?_)
       refine ai (mxL (n:=L.length+1) (by omega) (by decide)) (ai (aI 1 rfl) ?_)
       refine ei (k+1) (ai (ai rfl rfl) (ai (ai (ai rfl (ai (ai rfl rfl) (ai (ai rfl rfl) (ai (ai (ai (ai (fun _=>rfl) (aO (by omega))) rfl) (ai (ai rfl (ai rfl (ai ?_ ?_))) (ai rfl (ai rfl (ai ?_ ?_))))) (ai (ai rfl (ai ?_ ?_)) trivial))))) rfl) (ai (ai (iL (by omega)) ?_) (iM (by omega)))))
       all_goals rw[e]
       ·rw[aaG];rfl
       ·exact aV L (aC c L a k) (show dD (bf c (L.getD a ay).1 k).1=_ by rw[hcan])
       ·rw[aaG];rfl
       ·exact aW L (aC c L a k) (dB hb1 k)
       ·rw[aaG];rfl
       ·exact aU L (aC c L a k)
       ·rw[aaG];show L.length+1≤16384;omega
      ·refine ai (mxL (n:=0+(L.getD a ay).2.length) (by omega) (by decide)) (ai (fun _ _=>rfl) ?_)
       refine ai (mxL (n:=0+(L.getD a ay).2.length+1) (by omega) (by decide)) (ai (aI 1 rfl) ?_)
       refine ai (mxL (n:=L.length+1) (by omega) (by decide)) (ai (aI 1 rfl) ?_)
       refine ei (k+1) (ai (ai rfl rfl) (ai (ai (ai rfl (ai (ai rfl rfl) (ai (ai rfl rfl) (ai (ai (ai (ai (fun _=>rfl) (aO (by omega))) rfl) (ai (ai rfl (ai rfl (ai ?_ ?_))) (ai rfl (ai rfl (ai ?_ ?_))))) (ai (ai rfl (ai ?_ ?_)) trivial))))) rfl) (ai (ai (iL (by omega)) ?_) (iM (by omega)))))
       all_goals rw[e]
       ·rw[aaG];rfl
       ·exact aV L (aC c L a k) (show dD (bf c (L.getD a ay).1 k).1=_ by rw[hcan])
       ·rw[aaG];rfl
       ·exact aW L (aC c L a k) (bV (L.getD a ay).2 k)
       ·rw[aaG];rfl
       ·exact aU L (aC c L a k)
       ·rw[aaG];show L.length+1≤16384;omega
     refine ai ?_ ?_
     ·refine ai (by show a<L.length;exact hak) ?_
      refine ai ?_ ?_
      ·refine ai (mxL (n:=L.length+1) (by omega) (by decide)) (ai (lt1 rfl) ?_)
       refine ai ?_ ?_
       ·refine eY mixed aB Tryz.func63 rfl rfl ?_
        refine ai rfl ?_
        intro b hb
        refine aY (fun hb0=>?_) (fun hb0=>?_)
        ·have hb1:(L.getD a ay).2.length=0:=hb hb0
         refine ai (ai (by decide) (by decide)) (ai (aI 1 rfl) ?_)
         refine ai (mxL (n:=L.length+1) (by omega) (by decide)) (ai (aI 1 rfl) ?_)
         refine ei (k+1) (ai (ai rfl rfl) (ai (ai (ai rfl (ai (ai rfl rfl) (ai (ai rfl rfl) (ai (ai (ai (ai (fun _=>rfl) (aO (by omega))) rfl) (ai (ai rfl (ai rfl (ai ?_ ?_))) (ai rfl (ai rfl (ai ?_ ?_))))) (ai (ai rfl (ai ?_ ?_)) trivial))))) rfl) (ai (ai (iL (by omega)) ?_) (iM (by omega)))))
         all_goals rw[e]
         ·rw[aaG];rfl
         ·exact aV L (aC c L a k) (show dD (bf c (L.getD a ay).1 k).1=_ by rw[hcan])
         ·rw[aaG];rfl
         ·exact aW L (aC c L a k) (dB hb1 k)
         ·rw[aaG];rfl
         ·exact aU L (aC c L a k)
         ·rw[aaG];show L.length+1≤16384;omega
        ·refine ai (mxL (n:=0+(L.getD a ay).2.length) (by omega) (by decide)) (ai (fun _ _=>rfl) ?_)
         refine ai (mxL (n:=0+(L.getD a ay).2.length+1) (by omega) (by decide)) (ai (aI 1 rfl) ?_)
         refine ai (mxL (n:=L.length+1) (by omega) (by decide)) (ai (aI 1 rfl) ?_)
         refine ei (k+1) (ai (ai rfl rfl) (ai (ai (ai rfl (ai (ai rfl rfl) (ai (ai rfl rfl) (ai (ai (ai (ai (fun _=>rfl) (aO (by omega))) rfl) (ai (ai rfl (ai rfl (ai ?_ ?_))) (ai rfl (ai rfl (ai ?_ ?_))))) (ai (ai rfl (ai ?_ ?_)) trivial))))) rfl) (ai (ai (iL (by omega)) ?_) (iM (by omega)))))
         all_goals rw[e]
         ·rw[aaG];rfl
         ·exact aV L (aC c L a k) (show dD (bf c (L.getD a ay).1 k).1=_ by rw[hcan])
         ·rw[aaG];rfl
         ·exact aW L (aC c L a k) (bV (L.getD a ay).2 k)
         ·rw[aaG];rfl
         ·exact aU L (aC c L a k)
         ·rw[aaG];show L.length+1≤16384;omega
       refine ai ?_ trivial
       refine eY mixed aB Tryz.func63 rfl rfl ?_
       refine ai rfl ?_
       intro b hb
       refine aY (fun hb0=>?_) (fun hb0=>?_)
       ·have hb1:(L.getD a ay).2.length=0:=hb hb0
        refine ai (ai (by decide) (by decide)) (ai (aI 1 rfl) ?_)
        refine ai (mxL (n:=L.length+1) (by omega) (by decide)) (ai (aI 1 rfl) ?_)
        refine ei (k+1) (ai (ai rfl rfl) (ai (ai (ai rfl (ai (ai rfl rfl) (ai (ai rfl rfl) (ai (ai (ai (ai (fun _=>rfl) (aO (by omega))) rfl) (ai (ai rfl (ai rfl (ai ?_ ?_))) (ai rfl (ai rfl (ai ?_ ?_))))) (ai (ai rfl (ai ?_ ?_)) trivial))))) rfl) (ai (ai (iL (by omega)) ?_) (iM (by omega)))))
        all_goals rw[e]
        ·rw[aaG];rfl
        ·exact aV L (aC c L a k) (show dD (bf c (L.getD a ay).1 k).1=_ by rw[hcan])
        ·rw[aaG];rfl
        ·exact aW L (aC c L a k) (dB hb1 k)
        ·rw[aaG];rfl
        ·exact aU L (aC c L a k)
        ·rw[aaG];show L.length+1≤16384;omega
       ·refine ai (mxL (n:=0+(L.getD a ay).2.length) (by omega) (by decide)) (ai (fun _ _=>rfl) ?_)
        refine ai (mxL (n:=0+(L.getD a ay).2.length+1) (by omega) (by decide)) (ai (aI 1 rfl) ?_)
        refine ai (mxL (n:=L.length+1) (by omega) (by decide)) (ai (aI 1 rfl) ?_)
        refine ei (k+1) (ai (ai rfl rfl) (ai (ai (ai rfl (ai (ai rfl rfl) (ai (ai rfl rfl) (ai (ai (ai (ai (fun _=>rfl) (aO (by omega))) rfl) (ai (ai rfl (ai rfl (ai ?_ ?_))) (ai rfl (ai rfl (ai ?_ ?_))))) (ai (ai rfl (ai ?_ ?_)) trivial))))) rfl) (ai (ai (iL (by omega)) ?_) (iM (by omega)))))
        all_goals rw[e]
        ·rw[aaG];rfl
        ·exact aV L (aC c L a k) (show dD (bf c (L.getD a ay).1 k).1=_ by rw[hcan])
        ·rw[aaG];rfl
        ·exact aW L (aC c L a k) (bV (L.getD a ay).2 k)
        ·rw[aaG];rfl
        ·exact aU L (aC c L a k)
        ·rw[aaG];show L.length+1≤16384;omega
      refine ai ?_ trivial
      refine ai (mxL (n:=L.length+1) (by omega) (by decide)) (ai (lt1 rfl) ?_)
      refine eY mixed aB Tryz.func63 rfl rfl ?_
      refine ai rfl ?_
      intro b hb
      refine aY (fun hb0=>?_) (fun hb0=>?_)
      ·have hb1:(L.getD a ay).2.length=0:=hb hb0
       refine ai (ai (by decide) (by decide)) (ai (aI 1 rfl) ?_)
       refine ai (mxL (n:=L.length+1) (by omega) (by decide)) (ai (aI 1 rfl) ?_)
       refine ei (k+1) (ai (ai rfl rfl) (ai (ai (ai rfl (ai (ai rfl rfl) (ai (ai rfl rfl) (ai (ai (ai (ai (fun _=>rfl) (aO (by omega))) rfl) (ai (ai rfl (ai rfl (ai ?_ ?_))) (ai rfl (ai rfl (ai ?_ ?_))))) (ai (ai rfl (ai ?_ ?_)) trivial))))) rfl) (ai (ai (iL (by omega)) ?_) (iM (by omega)))))
       all_goals rw[e]
       ·rw[aaG];rfl
       ·exact aV L (aC c L a k) (show dD (bf c (L.getD a ay).1 k).1=_ by rw[hcan])
       ·rw[aaG];rfl
       ·exact aW L (aC c L a k) (dB hb1 k)
       ·rw[aaG];rfl
       ·exact aU L (aC c L a k)
       ·rw[aaG];show L.length+1≤16384;omega
      ·refine ai (mxL (n:=0+(L.getD a ay).2.length) (by omega) (by decide)) (ai (fun _ _=>rfl) ?_)
       refine ai (mxL (n:=0+(L.getD a ay).2.length+1) (by omega) (by decide)) (ai (aI 1 rfl) ?_)
       refine ai (mxL (n:=L.length+1) (by omega) (by decide)) (ai (aI 1 rfl) ?_)
       refine ei (k+1) (ai (ai rfl rfl) (ai (ai (ai rfl (ai (ai rfl rfl) (ai (ai rfl rfl) (ai (ai (ai (ai (fun _=>rfl) (aO (by omega))) rfl) (ai (ai rfl (ai rfl (ai ?_ ?_))) (ai rfl (ai rfl (ai ?_ ?_))))) (ai (ai rfl (ai ?_ ?_)) trivial))))) rfl) (ai (ai (iL (by omega)) ?_) (iM (by omega)))))
       all_goals rw[e]
       ·rw[aaG];rfl
       ·exact aV L (aC c L a k) (show dD (bf c (L.getD a ay).1 k).1=_ by rw[hcan])
       ·rw[aaG];rfl
       ·exact aW L (aC c L a k) (bV (L.getD a ay).2 k)
       ·rw[aaG];rfl
       ·exact aU L (aC c L a k)
       ·rw[aaG];show L.length+1≤16384;omega
     refine ai ?_ trivial
     refine ai ?_ ?_
     ·refine ai (mxL (n:=L.length+1) (by omega) (by decide)) (ai (lt1 rfl) ?_)
      refine ai (by show a<L.length;exact hak) ?_
      refine eY mixed aB Tryz.func63 rfl rfl ?_
      refine ai rfl ?_
      intro b hb
      refine aY (fun hb0=>?_) (fun hb0=>?_)
      ·have hb1:(L.getD a ay).2.length=0:=hb hb0
       refine ai (ai (by decide) (by decide)) (ai (aI 1 rfl) ?_)
       refine ai (mxL (n:=L.length+1) (by omega) (by decide)) (ai (aI 1 rfl) ?_)
       refine ei (k+1) (ai (ai rfl rfl) (ai (ai (ai rfl (ai (ai rfl rfl) (ai (ai rfl rfl) (ai (ai (ai (ai (fun _=>rfl) (aO (by omega))) rfl) (ai (ai rfl (ai rfl (ai ?_ ?_))) (ai rfl (ai rfl (ai ?_ ?_))))) (ai (ai rfl (ai ?_ ?_)) trivial))))) rfl) (ai (ai (iL (by omega)) ?_) (iM (by omega)))))
       all_goals rw[e]
       ·rw[aaG];rfl
       ·exact aV L (aC c L a k) (show dD (bf c (L.getD a ay).1 k).1=_ by rw[hcan])
       ·rw[aaG];rfl
       ·exact aW L (aC c L a k) (dB hb1 k)
       ·rw[aaG];rfl
       ·exact aU L (aC c L a k)
       ·rw[aaG];show L.length+1≤16384;omega
      ·refine ai (mxL (n:=0+(L.getD a ay).2.length) (by omega) (by decide)) (ai (fun _ _=>rfl) ?_)
       refine ai (mxL (n:=0+(L.getD a ay).2.length+1) (by omega) (by decide)) (ai (aI 1 rfl) ?_)
       refine ai (mxL (n:=L.length+1) (by omega) (by decide)) (ai (aI 1 rfl) ?_)
       refine ei (k+1) (ai (ai rfl rfl) (ai (ai (ai rfl (ai (ai rfl rfl) (ai (ai rfl rfl) (ai (ai (ai (ai (fun _=>rfl) (aO (by omega))) rfl) (ai (ai rfl (ai rfl (ai ?_ ?_))) (ai rfl (ai rfl (ai ?_ ?_))))) (ai (ai rfl (ai ?_ ?_)) trivial))))) rfl) (ai (ai (iL (by omega)) ?_) (iM (by omega)))))
       all_goals rw[e]
       ·rw[aaG];rfl
       ·exact aV L (aC c L a k) (show dD (bf c (L.getD a ay).1 k).1=_ by rw[hcan])
       ·rw[aaG];rfl
       ·exact aW L (aC c L a k) (bV (L.getD a ay).2 k)
       ·rw[aaG];rfl
       ·exact aU L (aC c L a k)
       ·rw[aaG];show L.length+1≤16384;omega
     refine ai ?_ trivial
     refine ai (by show a<L.length;exact hak) ?_
     refine ai (mxL (n:=L.length+1) (by omega) (by decide)) (ai (lt1 rfl) ?_)
     refine eY mixed aB Tryz.func63 rfl rfl ?_
     refine ai rfl ?_
     intro b hb
     refine aY (fun hb0=>?_) (fun hb0=>?_)
     ·have hb1:(L.getD a ay).2.length=0:=hb hb0
      refine ai (ai (by decide) (by decide)) (ai (aI 1 rfl) ?_)
      refine ai (mxL (n:=L.length+1) (by omega) (by decide)) (ai (aI 1 rfl) ?_)
      refine ei (k+1) (ai (ai rfl rfl) (ai (ai (ai rfl (ai (ai rfl rfl) (ai (ai rfl rfl) (ai (ai (ai (ai (fun _=>rfl) (aO (by omega))) rfl) (ai (ai rfl (ai rfl (ai ?_ ?_))) (ai rfl (ai rfl (ai ?_ ?_))))) (ai (ai rfl (ai ?_ ?_)) trivial))))) rfl) (ai (ai (iL (by omega)) ?_) (iM (by omega)))))
      all_goals rw[e]
      ·rw[aaG];rfl
      ·exact aV L (aC c L a k) (show dD (bf c (L.getD a ay).1 k).1=_ by rw[hcan])
      ·rw[aaG];rfl
      ·exact aW L (aC c L a k) (dB hb1 k)
      ·rw[aaG];rfl
      ·exact aU L (aC c L a k)
      ·rw[aaG];show L.length+1≤16384;omega
     ·refine ai (mxL (n:=0+(L.getD a ay).2.length) (by omega) (by decide)) (ai (fun _ _=>rfl) ?_)
      refine ai (mxL (n:=0+(L.getD a ay).2.length+1) (by omega) (by decide)) (ai (aI 1 rfl) ?_)
      refine ai (mxL (n:=L.length+1) (by omega) (by decide)) (ai (aI 1 rfl) ?_)
      refine ei (k+1) (ai (ai rfl rfl) (ai (ai (ai rfl (ai (ai rfl rfl) (ai (ai rfl rfl) (ai (ai (ai (ai (fun _=>rfl) (aO (by omega))) rfl) (ai (ai rfl (ai rfl (ai ?_ ?_))) (ai rfl (ai rfl (ai ?_ ?_))))) (ai (ai rfl (ai ?_ ?_)) trivial))))) rfl) (ai (ai (iL (by omega)) ?_) (iM (by omega)))))
      all_goals rw[e]
      ·rw[aaG];rfl
      ·exact aV L (aC c L a k) (show dD (bf c (L.getD a ay).1 k).1=_ by rw[hcan])
      ·rw[aaG];rfl
      ·exact aW L (aC c L a k) (bV (L.getD a ay).2 k)
      ·rw[aaG];rfl
      ·exact aU L (aC c L a k)
      ·rw[aaG];show L.length+1≤16384;omega
    refine ai ?_ ?_
    ·refine ai (by show a<L.length;exact hak) ?_
     refine ai ?_ ?_
     ·refine ai ?_ ?_
      ·refine ai (mxL (n:=L.length+1) (by omega) (by decide)) (ai (lt1 rfl) ?_)
       refine ai ?_ ?_
       ·refine eY mixed aB Tryz.func63 rfl rfl ?_
        refine ai rfl ?_
        intro b hb
        refine aY (fun hb0=>?_) (fun hb0=>?_)
        ·have hb1:(L.getD a ay).2.length=0:=hb hb0
         refine ai (ai (by decide) (by decide)) (ai (aI 1 rfl) ?_)
         refine ai (mxL (n:=L.length+1) (by omega) (by decide)) (ai (aI 1 rfl) ?_)
         refine ei (k+1) (ai (ai rfl rfl) (ai (ai (ai rfl (ai (ai rfl rfl) (ai (ai rfl rfl) (ai (ai (ai (ai (fun _=>rfl) (aO (by omega))) rfl) (ai (ai rfl (ai rfl (ai ?_ ?_))) (ai rfl (ai rfl (ai ?_ ?_))))) (ai (ai rfl (ai ?_ ?_)) trivial))))) rfl) (ai (ai (iL (by omega)) ?_) (iM (by omega)))))
         all_goals rw[e]
         ·rw[aaG];rfl
         ·exact aV L (aC c L a k) (show dD (bf c (L.getD a ay).1 k).1=_ by rw[hcan])
         ·rw[aaG];rfl
         ·exact aW L (aC c L a k) (dB hb1 k)
         ·rw[aaG];rfl
         ·exact aU L (aC c L a k)
         ·rw[aaG];show L.length+1≤16384;omega
        ·refine ai (mxL (n:=0+(L.getD a ay).2.length) (by omega) (by decide)) (ai (fun _ _=>rfl) ?_)
         refine ai (mxL (n:=0+(L.getD a ay).2.length+1) (by omega) (by decide)) (ai (aI 1 rfl) ?_)
         refine ai (mxL (n:=L.length+1) (by omega) (by decide)) (ai (aI 1 rfl) ?_)
         refine ei (k+1) (ai (ai rfl rfl) (ai (ai (ai rfl (ai (ai rfl rfl) (ai (ai rfl rfl) (ai (ai (ai (ai (fun _=>rfl) (aO (by omega))) rfl) (ai (ai rfl (ai rfl (ai ?_ ?_))) (ai rfl (ai rfl (ai ?_ ?_))))) (ai (ai rfl (ai ?_ ?_)) trivial))))) rfl) (ai (ai (iL (by omega)) ?_) (iM (by omega)))))
         all_goals rw[e]
         ·rw[aaG];rfl
         ·exact aV L (aC c L a k) (show dD (bf c (L.getD a ay).1 k).1=_ by rw[hcan])
         ·rw[aaG];rfl
         ·exact aW L (aC c L a k) (bV (L.getD a ay).2 k)
         ·rw[aaG];rfl
         ·exact aU L (aC c L a k)
         ·rw[aaG];show L.length+1≤16384;omega
       refine ai ?_ trivial
       refine eY mixed aB Tryz.func63 rfl rfl ?_
       refine ai rfl ?_
       intro b hb
       refine aY (fun hb0=>?_) (fun hb0=>?_)
       ·have hb1:(L.getD a ay).2.length=0:=hb hb0
        refine ai (ai (by decide) (by decide)) (ai (aI 1 rfl) ?_)
        refine ai (mxL (n:=L.length+1) (by omega) (by decide)) (ai (aI 1 rfl) ?_)
        refine ei (k+1) (ai (ai rfl rfl) (ai (ai (ai rfl (ai (ai rfl rfl) (ai (ai rfl rfl) (ai (ai (ai (ai (fun _=>rfl) (aO (by omega))) rfl) (ai (ai rfl (ai rfl (ai ?_ ?_))) (ai rfl (ai rfl (ai ?_ ?_))))) (ai (ai rfl (ai ?_ ?_)) trivial))))) rfl) (ai (ai (iL (by omega)) ?_) (iM (by omega)))))
        all_goals rw[e]
        ·rw[aaG];rfl
        ·exact aV L (aC c L a k) (show dD (bf c (L.getD a ay).1 k).1=_ by rw[hcan])
        ·rw[aaG];rfl
        ·exact aW L (aC c L a k) (dB hb1 k)
        ·rw[aaG];rfl
        ·exact aU L (aC c L a k)
        ·rw[aaG];show L.length+1≤16384;omega
       ·refine ai (mxL (n:=0+(L.getD a ay).2.length) (by omega) (by decide)) (ai (fun _ _=>rfl) ?_)
        refine ai (mxL (n:=0+(L.getD a ay).2.length+1) (by omega) (by decide)) (ai (aI 1 rfl) ?_)
        refine ai (mxL (n:=L.length+1) (by omega) (by decide)) (ai (aI 1 rfl) ?_)
        refine ei (k+1) (ai (ai rfl rfl) (ai (ai (ai rfl (ai (ai rfl rfl) (ai (ai rfl rfl) (ai (ai (ai (ai (fun _=>rfl) (aO (by omega))) rfl) (ai (ai rfl (ai rfl (ai ?_ ?_))) (ai rfl (ai rfl (ai ?_ ?_))))) (ai (ai rfl (ai ?_ ?_)) trivial))))) rfl) (ai (ai (iL (by omega)) ?_) (iM (by omega)))))
        all_goals rw[e]
        ·rw[aaG];rfl
        ·exact aV L (aC c L a k) (show dD (bf c (L.getD a ay).1 k).1=_ by rw[hcan])
        ·rw[aaG];rfl
        ·exact aW L (aC c L a k) (bV (L.getD a ay).2 k)
        ·rw[aaG];rfl
        ·exact aU L (aC c L a k)
        ·rw[aaG];show L.length+1≤16384;omega
      refine ai ?_ trivial
      refine ai (mxL (n:=L.length+1) (by omega) (by decide)) (ai (lt1 rfl) ?_)
      refine eY mixed aB Tryz.func63 rfl rfl ?_
      refine ai rfl ?_
      intro b hb
      refine aY (fun hb0=>?_) (fun hb0=>?_)
      ·have hb1:(L.getD a ay).2.length=0:=hb hb0
       refine ai (ai (by decide) (by decide)) (ai (aI 1 rfl) ?_)
       refine ai (mxL (n:=L.length+1) (by omega) (by decide)) (ai (aI 1 rfl) ?_)
       refine ei (k+1) (ai (ai rfl rfl) (ai (ai (ai rfl (ai (ai rfl rfl) (ai (ai rfl rfl) (ai (ai (ai (ai (fun _=>rfl) (aO (by omega))) rfl) (ai (ai rfl (ai rfl (ai ?_ ?_))) (ai rfl (ai rfl (ai ?_ ?_))))) (ai (ai rfl (ai ?_ ?_)) trivial))))) rfl) (ai (ai (iL (by omega)) ?_) (iM (by omega)))))
       all_goals rw[e]
       ·rw[aaG];rfl
       ·exact aV L (aC c L a k) (show dD (bf c (L.getD a ay).1 k).1=_ by rw[hcan])
       ·rw[aaG];rfl
       ·exact aW L (aC c L a k) (dB hb1 k)
       ·rw[aaG];rfl
       ·exact aU L (aC c L a k)
       ·rw[aaG];show L.length+1≤16384;omega
      ·refine ai (mxL (n:=0+(L.getD a ay).2.length) (by omega) (by decide)) (ai (fun _ _=>rfl) ?_)
       refine ai (mxL (n:=0+(L.getD a ay).2.length+1) (by omega) (by decide)) (ai (aI 1 rfl) ?_)
       refine ai (mxL (n:=L.length+1) (by omega) (by decide)) (ai (aI 1 rfl) ?_)
       refine ei (k+1) (ai (ai rfl rfl) (ai (ai (ai rfl (ai (ai rfl rfl) (ai (ai rfl rfl) (ai (ai (ai (ai (fun _=>rfl) (aO (by omega))) rfl) (ai (ai rfl (ai rfl (ai ?_ ?_))) (ai rfl (ai rfl (ai ?_ ?_))))) (ai (ai rfl (ai ?_ ?_)) trivial))))) rfl) (ai (ai (iL (by omega)) ?_) (iM (by omega)))))
       all_goals rw[e]
       ·rw[aaG];rfl
       ·exact aV L (aC c L a k) (show dD (bf c (L.getD a ay).1 k).1=_ by rw[hcan])
       ·rw[aaG];rfl
       ·exact aW L (aC c L a k) (bV (L.getD a ay).2 k)
       ·rw[aaG];rfl
       ·exact aU L (aC c L a k)
       ·rw[aaG];show L.length+1≤16384;omega
     refine ai ?_ trivial
     refine ai (mxL (n:=L.length+1) (by omega) (by decide)) (ai (lt1 rfl) ?_)
     refine eY mixed aB Tryz.func63 rfl rfl ?_
     refine ai rfl ?_
     intro b hb
     refine aY (fun hb0=>?_) (fun hb0=>?_)
     ·have hb1:(L.getD a ay).2.length=0:=hb hb0
      refine ai (ai (by decide) (by decide)) (ai (aI 1 rfl) ?_)
      refine ai (mxL (n:=L.length+1) (by omega) (by decide)) (ai (aI 1 rfl) ?_)
      refine ei (k+1) (ai (ai rfl rfl) (ai (ai (ai rfl (ai (ai rfl rfl) (ai (ai rfl rfl) (ai (ai (ai (ai (fun _=>rfl) (aO (by omega))) rfl) (ai (ai rfl (ai rfl (ai ?_ ?_))) (ai rfl (ai rfl (ai ?_ ?_))))) (ai (ai rfl (ai ?_ ?_)) trivial))))) rfl) (ai (ai (iL (by omega)) ?_) (iM (by omega)))))
      all_goals rw[e]
      ·rw[aaG];rfl
      ·exact aV L (aC c L a k) (show dD (bf c (L.getD a ay).1 k).1=_ by rw[hcan])
      ·rw[aaG];rfl
      ·exact aW L (aC c L a k) (dB hb1 k)
      ·rw[aaG];rfl
      ·exact aU L (aC c L a k)
      ·rw[aaG];show L.length+1≤16384;omega
     ·refine ai (mxL (n:=0+(L.getD a ay).2.length) (by omega) (by decide)) (ai (fun _ _=>rfl) ?_)
      refine ai (mxL (n:=0+(L.getD a ay).2.length+1) (by omega) (by decide)) (ai (aI 1 rfl) ?_)
      refine ai (mxL (n:=L.length+1) (by omega) (by decide)) (ai (aI 1 rfl) ?_)
      refine ei (k+1) (ai (ai rfl rfl) (ai (ai (ai rfl (ai (ai rfl rfl) (ai (ai rfl rfl) (ai (ai (ai (ai (fun _=>rfl) (aO (by omega))) rfl) (ai (ai rfl (ai rfl (ai ?_ ?_))) (ai rfl (ai rfl (ai ?_ ?_))))) (ai (ai rfl (ai ?_ ?_)) trivial))))) rfl) (ai (ai (iL (by omega)) ?_) (iM (by omega)))))
      all_goals rw[e]
      ·rw[aaG];rfl
      ·exact aV L (aC c L a k) (show dD (bf c (L.getD a ay).1 k).1=_ by rw[hcan])
      ·rw[aaG];rfl
      ·exact aW L (aC c L a k) (bV (L.getD a ay).2 k)
      ·rw[aaG];rfl
      ·exact aU L (aC c L a k)
      ·rw[aaG];show L.length+1≤16384;omega
    refine ai ?_ trivial
    refine ai ?_ ?_
    ·refine ai ?_ ?_
     ·refine ai (mxL (n:=L.length+1) (by omega) (by decide)) (ai (lt1 rfl) ?_)
      refine ai (by show a<L.length;exact hak) ?_
      refine eY mixed aB Tryz.func63 rfl rfl ?_
      refine ai rfl ?_
      intro b hb
      refine aY (fun hb0=>?_) (fun hb0=>?_)
      ·have hb1:(L.getD a ay).2.length=0:=hb hb0
       refine ai (ai (by decide) (by decide)) (ai (aI 1 rfl) ?_)
       refine ai (mxL (n:=L.length+1) (by omega) (by decide)) (ai (aI 1 rfl) ?_)
       refine ei (k+1) (ai (ai rfl rfl) (ai (ai (ai rfl (ai (ai rfl rfl) (ai (ai rfl rfl) (ai (ai (ai (ai (fun _=>rfl) (aO (by omega))) rfl) (ai (ai rfl (ai rfl (ai ?_ ?_))) (ai rfl (ai rfl (ai ?_ ?_))))) (ai (ai rfl (ai ?_ ?_)) trivial))))) rfl) (ai (ai (iL (by omega)) ?_) (iM (by omega)))))
       all_goals rw[e]
       ·rw[aaG];rfl
       ·exact aV L (aC c L a k) (show dD (bf c (L.getD a ay).1 k).1=_ by rw[hcan])
       ·rw[aaG];rfl
       ·exact aW L (aC c L a k) (dB hb1 k)
       ·rw[aaG];rfl
       ·exact aU L (aC c L a k)
       ·rw[aaG];show L.length+1≤16384;omega
      ·refine ai (mxL (n:=0+(L.getD a ay).2.length) (by omega) (by decide)) (ai (fun _ _=>rfl) ?_)
       refine ai (mxL (n:=0+(L.getD a ay).2.length+1) (by omega) (by decide)) (ai (aI 1 rfl) ?_)
       refine ai (mxL (n:=L.length+1) (by omega) (by decide)) (ai (aI 1 rfl) ?_)
       refine ei (k+1) (ai (ai rfl rfl) (ai (ai (ai rfl (ai (ai rfl rfl) (ai (ai rfl rfl) (ai (ai (ai (ai (fun _=>rfl) (aO (by omega))) rfl) (ai (ai rfl (ai rfl (ai ?_ ?_))) (ai rfl (ai rfl (ai ?_ ?_))))) (ai (ai rfl (ai ?_ ?_)) trivial))))) rfl) (ai (ai (iL (by omega)) ?_) (iM (by omega)))))
       all_goals rw[e]
       ·rw[aaG];rfl
       ·exact aV L (aC c L a k) (show dD (bf c (L.getD a ay).1 k).1=_ by rw[hcan])
       ·rw[aaG];rfl
       ·exact aW L (aC c L a k) (bV (L.getD a ay).2 k)
       ·rw[aaG];rfl
       ·exact aU L (aC c L a k)
       ·rw[aaG];show L.length+1≤16384;omega
     refine ai ?_ trivial
     refine ai (by show a<L.length;exact hak) ?_
     refine ai (mxL (n:=L.length+1) (by omega) (by decide)) (ai (lt1 rfl) ?_)
     refine eY mixed aB Tryz.func63 rfl rfl ?_
     refine ai rfl ?_
     intro b hb
     refine aY (fun hb0=>?_) (fun hb0=>?_)
     ·have hb1:(L.getD a ay).2.length=0:=hb hb0
      refine ai (ai (by decide) (by decide)) (ai (aI 1 rfl) ?_)
      refine ai (mxL (n:=L.length+1) (by omega) (by decide)) (ai (aI 1 rfl) ?_)
      refine ei (k+1) (ai (ai rfl rfl) (ai (ai (ai rfl (ai (ai rfl rfl) (ai (ai rfl rfl) (ai (ai (ai (ai (fun _=>rfl) (aO (by omega))) rfl) (ai (ai rfl (ai rfl (ai ?_ ?_))) (ai rfl (ai rfl (ai ?_ ?_))))) (ai (ai rfl (ai ?_ ?_)) trivial))))) rfl) (ai (ai (iL (by omega)) ?_) (iM (by omega)))))
      all_goals rw[e]
      ·rw[aaG];rfl
      ·exact aV L (aC c L a k) (show dD (bf c (L.getD a ay).1 k).1=_ by rw[hcan])
      ·rw[aaG];rfl
      ·exact aW L (aC c L a k) (dB hb1 k)
      ·rw[aaG];rfl
      ·exact aU L (aC c L a k)
      ·rw[aaG];show L.length+1≤16384;omega
     ·refine ai (mxL (n:=0+(L.getD a ay).2.length) (by omega) (by decide)) (ai (fun _ _=>rfl) ?_)
      refine ai (mxL (n:=0+(L.getD a ay).2.length+1) (by omega) (by decide)) (ai (aI 1 rfl) ?_)
      refine ai (mxL (n:=L.length+1) (by omega) (by decide)) (ai (aI 1 rfl) ?_)
      refine ei (k+1) (ai (ai rfl rfl) (ai (ai (ai rfl (ai (ai rfl rfl) (ai (ai rfl rfl) (ai (ai (ai (ai (fun _=>rfl) (aO (by omega))) rfl) (ai (ai rfl (ai rfl (ai ?_ ?_))) (ai rfl (ai rfl (ai ?_ ?_))))) (ai (ai rfl (ai ?_ ?_)) trivial))))) rfl) (ai (ai (iL (by omega)) ?_) (iM (by omega)))))
      all_goals rw[e]
      ·rw[aaG];rfl
      ·exact aV L (aC c L a k) (show dD (bf c (L.getD a ay).1 k).1=_ by rw[hcan])
      ·rw[aaG];rfl
      ·exact aW L (aC c L a k) (bV (L.getD a ay).2 k)
      ·rw[aaG];rfl
      ·exact aU L (aC c L a k)
      ·rw[aaG];show L.length+1≤16384;omega
    refine ai ?_ trivial
    refine ai (by show a<L.length;exact hak) ?_
    refine ai (mxL (n:=L.length+1) (by omega) (by decide)) (ai (lt1 rfl) ?_)
    refine eY mixed aB Tryz.func63 rfl rfl ?_
    refine ai rfl ?_
    intro b hb
    refine aY (fun hb0=>?_) (fun hb0=>?_)
    ·have hb1:(L.getD a ay).2.length=0:=hb hb0
     refine ai (ai (by decide) (by decide)) (ai (aI 1 rfl) ?_)
     refine ai (mxL (n:=L.length+1) (by omega) (by decide)) (ai (aI 1 rfl) ?_)
     refine ei (k+1) (ai (ai rfl rfl) (ai (ai (ai rfl (ai (ai rfl rfl) (ai (ai rfl rfl) (ai (ai (ai (ai (fun _=>rfl) (aO (by omega))) rfl) (ai (ai rfl (ai rfl (ai ?_ ?_))) (ai rfl (ai rfl (ai ?_ ?_))))) (ai (ai rfl (ai ?_ ?_)) trivial))))) rfl) (ai (ai (iL (by omega)) ?_) (iM (by omega)))))
     all_goals rw[e]
     ·rw[aaG];rfl
     ·exact aV L (aC c L a k) (show dD (bf c (L.getD a ay).1 k).1=_ by rw[hcan])
     ·rw[aaG];rfl
     ·exact aW L (aC c L a k) (dB hb1 k)
     ·rw[aaG];rfl
     ·exact aU L (aC c L a k)
     ·rw[aaG];show L.length+1≤16384;omega
    ·refine ai (mxL (n:=0+(L.getD a ay).2.length) (by omega) (by decide)) (ai (fun _ _=>rfl) ?_)
     refine ai (mxL (n:=0+(L.getD a ay).2.length+1) (by omega) (by decide)) (ai (aI 1 rfl) ?_)
     refine ai (mxL (n:=L.length+1) (by omega) (by decide)) (ai (aI 1 rfl) ?_)
     refine ei (k+1) (ai (ai rfl rfl) (ai (ai (ai rfl (ai (ai rfl rfl) (ai (ai rfl rfl) (ai (ai (ai (ai (fun _=>rfl) (aO (by omega))) rfl) (ai (ai rfl (ai rfl (ai ?_ ?_))) (ai rfl (ai rfl (ai ?_ ?_))))) (ai (ai rfl (ai ?_ ?_)) trivial))))) rfl) (ai (ai (iL (by omega)) ?_) (iM (by omega)))))
     all_goals rw[e]
     ·rw[aaG];rfl
     ·exact aV L (aC c L a k) (show dD (bf c (L.getD a ay).1 k).1=_ by rw[hcan])
     ·rw[aaG];rfl
     ·exact aW L (aC c L a k) (bV (L.getD a ay).2 k)
     ·rw[aaG];rfl
     ·exact aU L (aC c L a k)
     ·rw[aaG];show L.length+1≤16384;omega
  ·obtain rfl:k=c.trs.length:=by omega
   refine ei ((a+1,dR c l a c.trs.length)) (ai (ai rfl rfl) (ai (ai ?_ rfl) (ai ?_ ?_)))
   ·refine (ai rfl (ai (ai rfl rfl) (ai (ai rfl rfl) (ai (ai (ai (ai (fun _=>rfl) (aO (by omega))) rfl) (ai (ai rfl (ai rfl (ai rfl (fun _ _=>rfl)))) (ai rfl (ai rfl (ai rfl ?_))))) (ai (ai rfl (ai rfl (fun _=>rfl))) trivial)))))
    exact fun k _=>bM.rfl' _
   ·exact ⟨by show a+1≤(dR c l a c.trs.length).length;rw[ht,aaG];omega,hkl,⟨hgk,hways⟩,(amP h1 hkl).symm.trans (by rw[←hr,show 16385-a=16385-(a+1)+1 by omega])⟩
   ·show 16385-(a+1)<16385-a;omega
 ·have e:pJ c=some l:=by rw[←hr];exact amu (by omega)
  refine ai (ai (fun h=>absurd (show false=true from h) (by decide)) ?_) trivial
  show ak _ (wL c)
  rw[wL,e]
  exact (ai (ai rfl (fun _ _=>rfl)) (ai (ai rfl (fun _ _=>rfl)) rfl))
def kS (c:aQ):Int:=if bE c=0 then (match pJ c with | some _=>0 | none=>12) else bE c
def iT (c:aQ):List Mk:=if bE c=0 then (match pJ c with | some l=>l | none=>[]) else []
def um (c:aQ):PV:=.tup [afv (iT c),amA (iT c),iP (kS c)]
theorem amv {c:aQ} (h:bE c=0):wL c=um c:=by
 unfold wL um iT kS
 rw[if_pos h,if_pos h]
 cases pJ c<;>rfl
theorem uQ:aK Tryz.prog 60 (jq (fun c:aQ=>[kP c]) jr um):=by
 refine aX (Tb:=tab) mixed aB Tryz.func60 rfl rfl ?_
 rintro (c:aQ) hpre
 refine ai (ai rfl (ai rfl rfl)) ?_
 refine ei _ (ai (ak3) (ei (c) (ei [] (ai (a4 (ai (fun _=>Or.inl rfl) (ai nof (Or.inl rfl)))) (ai (by exact (ai rfl (ai (ai rfl (fun _ _=>rfl)) (ai (ai rfl (fun _ _=>rfl)) (ai rfl (fun _ _=>rfl)))))) (ai trivial (ai (hpre) ?_)))))))
 refine bD (p:=bE c=0) (bU (by omega)) (fun h1=>?_) (fun h1=>?_)
 ·have e1:kS c=bE c:=if_neg h1
  have e2:iT c=[]:=if_neg h1
  refine ai (ai (fun h=>absurd (show false=true from h) (by decide)) ?_) trivial
  show ak _ (um c)
  rw[um,e1,e2]
  exact (ai rfl (ai rfl rfl))
 refine ei _ (ai ((jo ajt c ⟨h1,hpre⟩ (r:=um c) (amv h1))) (ei (()) (ei [] (ai (a4 (ai (fun _=>Or.inl rfl) (ai nof (Or.inl rfl)))) (ai (by exact (ai rfl (ai (ai rfl (fun _ _=>rfl)) (ai (ai rfl (fun _ _=>rfl)) (ai rfl (fun _ _=>rfl)))))) (ai trivial (ai (trivial) ?_)))))))
 refine ai (ai (fun h=>absurd (show false=true from h) (by decide)) ?_) trivial
 show ak _ (um c)
 rw[um]
 exact (ai (ai rfl (fun _ _=>rfl)) (ai (ai rfl (fun _ _=>rfl)) rfl))
theorem qI {c:aQ} (h:kS c=0):bE c=0∧pJ c=some (iT c):=by
 unfold kS at h
 split at h
 ·rename_i h1
  refine ⟨h1,?_⟩
  unfold iT;rw[if_pos h1]
  cases e:pJ c with
  | none=>rw[e] at h;cases h
  | some l=>rfl
 ·rename_i h1;exact absurd h h1
theorem ag9 {c:aQ}:∀{f:Nat} {l r:List Mk} {a:Nat},a≤l.length→l.length≤16384→l7 c l→y9 a l→mM c f l a=some r→l7 c r∧r.length≤16384∧y9 16384 r
 | 0,l,r,a,ha,hl,hg,hw,h=>by
  obtain rfl:=Option.some.inj h
  exact ⟨hg,hl,fun y hy=>by have:=hw y hy;omega⟩
 | f+1,l,r,a,ha,hl,hg,hw,h=>by
  unfold mM at h
  split at h
  ·obtain rfl:=Option.some.inj h
   exact ⟨hg,hl,fun y hy=>by have:=hw y hy;omega⟩
  ·rename_i h1
   split at h
   ·cases h
   ·rename_i h2
    obtain ⟨t,ht⟩:=ow c l a c.trs.length
    exact ag9 (by rw[ht,aaG];omega) (by omega) (good_row hg (by omega) (agv _)) (adD (by omega) hw _) h
theorem qd {c:aQ} (h:kS c=0):l7 c (iT c)∧(iT c).length≤16384∧y9 16384 (iT c):=
 ag9 (aeu _) (by show 1≤16384;decide) (abC c) (fun y hy=>by simp only[mk1,ag4] at hy;subst hy;exact aeu _) (qI h).2
def bW (c:aQ) (i:Nat) (m:List Bool):Bool:=allM m (gP c i).fr
theorem al3 (c:aQ) (m:List Bool) (i:Nat):(bf c m i).2=bW c i m:=by
 unfold bf
 split
 ·rename_i h;exact h.symm
 ·rename_i h;exact (ar6.2 h).symm
def amn (c:aQ) (i:Nat) (m:List Bool):Prop:=bE c=0∧jr c∧m.length=c.sts.length∧i<c.trs.length
theorem alY:aK Tryz.prog 102 { A:=aQ×Nat×List Bool,args:=fun a=>[tq a.2.2,.p false (.pt (chK a.1) 0),.own 0 0],objs:=fun a=>[.cells 3 [iA a.2.1]],pre:=fun a=>amn a.1 a.2.1 a.2.2,res:=fun a=>bP (bW a.1 a.2.1 a.2.2),objs':=fun _=>[],fresh:=true,ro:=1 }:=by
 refine aX (Tb:=tab) mixed aB Tryz.func102 rfl rfl ?_
 rintro ⟨c,i,m⟩ hpre
 refine ai (ai rfl (ai rfl rfl)) ?_
 obtain ⟨hc,ho,hm,hi⟩:=hpre
 refine ei _ (ai ((jo vD (c,m,i) ⟨hc,ho,hm,hi⟩ (r:=.tup [tZ (bf c m i).1,bP (bW c i m)]) (by show uX c m i=_;unfold uX;rw[al3]))) (ei (()) (ei [] (ai (a4 (ai (fun _=>Or.inl rfl) (ai nof (Or.inl rfl)))) (ai (by exact (ai (ai rfl (ai (ai rfl (fun _ _=>rfl)) (ai (ai rfl (fun _ _=>rfl)) (ai rfl (fun _ _=>rfl))))) (ai (ai rfl (fun _ _=>rfl)) rfl))) (ai trivial (ai (trivial) ?_)))))))
 refine ai (ai (fun _=>trivial) ?_) trivial
 exact rfl
def aiz (c:aQ) (i:Nat) (l:List Mk):Prop:=bE c=0∧jr c∧i<c.trs.length∧l.length≤1000000∧∀y∈l,y.1.length=c.sts.length
theorem aoV:aK Tryz.prog 154 { A:=aQ×Nat×List Mk,args:=fun a=>[.p false (afv a.2.2),.fn 102 [.p false (.pt (chK a.1) 0),.own 0 0]],objs:=fun a=>[.cells 3 [iA a.2.1]],pre:=fun a=>aiz a.1 a.2.1 a.2.2,res:=fun a=>iP (gJ (fun y=>bW a.1 a.2.1 y.1) a.2.2),objs':=fun _=>[],fresh:=true,ro:=1 }:=by
 refine aX (Tb:=tab) mixed aB Tryz.func154 rfl rfl ?_
 rintro ⟨c,i,l⟩ hpre
 refine ai (ai rfl (ai rfl rfl)) ?_
 obtain ⟨hc,ho,hi,hl,hx⟩:=hpre
 have hl:l.length≤1000000:=hl
 refine ei (bF.inv { X:=Nat,up:=fun k=>[(8,.s (iA k))],uo:=fun k=>[],inv:=fun k=>k≤l.length∧(∀y∈l.take k,bW c i y.1=false),meas:=fun k=>l.length-k,x0:=0 }) ?_
 refine ai (ai (ai (by exact (a4 (ai rfl rfl))) (ai (by exact (ai (ai (fun _=>rfl) (iE (by simp only[zz,reduceCtorEq];rfl))) rfl)) (by exact trivial))) rfl) (ai (ai (aeu _) ?_) ?_)
 ·exact fun y hy=>absurd hy (by simp)
 intro (k:Nat) ⟨hk,hall⟩
 refine ah (p:=k<l.length) (au (by dsimp only;omega)) (fun h1=>?_) (fun h1=>?_)
 ·refine ai (ai (aa1 _) (iN (n:=l.length) (by omega))) (ai rfl ?_)
  refine ei (fQ (l.getD k ay).1) (ai (acG _) ?_)
  refine ei _ (ai (alY) (ei ((c,i,(l.getD k ay).1)) (ei [0] (ai (a4 (ai (fun _=>Or.inl rfl) (ai nof (Or.inl rfl)))) (ai (by exact (ai (ai rfl (fun _ _=>rfl)) (ai (ai rfl rfl) (ai rfl rfl)))) (ai (by exact (ai rfl rfl)) (ai (⟨hc,ho,hx _ (acI (bI ay h1)),hi⟩) ?_)))))))
  refine aZ (b:=bW c i (l.getD k ay).1) rfl (fun h2=>?_) (fun h2=>?_)
  ·refine ai (ai (fun _=>trivial) ?_) trivial
   show ak _ (iP (gJ (fun y=>bW c i y.1) l))
   rw[mZ (d:=ay) h1 h2 hall]
   exact rfl
  refine ei (k+1) (ai (ai rfl rfl) (ai (ai (ai rfl (ai (ai rfl rfl) (ai (ai rfl rfl) (ai (ai (ai (fun _=>rfl) (aO (by omega))) rfl) trivial)))) rfl) (ai (ai (iL (by omega)) ?_) (iM (by omega)))))
  intro y hy
  rw[aS ay h1] at hy
  rcases aia.1 hy with hy | hy
  ·exact hall y hy
  ·simp only[ag4] at hy;subst hy;exact h2
 ·obtain rfl:k=l.length:=by omega
  rw[agN] at hall
  refine ai (ai (fun _=>trivial) ?_) trivial
  show ak _ (iP (gJ (fun y=>bW c i y.1) l))
  rw[oK hall]
  exact rfl
theorem aou:aK Tryz.prog 103 { A:=aQ×Nat×List Mk,args:=fun a=>[.p false (afv a.2.2),.fn 102 [.p false (.pt (chK a.1) 0),.own 0 0]],objs:=fun a=>[.cells 3 [iA a.2.1]],pre:=fun a=>aiz a.1 a.2.1 a.2.2,res:=fun a=>bP (a.2.2.any fun y=>bW a.1 a.2.1 y.1),objs':=fun _=>[],fresh:=true,ro:=1 }:=by
 refine aX (Tb:=tab) mixed aB Tryz.func103 rfl rfl ?_
 rintro ⟨c,i,l⟩ hpre
 refine ai (ai rfl (ai rfl rfl)) ?_
 refine ei _ (ai (aoV) (ei ((c,i,l)) (ei [0] (ai (a4 (ai (fun _=>Or.inl rfl) (ai nof (Or.inl rfl)))) (ai (by exact (ai (ai rfl (fun _ _=>rfl)) (ai rfl (ai (ai rfl rfl) (ai rfl rfl))))) (ai (by exact (ai rfl rfl)) (ai (hpre) ?_)))))))
 refine ai (ai (fun _=>trivial) ?_) trivial
 show ak _ (bP (l.any fun y=>bW c i y.1))
 rw[(mK (fun y=>bW c i y.1) l).symm]
 exact rfl
def nE (c:aQ) (i:Nat):Bool:=!((iT c).any fun y=>bW c i y.1)
def ny (c:aQ):List Int:=if kS c=0 then mh (nE c) c.trs.length else []
def uq (c:aQ):PV:=.tup [l6 (ny c),iP (kS c)]
theorem aoR:aK Tryz.prog 31 (jq (fun c:aQ=>[kP c]) jr uq):=by
 refine iY [3000001] ?_
 refine aX (Tb:=tab) mixed aB Tryz.func31 rfl rfl ?_
 rintro (c:aQ) hpre
 refine ai (ai rfl (ai rfl rfl)) ?_
 have ho:jr c:=hpre
 refine ei _ (ai (uQ) (ei (c) (ei [] (ai (a4 (ai (fun _=>Or.inl rfl) (ai nof (Or.inl rfl)))) (ai (by exact (ai rfl (ai (ai rfl (fun _ _=>rfl)) (ai (ai rfl (fun _ _=>rfl)) (ai rfl (fun _ _=>rfl)))))) (ai trivial (ai (ho) ?_)))))))
 refine bD (p:=kS c=0) (bU (by omega)) (fun h1=>?_) (fun h1=>?_)
 ·refine ai (ai (fun h=>absurd (show false=true from h) (by decide)) ?_) trivial
  show ak _ (uq c)
  rw[uq,ny,if_neg h1]
  exact (ai rfl rfl)
 have hA:uq c=.tup [l6 (mh (nE c) c.trs.length),iP 0]:=by unfold uq ny;rw[if_pos h1,h1]
 obtain ⟨hc,hx⟩:=qI h1
 obtain ⟨hg,hl,hw⟩:=qd h1
 have h32:=(iG hc).2.2.2.1
 refine ei (bF.inv { X:=Nat,up:=fun k=>[(22,.s (iA k)),(7,isR (mh (nE c) k))],uo:=fun k=>[],inv:=fun k=>k≤c.trs.length∧(True),meas:=fun k=>c.trs.length-k,x0:=0 }) ?_
 refine ai (ai (ai (by exact (a4 (ai rfl rfl))) (ai (by exact (ai (ai (ai (fun _=>rfl) (iE (by simp only[zz,reduceCtorEq];rfl))) rfl) rfl)) (by exact trivial))) rfl) (ai (ai (aeu _) ?_) ?_)
 ·trivial
 intro (k:Nat) ⟨hk,_⟩
 have hfl:=abr (nE c) k
 refine ah (p:=k<c.trs.length) (au (by omega)) (fun h2=>?_) (fun h2=>?_)
 ·refine ei _ (ai (aou) (ei ((c,k,iT c)) (ei [2] (ai (a4 (ai (fun _=>Or.inl rfl) (ai nof (Or.inl rfl)))) (ai (by exact (ai (ai rfl (fun _ _=>rfl)) (ai rfl (ai (ai rfl rfl) (ai rfl rfl))))) (ai (by exact (ai rfl rfl)) (ai (⟨hc,ho,h2,by show (iT c).length≤1000000;omega,fun y hy=>(hg y hy).1⟩) ?_)))))))
  refine aZ (b:=!((iT c).any fun y=>bW c k y.1)) rfl (fun h3=>?_) (fun h3=>?_)
  ·have e:mh (nE c) (k+1)=mh (nE c) k++[(k:Int)]:=by rw[mh,if_pos (show nE c k=true from h3)]
   refine ai (mxL (n:=(mh (nE c) k).length+1) (by omega) (by decide)) (ai (aI 1 rfl) ?_)
   refine ei (k+1) (ai (ai rfl rfl) (ai (ai (ai rfl (ai (ai rfl rfl) (ai (ai rfl rfl) (ai (ai (ai (ai (fun _=>rfl) (aO (by omega))) rfl) (ai rfl (ai rfl (ai ?_ ?_)))) trivial)))) rfl) (ai (ai (iL (by omega)) trivial) (iM (by omega)))))
   ·rw[e,aaG];rfl
   ·rw[e];exact aoW _ _
  ·have e:mh (nE c) (k+1)=mh (nE c) k:=by rw[mh,if_neg (show ¬nE c k=true by unfold nE;rw[h3];decide)]
   refine ei (k+1) (ai (ai rfl rfl) (ai (ai (ai rfl (ai (ai rfl rfl) (ai (ai rfl rfl) (ai (ai (ai (ai (fun _=>rfl) (aO (by omega))) rfl) (ai rfl (ai rfl (ai ?_ ?_)))) trivial)))) rfl) (ai (ai (iL (by omega)) trivial) (iM (by omega)))))
   ·rw[e]
   ·rw[e];exact fun _ _=>rfl
 ·obtain rfl:k=c.trs.length:=by omega
  refine ai (ai (fun h=>absurd (show false=true from h) (by decide)) ?_) trivial
  show ak _ (uq c)
  rw[hA]
  exact (ai (ai rfl (fun _ _=>rfl)) rfl)
theorem tT {l:List Mk} {m:List Bool}:kJ l m=true↔∃y∈l,y.1=m:=by
 unfold kJ
 rw[arw]
 constructor
 ·rintro ⟨y,hy,h⟩;exact ⟨y,hy,of_decide_eq_true h⟩
 ·rintro ⟨y,hy,h⟩;exact ⟨y,hy,decide_eq_true h⟩
theorem agL {l t:List Mk} {m:List Bool} (h:kJ l m=true):kJ (l++t) m=true:=by
 obtain ⟨y,hy,e⟩:=tT.1 h
 exact tT.2 ⟨y,asR _ hy,e⟩
theorem abt {l t:List Mk} {a:Nat} (h:a<l.length):(l++t).getD a ay=l.getD a ay:=by
 rw[aaI,aaI,afl h]
def xY (c:aQ) (l:List Mk) (a:Nat):Prop:=∀k,k<c.trs.length→allM (l.getD a ay).1 (gP c k).fr=true→kJ l (kr (l.getD a ay).1 (gP c k))=true
theorem ajd {c:aQ} {l t:List Mk} {a:Nat} (ha:a<l.length) (h:xY c l a):xY c (l++t) a:=fun k hk hm=>by
 rw[abt ha] at hm ⊢
 exact agL (h k hk hm)
theorem afJ {c:aQ} {l:List Mk} {a:Nat} (ha:a<l.length):∀n,∀k,k<n→allM (l.getD a ay).1 (gP c k).fr=true→kJ (dR c l a n) (kr (l.getD a ay).1 (gP c k))=true
 | 0,k,hk,_=>absurd hk (aj9 _)
 | n+1,k,hk,hm=>by
  obtain ⟨⟨t,ht⟩,_⟩:=yO c (dR c l a n) a n
  show kJ (je c (dR c l a n) a n) _=true
  by_cases e:k<n
  ·rw[ht];exact agL (afJ ha n k e hm)
  ·obtain rfl:k=n:=by omega
   obtain ⟨t2,h2⟩:=ow c l a k
   have hg:(dR c l a k).getD a ay=l.getD a ay:=by rw[h2];exact abt ha
   unfold je adds aC
   rw[hg,hm,ah3]
   cases hn:kJ (dR c l a k) (kr (l.getD a ay).1 (gP c k)) with
   | true=>rw[if_neg (by decide)];exact hn
   | false=>
    rw[if_pos (show (!false)=true from rfl)]
    exact tT.2 ⟨_,asO _ (ag4.2 rfl),rfl⟩
def lM (l:List Mk):Prop:=(l.map (·.1)).Nodup
theorem ahE {c:aQ} {l:List Mk} {a k:Nat} (h:lM l):lM (je c l a k):=by
 unfold je
 split
 ·rename_i hn
  unfold adds at hn
  rw[afF] at hn
  unfold lM
  rw[arA,asN]
  refine ⟨h,by simp,fun x hx y hy e=>?_⟩
  simp only[anY,asG,ag4] at hy
  obtain ⟨z,hz,rfl⟩:=arq.1 hx
  have:kJ l (aC c l a k).1=true:=tT.2 ⟨z,hz,e.trans hy⟩
  rw[this] at hn;exact absurd hn.2 (by decide)
 ·exact h
theorem xA {c:aQ} {l:List Mk} {a:Nat} (h:lM l):∀n,lM (dR c l a n)
 | 0=>h
 | n+1=>ahE (xA h n)
theorem agh {c:aQ}:∀(f:Nat) (l:List Mk) (a:Nat) (L:List Mk),mM c f l a=some L→16385≤a+f→l.length≤16384→lM l→(∀b,b<a→b<l.length→xY c l b)→(∀b,b<L.length→xY c L b)∧lM L∧∃t,L=l++t
 | 0,l,a,L,h,hf,hl,hd,hs=>by
  cases h
  exact ⟨fun b hb=>hs b (by omega) hb,hd,[],(aqr _).symm⟩
 | f+1,l,a,L,h,hf,hl,hd,hs=>by
  rw[mM] at h
  split at h
  ·cases h
   exact ⟨fun b hb=>hs b (by omega) hb,hd,[],(aqr _).symm⟩
  rename_i ha
  split at h
  ·cases h
  rename_i hn
  obtain ⟨t,ht⟩:=ow c l a c.trs.length
  have ih:=agh f (dR c l a c.trs.length) (a+1) L h (by omega) (by omega) (xA hd _) fun b hb hbl=>by
   by_cases e:b<a
   ·have hb2:b<l.length:=by omega
    rw[ht];exact ajd hb2 (hs b e hb2)
   ·obtain rfl:b=a:=by omega
    have hb2:b<l.length:=by omega
    intro k hk hm
    have hg:(dR c l b c.trs.length).getD b ay=l.getD b ay:=by rw[ht];exact abt hb2
    rw[hg] at hm ⊢
    exact afJ hb2 _ k hk hm
  obtain ⟨h1,h2,t2,h3⟩:=ih
  exact ⟨h1,h2,t++t2,by rw[h3,ht,asf]⟩
theorem agl {c:aQ} {L:List Mk} (h:pJ c=some L):(∀b,b<L.length→xY c L b)∧lM L∧∃t,L=mk1 c++t:=
 agh 16385 (mk1 c) 0 L h (by omega) (by show 1≤16384;decide) (by simp[lM,mk1]) fun b hb=>absurd hb (aj9 _)
def abf:Nat→List (List Bool)
 | 0=>[[]]
 | n+1=>(abf n).map (true :: ·)++(abf n).map (false :: ·)
theorem aff:∀n,(abf n).length=2 ^ n
 | 0=>rfl
 | n+1=>by rw[abf,aaG,anB,anB,aff n,Nat.pow_succ];omega
theorem ahg:∀(n:Nat) (m:List Bool),m.length=n→m∈abf n
 | 0,m,h=>by rw[apC.1 h];simp[abf]
 | n+1,[],h=>by simp at h
 | n+1,b :: m,h=>by
  have ih:=ahg n m (by simpa using h)
  rw[abf,aia]
  cases b with
  | true=>exact .inl (arq.2 ⟨m,ih,rfl⟩)
  | false=>exact .inr (arq.2 ⟨m,ih,rfl⟩)
theorem afj {α:Type} [DecidableEq α]:∀(l L:List α),l.Nodup→(∀x∈l,x∈L)→l.length≤L.length
 | [],_,_,_=>aeu _
 | x :: l,L,hn,hs=>by
  rw[asL] at hn
  have hx:=hs x (anW ..)
  have ih:=afj l (L.erase x) hn.2 fun y hy=>(List.mem_erase_of_ne (fun e:y=x=>hn.1 (by rw[←e];exact hy))).2 (hs y (anX _ hy))
  rw[List.length_erase_of_mem hx] at ih
  have:0<L.length:=List.length_pos_of_mem hx
  rw[aiC];omega
theorem alk {c:aQ} {l:List Mk} (hg:l7 c l) (hd:lM l):l.length≤2 ^ c.sts.length:=by
 rw[←aff,←anB (f:=fun y:Mk=>y.1)]
 refine afj _ _ hd fun m hm=>?_
 obtain ⟨y,hy,rfl⟩:=arq.1 hm
 exact ahg _ _ (hg y hy).1
theorem agq {c:aQ} (h7:c.sts.length≤7) (hc:bE c=0):∀(f:Nat) (l:List Mk) (a:Nat),l7 c l→lM l→∃L,mM c f l a=some L
 | 0,l,a,_,_=>⟨l,rfl⟩
 | f+1,l,a,hg,hd=>by
  rw[mM]
  split
  ·exact ⟨l,rfl⟩
  rename_i ha
  have hg2:=good_row (a:=a) hg (by omega) (agv c.trs.length)
  have hd2:=xA (c:=c) (a:=a) hd c.trs.length
  have h1:=alk hg2 hd2
  have h2:2 ^ c.sts.length≤2 ^ 7:=Nat.pow_le_pow_right (by decide) h7
  rw[if_neg (by omega)]
  exact agq h7 hc f _ _ hg2 hd2
theorem aoG {c:aQ} (h7:c.sts.length≤7) (hc:bE c=0):kS c=0:=by
 obtain ⟨L,h⟩:=agq h7 hc 16385 (mk1 c) 0 (abC c) (by simp[lM,mk1])
 unfold kS pJ
 rw[if_pos hc,h]
structure mg where
 act:Int
 sts:List Stp
def sqK (s:mg):List PV:=[iP s.act,ajM s.sts]
def sqA (s:mg):SV:=.p false (.agg (sqK s))
def vk (l:List Sk) (k:Nat):Int:=if (l.getD k bJ).1<0∨6≤(l.getD k bJ).1 then 2 else if 0<k∧(l.getD k bJ).1=(l.getD (k-1) bJ).1 then 7 else if 0<k∧(l.getD k bJ).1<(l.getD (k-1) bJ).1 then 9 else 0
def jO (x:Stp):Int:=if x.st.length=0 then 13 else if 6<x.st.length then 5 else if ¬dz (vk x.st) x.st.length=0 then dz (vk x.st) x.st.length else if x.wt<0∨1000000<x.wt then 2 else 0
def al0 (x:Int):Bool:=decide (0≤x)&&decide (x<6)
theorem afO {x:Int}:al0 x=true↔0≤x∧x<6:=by unfold al0;rw[afF,decide_eq_true_iff,decide_eq_true_iff]
theorem ad1:aK Tryz.prog 168 (bR (fun x:Int=>[iA x]) (fun _=>True) (fun x=>bP (decide (0≤x)&&decide (x<6)))):=by
 refine aX (Tb:=tab) mixed aB Tryz.func168 rfl rfl ?_
 rintro (x:Int) hpre
 refine ai (ai rfl (ai rfl rfl)) ?_
 refine ah (p:=0≤x) (cu (by omega)) (fun h1=>?_) (fun h1=>?_)
 ·refine ai (ai (fun _=>trivial) ?_) trivial
  show ak _ (bP (decide (0≤x)&&decide (x<6)))
  rw[decide_eq_true h1,ah3]
  exact rfl
 ·refine ai (ai (fun _=>trivial) ?_) trivial
  show ak _ (bP (decide (0≤x)&&decide (x<6)))
  rw[decide_eq_false h1,anZ]
  exact rfl
def uz (l:List Sk) (k:Nat):Int:=if k=0 then -1 else (l.getD (k-1) bJ).1
def ar3:Spec:=bR (fun x:Stp=>[stA x]) (fun _=>True) (fun x=>iP (jO x))
theorem apu:aK Tryz.prog 164 ar3:=by
 refine aX (Tb:=tab) mixed aB Tryz.func164 rfl rfl ?_
 rintro (x:Stp) hpre
 refine ai (ai rfl (ai rfl rfl)) ?_
 refine ah (p:=x.st.length=0) (gV (by omega)) (fun h1=>?_) (fun h1=>?_)
 ·refine ai (ai (fun _=>trivial) ?_) trivial
  show ak _ (iP (jO x))
  rw[jO,if_pos h1]
  exact rfl
 refine ah (p:=6<x.st.length) (au (by omega)) (fun h2=>?_) (fun h2=>?_)
 ·refine ai (ai (fun _=>trivial) ?_) trivial
  show ak _ (iP (jO x))
  rw[jO,if_neg h1,if_pos h2]
  exact rfl
 have hA:∀e,dz (vk x.st) x.st.length=e→¬e=0→jO x=e:=fun e h h0=>by unfold jO;rw[if_neg h1,if_neg h2,if_pos (by rw[h];exact h0),h]
 refine ei (bF.inv { X:=Nat,up:=fun k=>[(19,.s (iA k)),(4,.s (iA (uz x.st k)))],uo:=fun k=>[],inv:=fun k=>k≤x.st.length∧(∀j,j<k→vk x.st j=0),meas:=fun k=>x.st.length-k,x0:=0 }) ?_
 refine ai (ai (ai (by exact (a4 (ai rfl rfl))) (ai (by exact (ai (ai (ai (fun _=>rfl) (iE (by simp only[zz,reduceCtorEq];rfl))) rfl) (ai (ai (fun _=>rfl) (iE (by simp only[zz,reduceCtorEq];rfl))) rfl))) (by exact trivial))) rfl) (ai (ai (aeu _) ?_) ?_)
 ·exact fun j hj=>absurd hj (aj9 _)
 intro (k:Nat) ⟨hk,hall⟩
 refine ah (p:=k<x.st.length) (au (by omega)) (fun h3=>?_) (fun h3=>?_)
 ·refine ai (ai (aa1 _) (iN (n:=x.st.length) (by omega))) (ai rfl ?_)
  refine ei _ (ai (ad1) (ei ((x.st.getD k bJ).1) (ei [] (ai (a4 (ai (fun _=>Or.inl rfl) (ai nof (Or.inl rfl)))) (ai (by exact (iE (by simp only[zz,reduceCtorEq]))) (ai trivial (ai (trivial) ?_)))))))
  refine aZ (b:=!al0 (x.st.getD k bJ).1) rfl (fun h4=>?_) (fun h4=>?_)
  ·have h4:¬(0≤(x.st.getD k bJ).1∧(x.st.getD k bJ).1<6):=by rw[←afO];simpa using h4
   have e:vk x.st k=2:=by unfold vk;rw[if_pos (by omega)]
   refine ai (ai (fun _=>trivial) ?_) trivial
   show ak _ (iP (jO x))
   rw[hA 2 ((cK h3 hall (by rw[e];decide)).trans e) (by decide)]
   exact rfl
  have h4:0≤(x.st.getD k bJ).1∧(x.st.getD k bJ).1<6:=by rw[←afO];simpa using h4
  refine ah (p:=(x.st.getD k bJ).1=uz x.st k) (by simp only[zz,reduceCtorEq]) (fun h5=>?_) (fun h5=>?_)
  ·have hk0:0<k:=by
    rcases aql k with e | e
    ·subst e;unfold uz at h5;rw[if_pos rfl] at h5;omega
    ·exact e
   have h5:(x.st.getD k bJ).1=(x.st.getD (k-1) bJ).1:=by unfold uz at h5;rwa [if_neg (by omega)] at h5
   have e:vk x.st k=7:=by unfold vk;rw[if_neg (by omega),if_pos ⟨hk0,h5⟩]
   refine ai (ai (fun _=>trivial) ?_) trivial
   show ak _ (iP (jO x))
   rw[hA 7 ((cK h3 hall (by rw[e];decide)).trans e) (by decide)]
   exact rfl
  refine ah (p:=(x.st.getD k bJ).1<uz x.st k) (au Iff.rfl) (fun h6=>?_) (fun h6=>?_)
  ·have hk0:0<k:=by
    rcases aql k with e | e
    ·subst e;unfold uz at h6;rw[if_pos rfl] at h6;omega
    ·exact e
   have h6:(x.st.getD k bJ).1<(x.st.getD (k-1) bJ).1:=by unfold uz at h6;rwa [if_neg (by omega)] at h6
   have e:vk x.st k=9:=by unfold vk;rw[if_neg (by omega),if_neg (by omega),if_pos ⟨hk0,h6⟩]
   refine ai (ai (fun _=>trivial) ?_) trivial
   show ak _ (iP (jO x))
   rw[hA 9 ((cK h3 hall (by rw[e];decide)).trans e) (by decide)]
   exact rfl
  refine ei (k+1) (ai (ai rfl rfl) (ai (ai (ai rfl (ai (ai rfl rfl) (ai (ai rfl rfl) (ai (ai (ai (ai (fun _=>rfl) (aO (by omega))) rfl) (ai (ai nof (iE (by simp only[zz,reduceCtorEq];rfl))) rfl)) trivial)))) rfl) (ai (ai (iL (by omega)) ?_) (iM (by omega)))))
  intro j hj
  by_cases hjk:j=k
  ·subst hjk
   unfold uz at h5 h6
   unfold vk
   rw[if_neg (by omega)]
   by_cases e0:j=0
   ·rw[if_neg (by omega),if_neg (by omega)]
   ·rw[if_neg e0] at h5 h6
    rw[if_neg (fun h=>h5 h.2),if_neg (fun h=>h6 h.2)]
  ·exact hall j (by omega)
 ·obtain rfl:k=x.st.length:=by omega
  have e2:dz (vk x.st) x.st.length=0:=fT hall
  have hB:jO x=if x.wt<0∨1000000<x.wt then 2 else 0:=by unfold jO;rw[if_neg h1,if_neg h2,if_neg (fun h=>h e2)]
  refine ah (p:=x.wt<0) (au (by omega)) (fun h7=>?_) (fun h7=>?_)
  ·refine ai (ai (fun _=>trivial) ?_) trivial
   show ak _ (iP (jO x))
   rw[hB,if_pos (.inl h7)]
   exact rfl
  refine ah (p:=1000000<x.wt) (au (by omega)) (fun h8=>?_) (fun h8=>?_)
  ·refine ai (ai (fun _=>trivial) ?_) trivial
   show ak _ (iP (jO x))
   rw[hB,if_pos (.inr h8)]
   exact rfl
  ·refine ai (ai (fun _=>trivial) ?_) trivial
   show ak _ (iP (jO x))
   rw[hB,if_neg (by omega)]
   exact rfl
theorem agf {m:List Bool} {j:Nat} (hj:j<m.length) (b:Bool) (k:Nat):pW (fQ m) j (bP b) k=fQ (m.set j b) k:=by
 unfold pW fQ
 rw[aaI,aaI,asy]
 by_cases h:k=j
 ·rw[if_pos h,if_pos h.symm,if_pos hj];rfl
 ·rw[if_neg h,if_neg (fun e=>h e.symm)]
def okS (n:Nat) (l:List Sk):Prop:=∀y∈l,0≤y.1∧y.1<(n:Int)
theorem vN {n:Nat} {l:List Sk} (h:okS n l) {k:Nat} (hk:k<l.length):0≤(l.getD k bJ).1∧(l.getD k bJ).1<(n:Int):=h _ (acI (bI bJ hk))
def rD (m:List Bool) (l:List Sk):List Bool:=l.foldl (fun m y=>m.set y.1.toNat y.2) m
theorem alG (m:List Bool) (l:List Sk) (y:Sk):rD m (l++[y])=(rD m l).set y.1.toNat y.2:=by unfold rD;rw[asw];rfl
theorem abe:∀(l:List Sk) (m:List Bool),(rD m l).length=m.length
 | [],_=>rfl
 | y :: l,m=>by
  show (rD (m.set y.1.toNat y.2) l).length=_
  rw[abe l,asu]
theorem wO {x:Stp} (h:jO x=0):(0<x.st.length∧x.st.length≤6)∧okS 6 x.st∧0≤x.wt∧x.wt≤1000000:=by
 unfold jO at h
 split at h
 ·cases h
 rename_i h1
 split at h
 ·cases h
 rename_i h2
 split at h
 ·rename_i h3;exact absurd h h3
 rename_i h3
 split at h
 ·cases h
 rename_i h4
 refine ⟨⟨by omega,by omega⟩,fun y hy=>?_,by omega,by omega⟩
 obtain ⟨i,hi,rfl⟩:=apT hy
 have h5:=ng (arn.1 h3) i hi
 unfold vk at h5
 have hg:x.st.getD i bJ=x.st[i]:=by rw[aaI,aaQ hi];rfl
 rw[hg] at h5
 split at h5
 ·cases h5
 ·omega
def enP (m:List Bool):PV:=.arr 6 (fQ m)
def enA (m:List Bool):SV:=.p false (enP m)
def enO (m:List Bool):Ob:=.arr 194 6 (fQ m)
def ae1 (act:Int) (l:List Sk):Bool:=l.any fun y=>decide (act≤y.1)
def atE (m:List Bool) (l:List Sk):Bool:=l.any fun y=>gL m y.1==y.2
def nH (act:Int) (x:Stp) (m:List Bool):Int:=if ¬jO x=0 then jO x else if ae1 act x.st then 6 else if atE m x.st then 14 else 0
theorem ao4:aK Tryz.prog 130 (bR (fun a:mg×Stp×List Bool=>[sqA a.1,stA a.2.1,enA a.2.2]) (fun a=>a.1.act≤6) (fun a=>iP (nH a.1.act a.2.1 a.2.2))):=by
 refine aX (Tb:=tab) mixed aB Tryz.func130 rfl rfl ?_
 rintro ⟨s,x,m⟩ hpre
 refine ai (ai rfl (ai rfl rfl)) ?_
 have ha:s.act≤6:=hpre
 refine ei _ (ai (apu) (ei (x) (ei [] (ai (a4 (ai (fun _=>Or.inl rfl) (ai nof (Or.inl rfl)))) (ai (by exact (ai (ai rfl (fun _ _=>rfl)) rfl)) (ai trivial (ai (trivial) ?_)))))))
 refine bD (p:=jO x=0) (bU (by omega)) (fun h1=>?_) (fun h1=>?_)
 ·refine ai (ai (fun _=>trivial) ?_) trivial
  show ak _ (iP (nH s.act x m))
  rw[nH,if_pos h1]
  exact rfl
 obtain ⟨⟨_,h6⟩,hx,_⟩:=wO h1
 refine ei (bF.inv { X:=Nat,up:=fun k=>[(20,.s (iA k))],uo:=fun k=>[],inv:=fun k=>k≤x.st.length∧(∀y∈x.st.take k,decide (s.act≤y.1)=false),meas:=fun k=>x.st.length-k,x0:=0 }) ?_
 refine ai (ai (ai (by exact (a4 (ai rfl rfl))) (ai (by exact (ai (ai (fun _=>rfl) (iE (by simp only[zz,reduceCtorEq];rfl))) rfl)) (by exact trivial))) rfl) (ai (ai (aeu _) ?_) ?_)
 ·exact fun y hy=>absurd hy (by simp)
 intro (k:Nat) ⟨hk,hall⟩
 refine ah (p:=k<x.st.length) (au (by dsimp only;omega)) (fun h2=>?_) (fun h2=>?_)
 ·refine ai (ai (aa1 _) (iN (n:=x.st.length) (by omega))) (ai rfl ?_)
  refine ah (p:=s.act≤(x.st.getD k bJ).1) (cu Iff.rfl) (fun h3=>?_) (fun h3=>?_)
  ·have e:ae1 s.act x.st=true:=agE (d:=bJ) h2 (decide_eq_true h3)
   refine ai (ai (fun _=>trivial) ?_) trivial
   show ak _ (iP (nH s.act x m))
   rw[nH,if_neg (fun h=>h h1),if_pos e]
   exact rfl
  refine ei (k+1) (ai (ai rfl rfl) (ai (ai (ai rfl (ai (ai rfl rfl) (ai (ai rfl rfl) (ai (ai (ai (fun _=>rfl) (aO (by omega))) rfl) trivial)))) rfl) (ai (ai (iL (by omega)) ?_) (iM (by omega)))))
  intro y hy
  rw[aS bJ h2] at hy
  rcases aia.1 hy with hy | hy
  ·exact hall y hy
  ·simp only[ag4] at hy;subst hy;exact decide_eq_false h3
 ·obtain rfl:k=x.st.length:=by omega
  rw[agN] at hall
  have eo:ae1 s.act x.st=false:=asx.2 (fun y hy=>by rw[hall y hy];decide)
  refine ei (bF.inv { X:=Nat,up:=fun j=>[(33,.s (iA j))],uo:=fun j=>[],inv:=fun j=>j≤x.st.length∧(∀y∈x.st.take j,(gL m y.1==y.2)=false),meas:=fun j=>x.st.length-j,x0:=0 }) ?_
  refine ai (ai (ai (by exact (a4 (ai rfl rfl))) (ai (by exact (ai (ai (fun _=>rfl) (iE (by simp only[zz,reduceCtorEq];rfl))) rfl)) (by exact trivial))) rfl) (ai (ai (aeu _) ?_) ?_)
  ·exact fun y hy=>absurd hy (by simp)
  intro (j:Nat) ⟨hj,hal⟩
  refine ah (p:=j<x.st.length) (au (by dsimp only;omega)) (fun h4=>?_) (fun h4=>?_)
  ·refine ai (ai (aa1 _) (iN (n:=x.st.length) (by omega))) (ai rfl ?_)
   have hxj:=vN hx h4
   refine ei (.seq [0,1,2,3,4,5,6]) (ai (by kernel_rfl) ?_)
   refine ai hxj ?_
   refine ai (by show 0+(x.st.getD j bJ).1.toNat*1<6;omega) ?_
   refine ah (p:=(gL m (x.st.getD j bJ).1==(x.st.getD j bJ).2)=true) (by (show (m.getD (0+(x.st.getD j bJ).1.toNat*1) false==(x.st.getD j bJ).2)=true↔_;rw[apS,aip];exact Iff.rfl)) (fun h5=>?_) (fun h5=>?_)
   ·have e:atE m x.st=true:=agE (d:=bJ) h4 h5
    refine ai (ai (fun _=>trivial) ?_) trivial
    show ak _ (iP (nH s.act x m))
    rw[nH,if_neg (fun h=>h h1),if_neg (by rw[eo];decide),if_pos e]
    exact rfl
   refine ei (j+1) (ai (ai rfl rfl) (ai (ai (ai rfl (ai (ai rfl rfl) (ai (ai rfl rfl) (ai (ai (ai (fun _=>rfl) (aO (by omega))) rfl) trivial)))) rfl) (ai (ai (iL (by omega)) ?_) (iM (by omega)))))
   intro y hy
   rw[aS bJ h4] at hy
   rcases aia.1 hy with hy | hy
   ·exact hal y hy
   ·simp only[ag4] at hy;subst hy;exact ar6.2 h5
  ·obtain rfl:j=x.st.length:=by omega
   rw[agN] at hal
   have e:atE m x.st=false:=asx.2 (fun y hy=>by rw[hal y hy];decide)
   refine ai (ai (fun _=>trivial) ?_) trivial
   show ak _ (iP (nH s.act x m))
   rw[nH,if_neg (fun h=>h h1),if_neg (by rw[eo];decide),if_neg (by rw[e];decide)]
   exact rfl
theorem akH:aK Tryz.prog 131 (jq (fun a:List Bool×Stp=>[enA a.1,stA a.2]) (fun a=>a.1.length≤6∧okS a.1.length a.2.st∧a.2.st.length≤1000000) (fun a=>enP (rD a.1 a.2.st))):=by
 refine aX (Tb:=tab) mixed aB Tryz.func131 rfl rfl ?_
 rintro ⟨m,x⟩ hpre
 refine ai (ai rfl (ai rfl rfl)) ?_
 obtain ⟨hm,hx,hl⟩:=hpre
 have hm:m.length≤6:=hm
 have hx:okS m.length x.st:=hx
 have hl:x.st.length≤1000000:=hl
 refine ei (bF.inv { X:=Nat,up:=fun k=>[(10,.s (iA k))],uo:=fun k=>[⟨0,194,[.ob (enO (rD m (x.st.take k)))]⟩],inv:=fun k=>k≤x.st.length∧(True),meas:=fun k=>x.st.length-k,x0:=0 }) ?_
 refine ai (ai (ai (by exact (a4 (ai rfl rfl))) (ai ?_ ?_)) rfl) (ai (ai (aeu _) ?_) ?_)
 ·exact (ai (ai (fun _=>rfl) (iE (by simp only[zz,reduceCtorEq];rfl))) rfl)
 ·exact (ai (ai rfl (ai rfl (fun _ _=>rfl))) trivial)
 ·trivial
 intro (k:Nat) ⟨hk,_⟩
 refine ah (p:=k<x.st.length) (au (by dsimp only;omega)) (fun h1=>?_) (fun h1=>?_)
 ·refine ai (ai (aa1 _) (iN (n:=x.st.length) (by omega))) (ai rfl ?_)
  have hxk:=vN hx h1
  refine ai (by show 0≤(x.st.getD k bJ).1∧(x.st.getD k bJ).1<6;omega) ?_
  refine ai (by show 0+(x.st.getD k bJ).1.toNat*1<6;omega) ?_
  refine ei (k+1) (ai (ai rfl rfl) (ai (ai (ai rfl (ai (ai rfl rfl) (ai (ai rfl rfl) (ai (ai (ai (fun _=>rfl) (aO (by omega))) rfl) (ai (ai rfl (ai rfl ?_)) trivial))))) rfl) (ai (ai (iL (by omega)) trivial) (iM (by omega)))))
  intro q hq
  show pW (fQ (rD m (x.st.take k))) (0+(x.st.getD k bJ).1.toNat*1) (bP (x.st.getD k bJ).2) q=fQ (rD m (x.st.take (k+1))) q
  rw[aip,apS,agf (by rw[abe];omega),aS bJ h1,alG]
 ·obtain rfl:k=x.st.length:=by omega
  rw[agN]
  refine ai (ai (fun _=>(by exact (fun _ _=>rfl))) ?_) trivial
  exact (ai rfl (fun _ _=>rfl))
def zeroE (act:Int):List Bool:=List.replicate act.toNat false
def iq (act:Int) (l:List Stp) (k:Nat):List Bool:=(l.take k).foldl (fun m x=>rD m x.st) (zeroE act)
def jW (act:Int) (l:List Stp) (k:Nat):List Bool:=(l.take k).foldl (fun m x=>bC m (x.st.map (·.1)) true) (zeroE act)
theorem aho {act:Int} {l:List Stp} {k:Nat} (h:k<l.length):iq act l (k+1)=rD (iq act l k) (l.getD k st0).st:=by unfold iq;rw[aS st0 h,asw];rfl
theorem aju {act:Int} {l:List Stp} {k:Nat} (h:k<l.length):jW act l (k+1)=bC (jW act l k) ((l.getD k st0).st.map (·.1)) true:=by unfold jW;rw[aS st0 h,asw];rfl
theorem za {α β:Type} {f:List β→α→List β} (hf:∀m x,(f m x).length=m.length):∀(l:List α) (m:List β),(l.foldl f m).length=m.length
 | [],_=>rfl
 | x :: l,m=>by rw[asV,za hf l,hf]
theorem ajL (act:Int) (l:List Stp) (k:Nat):(iq act l k).length=act.toNat:=by
 refine (za (f:=fun m (x:Stp)=>rD m x.st) (fun m x=>abe x.st m) (l.take k) (zeroE act)).trans ?_
 unfold zeroE;rw[ar9]
theorem akW (act:Int) (l:List Stp) (k:Nat):(jW act l k).length=act.toNat:=by
 refine (za (f:=fun m (x:Stp)=>bC m (x.st.map (·.1)) true) (fun m x=>dF true (x.st.map (·.1)) m) (l.take k) (zeroE act)).trans ?_
 unfold zeroE;rw[ar9]
def wC (s:mg):Int:=dz (fun k=>nH s.act (s.sts.getD k st0) (iq s.act s.sts k)) s.sts.length
def kL (s:mg):Int:=
 if s.act<1∨6<s.act then 2 else if s.sts.length=0 then 13 else if 64<s.sts.length then 5 else if ¬wC s=0 then wC s
 else if (iq s.act s.sts s.sts.length).any id=true then 9 else if ((jW s.act s.sts s.sts.length).any fun y=>false==y)=true then 13 else 0
theorem aq7:∀{m:List Bool},m.length≤6→(!((m.getD 0 false==false)&&((m.getD 1 false==false)&&((m.getD 2 false==false)&&((m.getD 3 false==false)&&((m.getD 4 false==false)&&((m.getD 5 false==false)&&true)))))))=m.any id
 | [],_=>rfl
 | [a],_=>by cases a<;>rfl
 | [a,b],_=>by cases a<;>cases b<;>rfl
 | [a,b,c],_=>by cases a<;>cases b<;>cases c<;>rfl
 | [a,b,c,d],_=>by cases a<;>cases b<;>cases c<;>cases d<;>rfl
 | [a,b,c,d,e],_=>by cases a<;>cases b<;>cases c<;>cases d<;>cases e<;>rfl
 | [a,b,c,d,e,f],_=>by cases a<;>cases b<;>cases c<;>cases d<;>cases e<;>cases f<;>rfl
 | _ :: _ :: _ :: _ :: _ :: _ :: _ :: _,h=>by simp at h
theorem apc (l:List Sk) {j:Nat} (h:j<l.length):(l.map (·.1)).getD j 0=(l.getD j bJ).1:=by
 rw[aaI,aaI,alr,aaQ h];rfl
theorem afX {act:Int} {x:Stp} {m:List Bool} (h:nH act x m=0):jO x=0∧∀y∈x.st,0≤y.1∧y.1<act:=by
 unfold nH at h
 split at h
 ·rename_i h1;exact absurd h h1
 rename_i h1
 have h1:=arn.1 h1
 split at h
 ·cases h
 rename_i h2
 refine ⟨h1,fun y hy=>⟨((wO h1).2.1 y hy).1,?_⟩⟩
 have:ae1 act x.st=false:=by simpa using h2
 have:=asx.1 this y hy
 simpa using this
theorem acA:∀k,k<6→lD (vals (List.replicate 6 (.bool false))) k=fQ [] k:=fun k hk=>by
 match k,hk with
 | 0,_=>rfl | 1,_=>rfl | 2,_=>rfl | 3,_=>rfl | 4,_=>rfl | 5,_=>rfl
theorem agr (act:Int) (k:Nat):fQ (zeroE act) k=fQ [] k:=by
 unfold fQ zeroE
 rw[aaI,asB]
 split<;>rfl
theorem akr:aK Tryz.prog 67 (bR (fun s:mg=>[sqA s]) (fun _=>True) (fun s=>iP (kL s))):=by
 refine aX (Tb:=tab) mixed aB Tryz.func67 rfl rfl ?_
 rintro (s:mg) hpre
 refine ai (ai rfl (ai rfl rfl)) ?_
 refine ah (p:=s.act<1) (au (by omega)) (fun h1=>?_) (fun h1=>?_)
 ·refine ai (ai (fun _=>trivial) ?_) trivial
  show ak _ (iP (kL s))
  rw[kL,if_pos (.inl h1)]
  exact rfl
 refine ah (p:=6<s.act) (au (by omega)) (fun h2=>?_) (fun h2=>?_)
 ·refine ai (ai (fun _=>trivial) ?_) trivial
  show ak _ (iP (kL s))
  rw[kL,if_pos (.inr h2)]
  exact rfl
 have e0:¬(s.act<1∨6<s.act):=fun h=>h.elim h1 h2
 refine ah (p:=s.sts.length=0) (gV (by omega)) (fun h3=>?_) (fun h3=>?_)
 ·refine ai (ai (fun _=>trivial) ?_) trivial
  show ak _ (iP (kL s))
  rw[kL,if_neg e0,if_pos h3]
  exact rfl
 refine ah (p:=64<s.sts.length) (au (by omega)) (fun h4=>?_) (fun h4=>?_)
 ·refine ai (ai (fun _=>trivial) ?_) trivial
  show ak _ (iP (kL s))
  rw[kL,if_neg e0,if_neg h3,if_pos h4]
  exact rfl
 have hA:kL s=if ¬wC s=0 then wC s else if (iq s.act s.sts s.sts.length).any id=true then 9 else if ((jW s.act s.sts s.sts.length).any fun y=>false==y)=true then 13 else 0:=by
  unfold kL;rw[if_neg e0,if_neg h3,if_neg h4]
 refine ei (bF.inv { X:=Nat,up:=fun k=>[(32,.s (iA k))],uo:=fun k=>[⟨1,194,[.ob (enO (iq s.act s.sts k))]⟩,⟨2,194,[.ob (enO (jW s.act s.sts k))]⟩],inv:=fun k=>k≤s.sts.length∧(∀j,j<k→nH s.act (s.sts.getD j st0) (iq s.act s.sts j)=0),meas:=fun k=>s.sts.length-k,x0:=0 }) ?_
 refine ai (ai (ai (by exact (a4 (ai rfl rfl))) (ai ?_ ?_)) rfl) (ai (ai (aeu _) ?_) ?_)
 ·exact (ai (ai (fun _=>rfl) (iE (by simp only[zz,reduceCtorEq];rfl))) rfl)
 ·refine (ai (ai rfl (ai rfl ?_)) (ai (ai rfl (ai rfl ?_)) trivial))
  ·exact fun q hq=>(acA q hq).trans (agr s.act q).symm
  ·exact fun q hq=>(acA q hq).trans (agr s.act q).symm
 ·exact fun j hj=>absurd hj (aj9 _)
 intro (k:Nat) ⟨hk,hall⟩
 have hel:=ajL s.act s.sts k
 have hml:=akW s.act s.sts k
 refine ah (p:=k<s.sts.length) (au (by omega)) (fun h5=>?_) (fun h5=>?_)
 ·refine ai (ai (aa1 _) (iN (n:=s.sts.length) (by omega))) (ai rfl ?_)
  refine ei _ (ai (ao4) (ei ((s,s.sts.getD k st0,iq s.act s.sts k)) (ei [] (ai (a4 (ai (fun _=>Or.inl rfl) (ai nof (Or.inl rfl)))) (ai (by exact (ai (ai rfl (ai rfl (fun _ _=>rfl))) (ai (ai (ai rfl (fun _ _=>rfl)) (iE (by simp only[zz,reduceCtorEq]))) (ai rfl (fun _ _=>rfl))))) (ai trivial (ai ((by show s.act≤6;omega)) ?_)))))))
  refine bD (p:=nH s.act (s.sts.getD k st0) (iq s.act s.sts k)=0) (bU (by dsimp only;omega)) (fun h6=>?_) (fun h6=>?_)
  ·have e:wC s=nH s.act (s.sts.getD k st0) (iq s.act s.sts k):=cK (f:=fun k=>nH s.act (s.sts.getD k st0) (iq s.act s.sts k)) h5 hall h6
   refine ai (ai (fun _=>trivial) ?_) trivial
   show ak _ (iP (kL s))
   rw[hA,if_pos (show ¬wC s=0 by rw[e];exact h6),e]
   exact rfl
  obtain ⟨hck,hso⟩:=afX h6
  have h6l:=(wO hck).1.2
  have hokS:okS s.act.toNat (s.sts.getD k st0).st:=fun y hy=>by have:=hso y hy;omega
  refine ei _ (ai ((jo akH (iq s.act s.sts k,s.sts.getD k st0) ⟨by show (iq s.act s.sts k).length≤6;omega,by show okS (iq s.act s.sts k).length _;rw[hel];exact hokS,by show (s.sts.getD k st0).st.length≤1000000;omega⟩ (r:=enP (iq s.act s.sts (k+1))) (by rw[aho h5]))) (ei (()) (ei [] (ai (a4 (ai (fun _=>Or.inl rfl) (ai nof (Or.inl rfl)))) (ai (by exact (ai (ai rfl (fun _ _=>rfl)) (ai (ai rfl (fun _ _=>rfl)) (iE (by simp only[zz,reduceCtorEq]))))) (ai trivial (ai (trivial) ?_)))))))
  refine ei (bF.inv { X:=Nat,up:=fun j=>[(49,.s (iA j))],uo:=fun j=>[⟨2,194,[.ob (enO (bC (jW s.act s.sts k) (((s.sts.getD k st0).st.map (·.1)).take j) true))]⟩],inv:=fun j=>j≤(s.sts.getD k st0).st.length∧(True),meas:=fun j=>(s.sts.getD k st0).st.length-j,x0:=0 }) ?_
  refine ai (ai (ai (by exact (a4 (ai rfl rfl))) (ai ?_ ?_)) rfl) (ai (ai (aeu _) ?_) ?_)
  ·exact (ai (ai (fun _=>rfl) (iE (by simp only[zz,reduceCtorEq];rfl))) rfl)
  ·exact (ai (ai rfl (ai rfl (fun _ _=>rfl))) trivial)
  ·trivial
  intro (j:Nat) ⟨hj,_⟩
  refine ah (p:=j<(s.sts.getD k st0).st.length) (by simp only[zz,reduceCtorEq];omega) (fun h7=>?_) (fun h7=>?_)
  ·refine ai (ai (aa1 _) (iN (n:=(s.sts.getD k st0).st.length) (by omega))) (ai rfl ?_)
   have hxj:=vN hokS h7
   refine ai (by show 0≤((s.sts.getD k st0).st.getD j bJ).1∧((s.sts.getD k st0).st.getD j bJ).1<6;omega) ?_
   refine ai (by show 0+((s.sts.getD k st0).st.getD j bJ).1.toNat*1<6;omega) ?_
   refine ei (j+1) (ai (ai rfl rfl) (ai (ai (ai rfl (ai (ai rfl rfl) (ai (ai rfl rfl) (ai (ai (ai (fun _=>rfl) (aO (by omega))) rfl) (ai (ai rfl (ai rfl ?_)) trivial))))) rfl) (ai (ai (iL (by omega)) trivial) (iM (by omega)))))
   intro q hq
   show pW (fQ (bC (jW s.act s.sts k) (((s.sts.getD k st0).st.map (·.1)).take j) true)) (0+((s.sts.getD k st0).st.getD j bJ).1.toNat*1) (bP true) q=fQ (bC (jW s.act s.sts k) (((s.sts.getD k st0).st.map (·.1)).take (j+1)) true) q
   have eg:=apc (s.sts.getD k st0).st h7
   rw[aip,apS,agf (by rw[dF];omega),aS 0 (by rw[anB];exact h7),nA,eg]
  ·obtain rfl:j=(s.sts.getD k st0).st.length:=by omega
   have e9:bC (jW s.act s.sts k) (((s.sts.getD k st0).st.map (·.1)).take (s.sts.getD k st0).st.length) true=jW s.act s.sts (k+1):=by
    rw[aju h5,asc (by rw[anB];exact agv _)]
   refine ei (k+1) (ai (ai rfl rfl) (ai (ai (ai rfl (ai (ai rfl rfl) (ai (ai rfl rfl) (ai (ai (ai (fun _=>rfl) (aO (by omega))) rfl) (ai (ai rfl (ai rfl (fun _ _=>rfl))) (ai (ai rfl (ai rfl ?_)) trivial)))))) rfl) (ai (ai (iL (by omega)) ?_) (iM (by omega)))))
   ·exact fun q hq=>by rw[←e9]
   ·intro i hi
    by_cases e:i=k
    ·subst e;exact h6
    ·exact hall i (by omega)
 ·obtain rfl:k=s.sts.length:=by omega
  have e1:wC s=0:=fT hall
  refine ah (p:=(iq s.act s.sts s.sts.length).any id=true) (by (rw[←aq7 (m:=iq s.act s.sts s.sts.length) (by omega)];first | done | exact Iff.rfl)) (fun h8=>?_) (fun h8=>?_)
  ·refine ai (ai (fun _=>trivial) ?_) trivial
   show ak _ (iP (kL s))
   rw[hA,if_neg (fun h=>h e1),if_pos h8]
   exact rfl
  refine ai (ai (by decide) (ai (by show 0≤s.act;omega) (by show s.act≤6;omega))) ?_
  refine ei _ (ai (aoZ) (ei ((jW s.act s.sts s.sts.length,false)) (ei [] (ai (ai rfl (ai rfl (ai rfl (ai rfl (ai (fun _=>Or.inl rfl) (ai (fun _=>ai rfl rfl) (Or.inl rfl))))))) (ai ?_ (ai (by exact trivial) (ai ((by show (jW s.act s.sts s.sts.length).length≤1000000;omega)) ?_)))))))
  ·refine (ai (ai rfl (ai ?_ ?_)) rfl)
   ·show s.act.toNat-(0:Int).toNat=(jW s.act s.sts s.sts.length).length
    rw[hml];rfl
   ·intro q hq
    show [fQ (jW s.act s.sts s.sts.length) ((0:Int).toNat+q)]=_
    rw[show (0:Int).toNat+q=q by simp];rfl
  refine aZ (b:=(jW s.act s.sts s.sts.length).any fun y=>false==y) rfl (fun h9=>?_) (fun h9=>?_)
  ·refine ai (ai (fun _=>trivial) ?_) trivial
   show ak _ (iP (kL s))
   rw[hA,if_neg (fun h=>h e1),if_neg h8,if_pos h9]
   exact rfl
  ·refine ai (ai (fun _=>trivial) ?_) trivial
   show ak _ (iP (kL s))
   rw[hA,if_neg (fun h=>h e1),if_neg h8,if_neg (by rw[h9];decide)]
   exact rfl
theorem ad7 (b:Bool) (l:List Int) (m:List Bool) {i:Nat} (hi:i<m.length):(bC m l b).getD i false=if l.any (fun k=>k.toNat==i) then b else m.getD i false:=by
 induction l generalizing m with
 | nil=>rfl
 | cons k l ih=>
  show (bC (m.set k.toNat b) l b).getD i false=_
  rw[ih (m.set k.toNat b) (by rw[asu];exact hi),asJ]
  by_cases e:k.toNat=i
  ·rw[beq_iff_eq.2 e,alq,if_pos rfl]
   split
   ·rfl
   ·rw[aaI,asy,if_pos e,if_pos (by omega)];rfl
  ·rw[beq_eq_false_iff_ne.2 e,apE]
   congr 1
   rw[aaI,asy,if_neg e,aaI]
def u7 (n:Int):Ex:=.node 1 n []
def tL (n:Int):List PV:=[iP 1,iP n,.val (.slice none 0 0)]
def mE (y:Sk):Int:=2*y.1+if y.2 then 1 else 0
def agA (l:List Sk):Ex:=match l with
 | [y]=>u7 (mE y)
 | l=>.node 3 0 (l.map fun y=>u7 (mE y))
def wM (l:List Sk) (k:Nat):List PV:=tL (mE (l.getD k bJ))
abbrev C3 := PV × PV × PV
def xP (c:C3):List PV:=[c.1,c.2.1,c.2.2]
def zo (n:Int):C3:=(iP 1,iP n,.val (.slice none 0 0))
def kZ (l:List Sk):C3:=(if l.length=1 then iP 1 else iP 3,if l.length=1 then iP (mE (l.getD 0 bJ)) else iP 0,if l.length=1 then .val (.slice none 0 0) else .seq l.length (wM l))
def abz (l:List Sk):List PV:=xP (kZ l)
theorem afP {l:List Sk} (h:l.length=1):abz l=tL (mE (l.getD 0 bJ)):=by unfold abz xP kZ;simp only[h,if_true];rfl
theorem aer {l:List Sk} (h:¬l.length=1):abz l=[iP 3,iP 0,.seq l.length (wM l)]:=by unfold abz xP kZ;simp only[h,if_false]
theorem nP:aK Tryz.prog 69 (bR (fun n:Int=>[iA n]) (fun _=>True) (fun n=>.agg (tL n))):=by
 refine aX (Tb:=tab) mixed aB Tryz.func69 rfl rfl ?_
 rintro (n:Int) hpre
 refine ai (ai rfl (ai rfl rfl)) ?_
 refine ai (ai (fun _=>trivial) ?_) trivial
 exact (ai rfl (ai rfl rfl))
def afI (l:List Sk):Prop:=l.length≤1000∧okS 6 l
theorem aqm {l:List Sk} (h:afI l) {k:Nat} (hk:k<l.length):0≤(l.getD k bJ).1∧(l.getD k bJ).1<6:=by
 have:=vN h.2 hk;omega
def arS (l:List Sk) (k:Nat):LV:=.rw 79 3 k (wM l)
theorem afH (l:List Sk) (k:Nat):∀j,j<k+1→bQ k (wM l) (bg 3 (tL (mE (l.getD k bJ)))) j=wM l j:=by
 intro j hj
 unfold bQ
 by_cases h:j<k
 ·rw[if_pos h]
 ·obtain rfl:j=k:=by omega
  rw[if_neg h,ar8];rfl
theorem afW:aK Tryz.prog 71 (jq (fun l:List Sk=>[aqN l]) (fun l=>afI l∧0<l.length) (fun l=>.agg (abz l))):=by
 refine aX (Tb:=tab) mixed aB Tryz.func71 rfl rfl ?_
 rintro (l:List Sk) hpre
 refine ai (ai rfl (ai rfl rfl)) ?_
 obtain ⟨hs,hp⟩:=hpre
 have hl:l.length≤1000:=hs.1
 refine ei (bF.inv { X:=Nat,up:=fun k=>[(9,.s (iA k)),(3,arS l k)],uo:=fun k=>[],inv:=fun k=>k≤l.length∧(True),meas:=fun k=>l.length-k,x0:=0 }) ?_
 refine ai (ai (ai (by exact (a4 (ai rfl rfl))) (ai (by exact (ai (ai (ai (fun _=>rfl) (iE (by simp only[zz,reduceCtorEq];rfl))) rfl) rfl)) (by exact trivial))) rfl) (ai (ai (aeu _) ?_) ?_)
 ·trivial
 intro (k:Nat) ⟨hk,_⟩
 refine ah (p:=k<l.length) (au (by omega)) (fun h1=>?_) (fun h1=>?_)
 ·refine ai (ai (aa1 _) (iN (n:=l.length) (by omega))) (ai rfl ?_)
  have hx:=aqm hs h1
  have hw:IntKind.i64.wrap (2*(l.getD k bJ).1)=2*(l.getD k bJ).1:=wrI (by omega) (by omega)
  refine aZ (b:=(l.getD k bJ).2) rfl (fun h2=>?_) (fun h2=>?_)
  ·refine ei _ (ai (nP) (ei (mE (l.getD k bJ)) (ei [] (ai (a4 (ai (fun _=>Or.inl rfl) (ai nof (Or.inl rfl)))) (ai ?_ (ai (by exact trivial) (ai (trivial) ?_)))))))
   ·show IntKind.i64.wrap (IntKind.i64.wrap (2*(l.getD k bJ).1)+1)=mE (l.getD k bJ)
    rw[hw,wrI (by omega) (by omega)];unfold mE;rw[h2];rfl
   refine ai (mxL (n:=k+1) (by omega) (by decide)) (ai (lt1 rfl) ?_)
   refine ei (k+1) (ai (ai rfl rfl) (ai (ai (ai rfl (ai (ai rfl rfl) (ai (ai rfl rfl) (ai (ai (ai (ai (fun _=>rfl) (aO (by omega))) rfl) (ai rfl (ai rfl (ai rfl ?_)))) trivial)))) rfl) (ai (ai (iL (by omega)) trivial) (iM (by omega)))))
   exact afH l k
  ·refine ei _ (ai (nP) (ei (mE (l.getD k bJ)) (ei [] (ai (a4 (ai (fun _=>Or.inl rfl) (ai nof (Or.inl rfl)))) (ai ?_ (ai (by exact trivial) (ai (trivial) ?_)))))))
   ·show IntKind.i64.wrap (2*(l.getD k bJ).1)=mE (l.getD k bJ)
    rw[hw];unfold mE;rw[h2];simp
   refine ai (mxL (n:=k+1) (by omega) (by decide)) (ai (lt1 rfl) ?_)
   refine ei (k+1) (ai (ai rfl rfl) (ai (ai (ai rfl (ai (ai rfl rfl) (ai (ai rfl rfl) (ai (ai (ai (ai (fun _=>rfl) (aO (by omega))) rfl) (ai rfl (ai rfl (ai rfl ?_)))) trivial)))) rfl) (ai (ai (iL (by omega)) trivial) (iM (by omega)))))
   exact afH l k
 ·obtain rfl:k=l.length:=by omega
  refine ah (p:=l.length=1) (gV (by omega)) (fun h3=>?_) (fun h3=>?_)
  ·refine ai (ai (by decide) (by show (0:Int)<(l.length:Int);omega)) ?_
   refine ai (by show 0<l.length;omega) ?_
   refine ai (ai (fun h=>absurd (show false=true from h) (by decide)) ?_) trivial
   show ak _ (.agg (abz l))
   rw[afP h3]
   exact (ai rfl (ai (iE rfl) rfl))
  ·refine ai (ai (fun h=>absurd (show false=true from h) (by decide)) ?_) trivial
   show ak _ (.agg (abz l))
   rw[aer h3]
   exact (ai rfl (ai rfl (ai rfl (fun _ _=>rfl))))
def ug (act:Int) (p:List (Stp×C3)) (x:Stp):List (Stp×C3):=
 if 0<x.wt then (p++[(⟨x.st,0⟩,kZ x.st)])++[(⟨[],x.wt⟩,zo (2*act+1+((p.length+1:Nat):Int)))] else p++[(⟨x.st,0⟩,kZ x.st)]
def apw (act:Int):List (Stp×C3):=[(⟨[],0⟩,zo (2*act))]
def dG (s:mg) (k:Nat):List (Stp×C3):=(s.sts.take k).foldl (ug s.act) (apw s.act)
theorem aeB {s:mg} {k:Nat} (h:k<s.sts.length):dG s (k+1)=ug s.act (dG s k) (s.sts.getD k st0):=by unfold dG;rw[aS st0 h,asw];rfl
theorem amM (act:Int) (p:List (Stp×C3)) (x:Stp):(ug act p x).length≤p.length+2∧p.length<(ug act p x).length:=by
 unfold ug
 split
 ·simp only[aaG,aiC,anV];omega
 ·simp only[aaG,aiC,anV];omega
theorem ags (s:mg):∀k,k≤s.sts.length→(dG s k).length≤2*k+1∧0<(dG s k).length
 | 0,_=>⟨by show (apw s.act).length≤1;exact agv _,by show 0<1;decide⟩
 | k+1,h=>by
  obtain ⟨h1,h2⟩:=ags s k (by omega)
  obtain ⟨h3,h4⟩:=amM s.act (dG s k) (s.sts.getD k st0)
  rw[aeB (by omega)];omega
abbrev SC := Stp × C3
def oP:SC:=(st0,(iP 0,iP 0,.val (.slice none 0 0)))
def sZ (x:Stp):List PV:=[if x.st=[] then .val (.slice none 0 0) else yX x.st,iP x.wt]
def abK:PV:=.seq 1 (bg 1 [.val (.string (strOf [115,116,97,114,116]))])
def anl (act:Int) (ins:PV) (st tr:SV):Ob:=.cells 36 [iA act,.p false ins,st,tr]
def amN (s:SV):Ob:=.cells 77 [s]
def apo (p:List SC):Ob:=.row 89 2 p.length (fun k=>sZ (p.getD k oP).1)
def apJ (p:List SC):Ob:=.row 79 3 p.length (fun k=>xP (p.getD k oP).2)
def abg:SV:=.p false (.val (.slice none 0 0))
structure abl where
 act:Int
 p:List SC
 s0:PV
 wt:Int
 e0:PV
 e1:PV
 e2:PV
 x:SC
def abl.ok (a:abl):Prop:=a.p.length≤1000∧sZ a.x.1=[a.s0,iP a.wt]∧xP a.x.2=[a.e0,a.e1,a.e2]
def aoB (a:abl):List SV:=[.p false (.agg [a.s0,iP a.wt]),.p false (.agg [a.e0,a.e1,a.e2]),.own 0 0,.own 1 0]
def aqf (n:Bool) (a:abl):Prop:=a.ok∧(n=true→a.p=[])
def aqY:Bool→abl→List Ob
 | true,a=>[anl a.act abK abg abg,amN abg]
 | false,a=>[anl a.act abK (.row 2) abg,amN (.row 3),apo a.p,apJ a.p]
def aqn (a:abl):List Ob:=[anl a.act abK (.row 2) abg,amN (.row 3),apo (a.p++[a.x]),apJ (a.p++[a.x])]
def apv (n:Bool):qy:={ A:=abl,fix:=2,args:=aoB,objs:=aqY n,pre:=aqf n,res:=fun _=>.tup [],objs':=aqn,inl:=[4000009,4000013] }
theorem sw (f:SC→List PV) (p:List SC) (x:SC) {g:Nat→List PV} (hg:g 0=f x):∀k,k<p.length+1→bQ p.length (fun k=>f (p.getD k oP)) g k=f ((p++[x]).getD k oP):=by
 intro k hk
 unfold bQ
 by_cases h:k<p.length
 ·rw[if_pos h]
  show f (p.getD k oP)=_
  rw[aaI,aaI,afl h]
 ·obtain rfl:k=p.length:=by omega
  rw[if_neg h,ar8,hg,aaI,afN (agv _),ar8];rfl
theorem acH:jI Tryz.prog 68 (apv false):=by
 refine oU (Tb:=tab) mixed aB Tryz.func68 rfl rfl ?_
 rintro ⟨act,p,s0,wt,e0,e1,e2,x⟩ hpre
 refine ai (ai rfl (ai rfl rfl)) ?_
 obtain ⟨⟨hp,hx,he⟩,_⟩:=hpre
 have hp:p.length≤1000:=hp
 have hx:sZ x.1=[s0,iP wt]:=hx
 have he:xP x.2=[e0,e1,e2]:=he
 refine ei (.one 0 (.one 1 (.one 2 (.rd 5 [4] (.rd 6 [4] (.alt 3 (.alt 4 (.one 9 (.one 7 (.one 8 (.one 10 (.one 11 .done))))) (.alt 7 (.one 4 (.one 9 (.one 8 (.one 10 (.one 11 .done))))) .stop)) (.alt 7 (.one 3 (.one 4 (.one 9 (.one 8 (.one 10 (.one 11 .done)))))) .stop))))))) (ai (by kernel_rfl) ?_)
 refine ai ?_ (ai ?_ trivial)
 ·refine ai ?_ (ai ?_ trivial)
  ·refine ai (mxL (n:=p.length+1) (by omega) (by decide)) (ai (lt1 rfl) ?_)
   refine ai (mxL (n:=p.length+1) (by omega) (by decide)) (ai (lt1 rfl) ?_)
   refine ei [0,1,6,7] (ai (ai rfl (ai rfl rfl)) (ai trivial ?_))
   refine (ai (ai rfl (ai rfl (ai (ai rfl (fun _ _=>rfl)) (ai rfl rfl)))) (ai (ai rfl rfl) (ai (ai rfl (ai rfl (ai ?_ ?_))) (ai rfl (ai rfl (ai ?_ ?_))))))
   ·show p.length+1=(p++[x]).length;rw[aaG];rfl
   ·exact fun k hk=>sw (fun q=>sZ q.1) p x (g:=bg 2 [s0,iP wt]) hx.symm k (by have hk:k<(p++[x]).length:=hk;rwa [aaG] at hk)
   ·show p.length+1=(p++[x]).length;rw[aaG];rfl
   ·exact fun k hk=>sw (fun q=>xP q.2) p x (g:=bg 3 [e0,e1,e2]) he.symm k (by have hk:k<(p++[x]).length:=hk;rwa [aaG] at hk)
  ·refine ai (mxL (n:=p.length+1) (by omega) (by decide)) (ai (lt1 rfl) ?_)
   refine ai (mxL (n:=p.length+1) (by omega) (by decide)) (ai (lt1 rfl) ?_)
   refine ei [0,1,6,7] (ai (ai rfl (ai rfl rfl)) (ai trivial ?_))
   refine (ai (ai rfl (ai rfl (ai (ai rfl (fun _ _=>rfl)) (ai rfl rfl)))) (ai (ai rfl rfl) (ai (ai rfl (ai rfl (ai ?_ ?_))) (ai rfl (ai rfl (ai ?_ ?_))))))
   ·show p.length+1=(p++[x]).length;rw[aaG];rfl
   ·exact fun k hk=>sw (fun q=>sZ q.1) p x (g:=bg 2 [s0,iP wt]) hx.symm k (by have hk:k<(p++[x]).length:=hk;rwa [aaG] at hk)
   ·show p.length+1=(p++[x]).length;rw[aaG];rfl
   ·exact fun k hk=>sw (fun q=>xP q.2) p x (g:=bg 3 [e0,e1,e2]) he.symm k (by have hk:k<(p++[x]).length:=hk;rwa [aaG] at hk)
 ·refine ai (mxL (n:=p.length+1) (by omega) (by decide)) (ai (lt1 rfl) ?_)
  refine ai (mxL (n:=p.length+1) (by omega) (by decide)) (ai (lt1 rfl) ?_)
  refine ei [0,1,6,7] (ai (ai rfl (ai rfl rfl)) (ai trivial ?_))
  refine (ai (ai rfl (ai rfl (ai (ai rfl (fun _ _=>rfl)) (ai rfl rfl)))) (ai (ai rfl rfl) (ai (ai rfl (ai rfl (ai ?_ ?_))) (ai rfl (ai rfl (ai ?_ ?_))))))
  ·show p.length+1=(p++[x]).length;rw[aaG];rfl
  ·exact fun k hk=>sw (fun q=>sZ q.1) p x (g:=bg 2 [s0,iP wt]) hx.symm k (by have hk:k<(p++[x]).length:=hk;rwa [aaG] at hk)
  ·show p.length+1=(p++[x]).length;rw[aaG];rfl
  ·exact fun k hk=>sw (fun q=>xP q.2) p x (g:=bg 3 [e0,e1,e2]) he.symm k (by have hk:k<(p++[x]).length:=hk;rwa [aaG] at hk)
theorem aoM:jI Tryz.prog 68 (apv true):=by
 refine oU (Tb:=tab) mixed aB Tryz.func68 rfl rfl ?_
 rintro ⟨act,p,s0,wt,e0,e1,e2,x⟩ hpre
 refine ai (ai rfl (ai rfl rfl)) ?_
 obtain ⟨⟨hp,hx,he⟩,hn⟩:=hpre
 obtain rfl:p=[]:=hn rfl
 have hx:sZ x.1=[s0,iP wt]:=hx
 have he:xP x.2=[e0,e1,e2]:=he
 refine ei (.one 0 (.one 1 (.one 2 (.rd 5 [4] (.rd 6 [4] (.alt 3 (.alt 4 (.one 9 (.one 7 (.one 8 (.one 10 (.one 11 .done))))) (.alt 7 (.one 4 (.one 9 (.one 8 (.one 10 (.one 11 .done))))) .stop)) (.alt 7 (.one 3 (.one 4 (.one 9 (.one 8 (.one 10 (.one 11 .done)))))) .stop))))))) (ai (by kernel_rfl) ?_)
 refine ai ?_ (ai ?_ trivial)
 ·refine ai ?_ (ai ?_ trivial)
  ·refine ai (ai (by decide) (by decide)) (ai (lt1 rfl) ?_)
   refine ai (ai (by decide) (by decide)) (ai (lt1 rfl) ?_)
   refine ei [0,1,4,5] (ai (ai rfl (ai rfl rfl)) (ai trivial ?_))
   refine (ai (ai rfl (ai rfl (ai (ai rfl (fun _ _=>rfl)) (ai rfl rfl)))) (ai (ai rfl rfl) (ai (ai rfl (ai rfl (ai rfl ?_))) (ai rfl (ai rfl (ai rfl ?_))))))
   ·intro k hk
    have hk:k<1:=hk
    obtain rfl:k=0:=by omega
    exact hx.symm
   ·intro k hk
    have hk:k<1:=hk
    obtain rfl:k=0:=by omega
    exact he.symm
  ·refine ai (ai (by decide) (by decide)) (ai (lt1 rfl) ?_)
   refine ai (ai (by decide) (by decide)) (ai (lt1 rfl) ?_)
   refine ei [0,1,4,5] (ai (ai rfl (ai rfl rfl)) (ai trivial ?_))
   refine (ai (ai rfl (ai rfl (ai (ai rfl (fun _ _=>rfl)) (ai rfl rfl)))) (ai (ai rfl rfl) (ai (ai rfl (ai rfl (ai rfl ?_))) (ai rfl (ai rfl (ai rfl ?_))))))
   ·intro k hk
    have hk:k<1:=hk
    obtain rfl:k=0:=by omega
    exact hx.symm
   ·intro k hk
    have hk:k<1:=hk
    obtain rfl:k=0:=by omega
    exact he.symm
 ·refine ai (ai (by decide) (by decide)) (ai (lt1 rfl) ?_)
  refine ai (ai (by decide) (by decide)) (ai (lt1 rfl) ?_)
  refine ei [0,1,4,5] (ai (ai rfl (ai rfl rfl)) (ai trivial ?_))
  refine (ai (ai rfl (ai rfl (ai (ai rfl (fun _ _=>rfl)) (ai rfl rfl)))) (ai (ai rfl rfl) (ai (ai rfl (ai rfl (ai rfl ?_))) (ai rfl (ai rfl (ai rfl ?_))))))
  ·intro k hk
   have hk:k<1:=hk
   obtain rfl:k=0:=by omega
   exact hx.symm
  ·intro k hk
   have hk:k<1:=hk
   obtain rfl:k=0:=by omega
   exact he.symm
def aq9:Spec:=bR (fun l:List (Sk)=>[aqN l]) (fun l=>l.length≤1000000) (fun l=>yX l)
theorem aoP:aK Tryz.prog 70 aq9:=by
 refine aX (Tb:=tab) mixed aB Tryz.func70 rfl rfl ?_
 rintro (l:List (Sk)) hpre
 refine ai (ai rfl (ai rfl rfl)) ?_
 have hl:l.length≤1000000:=hpre
 intro b hb
 refine aY (fun h1=>?_) (fun h1=>?_)
 ·have h1:l.length=0:=hb h1
  refine ai (ai (fun _=>trivial) ?_) trivial
  show ak _ (yX l)
  rw[apC.1 h1]
  exact rfl
 ·refine ai (mxL (n:=0+l.length) (by omega) (by decide)) (ai (fun _ _=>rfl) ?_)
  refine ai (ai (fun _ k hk=>by rw[aeS k hk];rfl) ?_) trivial
  refine (ai ?_ (fun _ _=>rfl))
  exact aip _
def toN (k n:Nat):Int:=(((k+1) % n:Nat):Int)
def aay (p:List SC) (k:Nat):List PV:=[.seq 1 (bg 1 [iP (k:Int)]),.seq 1 (bg 1 [iP (toN k p.length)]),(p.getD k oP).2.1,(p.getD k oP).2.2.1,(p.getD k oP).2.2.2]
def arT (p:List SC) (k:Nat):LV:=.rw 123 5 k (aay p)
def aeU (act:Int) (p:List SC):PV:=.agg [iP act,abK,.seq p.length (fun k=>sZ (p.getD k oP).1),.seq p.length (aay p)]
def vK (s:mg):Int:=if ¬kL s=0 then kL s else if 24<(dG s s.sts.length).length then 5 else 0
def ofRaw (s:mg):PV:=if vK s=0 then .tup [aeU s.act (dG s s.sts.length),iP 0] else .tup [.agg [iP 0,.val (.slice none 0 0),.val (.slice none 0 0),.val (.slice none 0 0)],iP (vK s)]
theorem ahV (p:List SC) (k:Nat) {g:Nat→List PV} (hg:g 0=aay p k):∀j,j<k+1→bQ k (aay p) g j=aay p j:=by
 intro j hj
 unfold bQ
 by_cases h:j<k
 ·rw[if_pos h]
 ·obtain rfl:j=k:=by omega
  rw[if_neg h,ar8,hg]
theorem seq_ok {s:mg} (h:kL s=0):(1≤s.act∧s.act≤6)∧s.sts.length≤64∧∀x∈s.sts,jO x=0:=by
 unfold kL at h
 split at h
 ·cases h
 rename_i h1
 split at h
 ·cases h
 split at h
 ·cases h
 rename_i h3
 split at h
 ·rename_i h4;exact absurd h h4
 rename_i h4
 refine ⟨by omega,by omega,fun x hx=>?_⟩
 obtain ⟨k,hk,rfl⟩:=apT hx
 have:=ng (arn.1 h4) k hk
 rw[show s.sts.getD k st0=s.sts[k] by rw[aaI,aaQ hk];rfl] at this
 exact (afX this).1
set_option maxHeartbeats 16000000 in
theorem ahl:aK Tryz.prog 18 (jq (fun s:mg=>[sqA s]) (fun _=>True) ofRaw):=by
 refine iY [68,3000020,4000077,4000084] ?_
 refine aX (Tb:=tab) mixed aB Tryz.func18 rfl rfl ?_
 rintro (s:mg) hpre
 refine ai (ai rfl (ai rfl rfl)) ?_
 refine ei _ (ai (akr) (ei (s) (ei [] (ai (a4 (ai (fun _=>Or.inl rfl) (ai nof (Or.inl rfl)))) (ai (by exact (ai rfl (ai rfl (fun _ _=>rfl)))) (ai trivial (ai (trivial) ?_)))))))
 refine bD (p:=kL s=0) (bU (by omega)) (fun h1=>?_) (fun h1=>?_)
 ·have e:vK s=kL s:=if_pos h1
  refine ai (ai (fun h=>absurd (show false=true from h) (by decide)) ?_) trivial
  show ak _ (ofRaw s)
  rw[ofRaw,e,if_neg h1]
  exact (ai (ai rfl (ai rfl (ai rfl rfl))) rfl)
 obtain ⟨⟨ha1,ha6⟩,h64,hck⟩:=seq_ok h1
 have hw2:IntKind.i64.wrap (2*s.act)=2*s.act:=wrI (by omega) (by omega)
 refine ei _ (ai (nP) (ei (2*s.act) (ei [] (ai (a4 (ai (fun _=>Or.inl rfl) (ai nof (Or.inl rfl)))) (ai ?_ (ai (by exact trivial) (ai (trivial) ?_)))))))
 ·exact hw2
 refine eO (aoM) (⟨s.act,[],.val (.slice none 0 0),0,iP 1,iP (2*s.act),.val (.slice none 0 0),(⟨[],0⟩,zo (2*s.act))⟩) [3,4] (a4 (ai rfl rfl)) (Or.inl rfl) (by exact (ai (ai rfl rfl) (ai (ai rfl (ai (iE (by omega)) rfl)) (ai (ai rfl rfl) (ai rfl rfl))))) (by exact (ai (ai rfl (ai rfl (ai (ai rfl (fun _ _=>rfl)) (ai rfl rfl)))) (ai rfl rfl))) (⟨⟨aeu _,rfl,rfl⟩,fun _=>rfl⟩) ?_
 have hL:=ags s
 refine ei (bF.inv { X:=Nat,up:=fun k=>[(34,.s (iA k))],uo:=fun k=>[⟨3,36,[.s (iA s.act),.s (.p false abK),.rw 89 2 (dG s k).length (fun j=>sZ ((dG s k).getD j oP).1),.s abg]⟩,⟨4,77,[.rw 79 3 (dG s k).length (fun j=>xP ((dG s k).getD j oP).2)]⟩],inv:=fun k=>k≤s.sts.length∧(True),meas:=fun k=>s.sts.length-k,x0:=0 }) ?_
 refine ai (ai (ai (by exact (a4 (ai rfl rfl))) (ai ?_ ?_)) rfl) (ai (ai (aeu _) ?_) ?_)
 ·exact (ai (ai (fun _=>rfl) (iE (by simp only[zz,reduceCtorEq];rfl))) rfl)
 ·exact (ai (ai (ai (ai nof rfl) rfl) (ai (ai (ai nof (ai rfl (fun _ _=>rfl))) rfl) (ai (ai rfl (ai rfl (ai rfl (fun _ _=>rfl)))) (ai (ai nof rfl) rfl)))) (ai (ai rfl (ai rfl (ai rfl (fun _ _=>rfl)))) trivial))
 ·trivial
 intro (k:Nat) ⟨hk,_⟩
 obtain ⟨hk1,hk2⟩:=hL k hk
 refine ah (p:=k<s.sts.length) (au (by omega)) (fun h2=>?_) (fun h2=>?_)
 ·refine ai (ai (aa1 _) (iN (n:=s.sts.length) (by omega))) (ai rfl ?_)
  have hm:=acI (bI st0 h2)
  obtain ⟨⟨hx0,hx6⟩,hxs,hxw⟩:=wO (hck _ hm)
  have hsm:afI (s.sts.getD k st0).st:=⟨by omega,hxs⟩
  have hst:=aeB h2
  have hne:(s.sts.getD k st0).st≠[]:=fun e=>by rw[e] at hx0;simp at hx0
  refine ei (.one 0 (.one 1 (.one 2 (.one 5 (.one 6 (.one 3 (.one 4 (.one 7 (.wr 8 .done))))))))) (ai (by kernel_rfl) ?_)
  refine ei _ (ai (aoP) (ei ((s.sts.getD k st0).st) (ei [] (ai (a4 (ai (fun _=>Or.inl rfl) (ai nof (Or.inl rfl)))) (ai (by exact (ai rfl (fun _ _=>rfl))) (ai trivial (ai ((by show (s.sts.getD k st0).st.length≤1000000;omega)) ?_)))))))
  by_cases h1l:(s.sts.getD k st0).st.length=1
  ·have ee:=afP h1l
   refine ei _ (ai ((jo afW (s.sts.getD k st0).st ⟨hsm,hx0⟩ (r:=.agg [iP 1,iP (mE ((s.sts.getD k st0).st.getD 0 bJ)),.val (.slice none 0 0)]) (congrArg PV.agg ee))) (ei (()) (ei [] (ai (a4 (ai (fun _=>Or.inl rfl) (ai nof (Or.inl rfl)))) (ai (by exact (ai rfl (fun _ _=>rfl))) (ai trivial (ai (trivial) ?_)))))))
   refine eO (acH) (⟨s.act,dG s k,yX (s.sts.getD k st0).st,0,iP 1,iP (mE ((s.sts.getD k st0).st.getD 0 bJ)),.val (.slice none 0 0),(⟨(s.sts.getD k st0).st,0⟩,kZ (s.sts.getD k st0).st)⟩) [3,4,7,8] (a4 (ai rfl rfl)) (Or.inl rfl) (by exact (ai (ai (ai rfl (fun _ _=>rfl)) rfl) (ai (ai rfl (ai rfl rfl)) (ai (ai rfl rfl) (ai rfl rfl))))) (by exact (ai (ai rfl (ai rfl (ai (ai rfl (fun _ _=>rfl)) (ai rfl rfl)))) (ai (ai rfl rfl) (ai (ai rfl (ai rfl (ai rfl (fun _ _=>rfl)))) (ai rfl (ai rfl (ai rfl (fun _ _=>rfl)))))))) (⟨⟨by show (dG s k).length≤1000;omega,by show sZ ⟨(s.sts.getD k st0).st,0⟩=_;unfold sZ;rw[if_neg hne],ee⟩,fun h=>by cases h⟩) ?_
   refine ah (p:=0<(s.sts.getD k st0).wt) (au Iff.rfl) (fun h3=>?_) (fun h3=>?_)
   ·have e:dG s (k+1)=(dG s k++[(⟨(s.sts.getD k st0).st,0⟩,kZ (s.sts.getD k st0).st)])++[(⟨[],(s.sts.getD k st0).wt⟩,zo (2*s.act+1+(((dG s k).length+1:Nat):Int)))]:=by rw[hst];unfold ug;rw[if_pos h3]
    have hpl:(dG s k++[((⟨(s.sts.getD k st0).st,0⟩:Stp),kZ (s.sts.getD k st0).st)]).length=(dG s k).length+1:=by rw[aaG];rfl
    refine ei (.one 0 (.one 1 (.one 2 (.one 3 (.one 4 (.one 5 (.one 6 (.one 7 (.one 8 (.one 9 (.one 10 (.wr 11 .done)))))))))))) (ai (by kernel_rfl) ?_)
    refine ei _ (ai (nP) (ei (2*s.act+1+(((dG s k).length+1:Nat):Int)) (ei [] (ai (a4 (ai (fun _=>Or.inl rfl) (ai nof (Or.inl rfl)))) (ai ?_ (ai (by exact trivial) (ai (trivial) ?_)))))))
    ·show IntKind.i64.wrap (IntKind.i64.wrap (IntKind.i64.wrap (2*s.act)+1)+(((dG s k++[((⟨(s.sts.getD k st0).st,0⟩:Stp),kZ (s.sts.getD k st0).st)]).length:Nat):Int))=_
     rw[hpl,hw2,wrI (n:=2*s.act+1) (by omega) (by omega),wrI (by omega) (by omega)]
    refine eO (acH) (⟨s.act,dG s k++[(⟨(s.sts.getD k st0).st,0⟩,kZ (s.sts.getD k st0).st)],.val (.slice none 0 0),(s.sts.getD k st0).wt,iP 1,iP (2*s.act+1+(((dG s k).length+1:Nat):Int)),.val (.slice none 0 0),(⟨[],(s.sts.getD k st0).wt⟩,zo (2*s.act+1+(((dG s k).length+1:Nat):Int)))⟩) [3,4,10,11] (a4 (ai rfl rfl)) (Or.inl rfl) (by exact (ai (ai rfl (iE (by simp only[zz,reduceCtorEq]))) (ai (ai rfl (ai rfl rfl)) (ai (ai rfl rfl) (ai rfl rfl))))) (by exact (ai (ai rfl (ai rfl (ai (ai rfl (fun _ _=>rfl)) (ai rfl rfl)))) (ai (ai rfl rfl) (ai (ai rfl (ai rfl (ai rfl (fun _ _=>rfl)))) (ai rfl (ai rfl (ai rfl (fun _ _=>rfl)))))))) (⟨⟨by show (dG s k++[((⟨(s.sts.getD k st0).st,0⟩:Stp),kZ (s.sts.getD k st0).st)]).length≤1000;rw[hpl];omega,rfl,rfl⟩,fun h=>by cases h⟩) ?_
    refine ei (k+1) (ai (ai rfl rfl) (ai (ai (ai rfl (ai (ai rfl rfl) (ai (ai rfl rfl) (ai (ai (ai (fun _=>rfl) (aO (by omega))) rfl) (ai (ai (ai (ai nof rfl) rfl) (ai (ai (ai nof (ai rfl (fun _ _=>rfl))) rfl) (ai (ai rfl (ai rfl (ai ?_ ?_))) (ai (ai nof rfl) rfl)))) (ai (ai rfl (ai rfl (ai ?_ ?_))) trivial)))))) rfl) (ai (ai (iL (by omega)) trivial) (iM (by omega)))))
    all_goals rw[e]
    ·exact fun _ _=>rfl
    ·exact fun _ _=>rfl
   ·have e:dG s (k+1)=dG s k++[(⟨(s.sts.getD k st0).st,0⟩,kZ (s.sts.getD k st0).st)]:=by rw[hst];unfold ug;rw[if_neg h3]
    refine ei (k+1) (ai (ai rfl rfl) (ai (ai (ai rfl (ai (ai rfl rfl) (ai (ai rfl rfl) (ai (ai (ai (fun _=>rfl) (aO (by omega))) rfl) (ai (ai (ai (ai nof rfl) rfl) (ai (ai (ai nof (ai rfl (fun _ _=>rfl))) rfl) (ai (ai rfl (ai rfl (ai ?_ ?_))) (ai (ai nof rfl) rfl)))) (ai (ai rfl (ai rfl (ai ?_ ?_))) trivial)))))) rfl) (ai (ai (iL (by omega)) trivial) (iM (by omega)))))
    all_goals rw[e]
    ·exact fun _ _=>rfl
    ·exact fun _ _=>rfl
  ·have ee:=aer h1l
   refine ei _ (ai ((jo afW (s.sts.getD k st0).st ⟨hsm,hx0⟩ (r:=.agg [iP 3,iP 0,.seq (s.sts.getD k st0).st.length (wM (s.sts.getD k st0).st)]) (congrArg PV.agg ee))) (ei (()) (ei [] (ai (a4 (ai (fun _=>Or.inl rfl) (ai nof (Or.inl rfl)))) (ai (by exact (ai rfl (fun _ _=>rfl))) (ai trivial (ai (trivial) ?_)))))))
   refine eO (acH) (⟨s.act,dG s k,yX (s.sts.getD k st0).st,0,iP 3,iP 0,.seq (s.sts.getD k st0).st.length (wM (s.sts.getD k st0).st),(⟨(s.sts.getD k st0).st,0⟩,kZ (s.sts.getD k st0).st)⟩) [3,4,7,8] (a4 (ai rfl rfl)) (Or.inl rfl) (by exact (ai (ai (ai rfl (fun _ _=>rfl)) rfl) (ai (ai rfl (ai rfl (ai rfl (fun _ _=>rfl)))) (ai (ai rfl rfl) (ai rfl rfl))))) (by exact (ai (ai rfl (ai rfl (ai (ai rfl (fun _ _=>rfl)) (ai rfl rfl)))) (ai (ai rfl rfl) (ai (ai rfl (ai rfl (ai rfl (fun _ _=>rfl)))) (ai rfl (ai rfl (ai rfl (fun _ _=>rfl)))))))) (⟨⟨by show (dG s k).length≤1000;omega,by show sZ ⟨(s.sts.getD k st0).st,0⟩=_;unfold sZ;rw[if_neg hne],ee⟩,fun h=>by cases h⟩) ?_
   refine ah (p:=0<(s.sts.getD k st0).wt) (au Iff.rfl) (fun h3=>?_) (fun h3=>?_)
   ·have e:dG s (k+1)=(dG s k++[(⟨(s.sts.getD k st0).st,0⟩,kZ (s.sts.getD k st0).st)])++[(⟨[],(s.sts.getD k st0).wt⟩,zo (2*s.act+1+(((dG s k).length+1:Nat):Int)))]:=by rw[hst];unfold ug;rw[if_pos h3]
    have hpl:(dG s k++[((⟨(s.sts.getD k st0).st,0⟩:Stp),kZ (s.sts.getD k st0).st)]).length=(dG s k).length+1:=by rw[aaG];rfl
    refine ei (.one 0 (.one 1 (.one 2 (.one 3 (.one 4 (.one 5 (.one 6 (.one 7 (.one 8 (.one 9 (.one 10 (.wr 11 .done)))))))))))) (ai (by kernel_rfl) ?_)
    refine ei _ (ai (nP) (ei (2*s.act+1+(((dG s k).length+1:Nat):Int)) (ei [] (ai (a4 (ai (fun _=>Or.inl rfl) (ai nof (Or.inl rfl)))) (ai ?_ (ai (by exact trivial) (ai (trivial) ?_)))))))
    ·show IntKind.i64.wrap (IntKind.i64.wrap (IntKind.i64.wrap (2*s.act)+1)+(((dG s k++[((⟨(s.sts.getD k st0).st,0⟩:Stp),kZ (s.sts.getD k st0).st)]).length:Nat):Int))=_
     rw[hpl,hw2,wrI (n:=2*s.act+1) (by omega) (by omega),wrI (by omega) (by omega)]
    refine eO (acH) (⟨s.act,dG s k++[(⟨(s.sts.getD k st0).st,0⟩,kZ (s.sts.getD k st0).st)],.val (.slice none 0 0),(s.sts.getD k st0).wt,iP 1,iP (2*s.act+1+(((dG s k).length+1:Nat):Int)),.val (.slice none 0 0),(⟨[],(s.sts.getD k st0).wt⟩,zo (2*s.act+1+(((dG s k).length+1:Nat):Int)))⟩) [3,4,10,11] (a4 (ai rfl rfl)) (Or.inl rfl) (by exact (ai (ai rfl (iE (by simp only[zz,reduceCtorEq]))) (ai (ai rfl (ai rfl rfl)) (ai (ai rfl rfl) (ai rfl rfl))))) (by exact (ai (ai rfl (ai rfl (ai (ai rfl (fun _ _=>rfl)) (ai rfl rfl)))) (ai (ai rfl rfl) (ai (ai rfl (ai rfl (ai rfl (fun _ _=>rfl)))) (ai rfl (ai rfl (ai rfl (fun _ _=>rfl)))))))) (⟨⟨by show (dG s k++[((⟨(s.sts.getD k st0).st,0⟩:Stp),kZ (s.sts.getD k st0).st)]).length≤1000;rw[hpl];omega,rfl,rfl⟩,fun h=>by cases h⟩) ?_
    refine ei (k+1) (ai (ai rfl rfl) (ai (ai (ai rfl (ai (ai rfl rfl) (ai (ai rfl rfl) (ai (ai (ai (fun _=>rfl) (aO (by omega))) rfl) (ai (ai (ai (ai nof rfl) rfl) (ai (ai (ai nof (ai rfl (fun _ _=>rfl))) rfl) (ai (ai rfl (ai rfl (ai ?_ ?_))) (ai (ai nof rfl) rfl)))) (ai (ai rfl (ai rfl (ai ?_ ?_))) trivial)))))) rfl) (ai (ai (iL (by omega)) trivial) (iM (by omega)))))
    all_goals rw[e]
    ·exact fun _ _=>rfl
    ·exact fun _ _=>rfl
   ·have e:dG s (k+1)=dG s k++[(⟨(s.sts.getD k st0).st,0⟩,kZ (s.sts.getD k st0).st)]:=by rw[hst];unfold ug;rw[if_neg h3]
    refine ei (k+1) (ai (ai rfl rfl) (ai (ai (ai rfl (ai (ai rfl rfl) (ai (ai rfl rfl) (ai (ai (ai (fun _=>rfl) (aO (by omega))) rfl) (ai (ai (ai (ai nof rfl) rfl) (ai (ai (ai nof (ai rfl (fun _ _=>rfl))) rfl) (ai (ai rfl (ai rfl (ai ?_ ?_))) (ai (ai nof rfl) rfl)))) (ai (ai rfl (ai rfl (ai ?_ ?_))) trivial)))))) rfl) (ai (ai (iL (by omega)) trivial) (iM (by omega)))))
    all_goals rw[e]
    ·exact fun _ _=>rfl
    ·exact fun _ _=>rfl
 ·obtain rfl:k=s.sts.length:=by omega
  refine ah (p:=24<(dG s s.sts.length).length) (au (by omega)) (fun h4=>?_) (fun h4=>?_)
  ·have e:vK s=5:=by unfold vK;rw[if_neg (fun h=>h h1),if_pos h4]
   refine ai (ai (fun h=>absurd (show false=true from h) (by decide)) ?_) trivial
   show ak _ (ofRaw s)
   rw[ofRaw,e,if_neg (show ¬(5:Int)=0 by decide)]
   exact (ai (ai rfl (ai rfl (ai rfl rfl))) rfl)
  have e0:vK s=0:=by unfold vK;rw[if_neg (fun h=>h h1),if_neg h4]
  have hA:ofRaw s=.tup [aeU s.act (dG s s.sts.length),iP 0]:=by unfold ofRaw;rw[if_pos e0]
  have hp0:=(hL s.sts.length (agv _)).2
  clear hL
  generalize dG s s.sts.length=p at *
  refine ei (bF.inv { X:=Nat,up:=fun k=>[(71,.s (iA k))],uo:=fun k=>[⟨3,36,[.s (iA s.act),.s (.p false abK),.rw 89 2 p.length (fun j=>sZ (p.getD j oP).1),arT p k]⟩],inv:=fun k=>k≤p.length∧(True),meas:=fun k=>p.length-k,x0:=0 }) ?_
  refine ai (ai (ai (by exact (a4 (ai rfl rfl))) (ai ?_ ?_)) rfl) (ai (ai (aeu _) ?_) ?_)
  ·exact (ai (ai (fun _=>rfl) (iE (by simp only[zz,reduceCtorEq];rfl))) rfl)
  ·exact (ai (ai (ai (ai nof rfl) rfl) (ai (ai (ai nof (ai rfl (fun _ _=>rfl))) rfl) (ai (ai rfl (ai rfl (ai rfl (fun _ _=>rfl)))) rfl))) trivial)
  ·trivial
  intro (k:Nat) ⟨hk,_⟩
  refine ah (p:=k<p.length) (au (by omega)) (fun h5=>?_) (fun h5=>?_)
  ·have hw1:IntKind.i64.wrap ((k:Int)+1)=((k+1:Nat):Int):=aO (by omega)
   refine ei (.one 0 (.one 1 (.one 2 (.one 4 (.one 5 (.one 6 (.one 7 (.one 8 (.one 9 (.one 11 (.one 12 (.one 13 (.one 14 (.alt 3 (.one 10 (.one 15 (.one 16 (.one 17 (.one 18 (.one 19 .done)))))) (.alt 10 (.one 3 (.one 15 (.one 16 (.one 17 (.one 18 (.one 19 .done)))))) .stop))))))))))))))) (ai (by kernel_rfl) ?_)
   refine ai (by show ¬(p.length:Int)=0;omega) ?_
   refine ai (ai (aa1 _) (by show (k:Int)<(p.length:Int);omega)) ?_
   refine ai (by show k<p.length;exact h5) ?_
   refine ai ?_ (ai ?_ trivial)
   ·refine ai (mxL (n:=k+1) (by omega) (by decide)) (ai (fun j hj=>by
     have hj:j<1:=hj
     obtain rfl:j=0:=by omega
     rfl) ?_)
    refine ei (k+1) (ai (ai rfl rfl) (ai (ai (ai rfl (ai (ai rfl rfl) (ai (ai rfl rfl) (ai (ai (ai (fun _=>rfl) (aO (by omega))) rfl) (ai (ai (ai (ai nof rfl) rfl) (ai (ai (ai nof (ai rfl (fun _ _=>rfl))) rfl) (ai (ai rfl (ai rfl (ai rfl (fun _ _=>rfl)))) (ai rfl (ai rfl (ai rfl ?_)))))) trivial))))) rfl) (ai (ai (iL (by omega)) trivial) (iM (by omega)))))
    refine ahV p k ?_
    show [PV.seq 1 (bg 1 [iP (k:Int)]),.seq 1 (bg 1 [iP ((IntKind.i64.wrap ((k:Int)+1)).tmod (p.length:Int))]),(p.getD k oP).2.1,(p.getD k oP).2.2.1,(p.getD k oP).2.2.2]=_
    rw[hw1];rfl
   ·refine ai (mxL (n:=k+1) (by omega) (by decide)) (ai (fun j hj=>by
     have hj:j<1:=hj
     obtain rfl:j=0:=by omega
     rfl) ?_)
    refine ei (k+1) (ai (ai rfl rfl) (ai (ai (ai rfl (ai (ai rfl rfl) (ai (ai rfl rfl) (ai (ai (ai (fun _=>rfl) (aO (by omega))) rfl) (ai (ai (ai (ai nof rfl) rfl) (ai (ai (ai nof (ai rfl (fun _ _=>rfl))) rfl) (ai (ai rfl (ai rfl (ai rfl (fun _ _=>rfl)))) (ai rfl (ai rfl (ai rfl ?_)))))) trivial))))) rfl) (ai (ai (iL (by omega)) trivial) (iM (by omega)))))
    refine ahV p k ?_
    show [PV.seq 1 (bg 1 [iP (k:Int)]),.seq 1 (bg 1 [iP ((IntKind.i64.wrap ((k:Int)+1)).tmod (p.length:Int))]),(p.getD k oP).2.1,(p.getD k oP).2.2.1,(p.getD k oP).2.2.2]=_
    rw[hw1];rfl
  ·obtain rfl:k=p.length:=by omega
   refine ai (ai (fun h=>absurd (show false=true from h) (by decide)) ?_) trivial
   show ak _ (ofRaw s)
   rw[hA]
   exact (ai (ai rfl (ai (ai rfl (fun _ _=>rfl)) (ai (ai rfl (fun _ _=>rfl)) (ai rfl (fun _ _=>rfl))))) rfl)
def toC (x:Ex):C3:=(iP x.op,iP x.idx,if x.op=1 then .val (.slice none 0 0) else .seq x.args.length (fun k=>tL (x.args.getD k dS).idx))
theorem aoC (n:Int):zo n=toC (u7 n):=rfl
theorem ahP (l:List Sk):kZ l=toC (agA l):=by
 match l with
 | [y]=>rfl
 | []=>
  show (iP 3,iP 0,PV.seq 0 (wM []))=(iP 3,iP 0,PV.seq 0 (fun k=>tL (([]:List Ex).getD k dS).idx))
  exact congrArg (fun f:Nat→List PV=>((iP 3,iP 0,PV.seq 0 f):C3)) (funext fun k=>by cases k<;>rfl)
 | a :: b :: l=>
  show (iP 3,iP 0,PV.seq (a :: b :: l).length (wM (a :: b :: l)))=(iP 3,iP 0,PV.seq ((a :: b :: l).map fun y=>u7 (mE y)).length (fun k=>tL (((a :: b :: l).map fun y=>u7 (mE y)).getD k dS).idx))
  rw[anB]
  refine congrArg (fun f:Nat→List PV=>((iP 3,iP 0,PV.seq (a :: b :: l).length f):C3)) (funext fun k=>?_)
  show tL (mE ((a :: b :: l).getD k bJ))=_
  rw[aaI,aaI,alr]
  cases (a :: b :: l)[k]?<;>rfl
def okX (x:Ex):Prop:=(x.op=1∧x.args=[])∨(x.op=3∧∀y∈x.args,y.op=1∧y.args=[])
theorem aiQ (n:Int):okX (u7 n):=.inl ⟨rfl,rfl⟩
theorem ail (l:List Sk):okX (agA l):=by
 match l with
 | [y]=>exact .inl ⟨rfl,rfl⟩
 | []=>exact .inr ⟨rfl,fun y hy=>by simp[agA] at hy⟩
 | a :: b :: l=>
  refine .inr ⟨rfl,fun y hy=>?_⟩
  obtain ⟨z,_,rfl⟩:=arq.1 hy
  exact ⟨rfl,rfl⟩
abbrev SX := Stp × Ex
def sx0:SX:=(st0,u7 0)
def agS (act:Int) (p:List SX) (x:Stp):List SX:=
 if 0<x.wt then (p++[(⟨x.st,0⟩,agA x.st)])++[(⟨[],x.wt⟩,u7 (2*act+1+((p.length+1:Nat):Int)))] else p++[(⟨x.st,0⟩,agA x.st)]
def amr (s:mg):List SX:=s.sts.foldl (agS s.act) [(⟨[],0⟩,u7 (2*s.act))]
def adB (q:SX):SC:=(q.1,toC q.2)
theorem al5 (s:mg):dG s s.sts.length=(amr s).map adB:=by
 have key:∀(l:List Stp) (p:List SX),l.foldl (ug s.act) (p.map adB)=(l.foldl (agS s.act) p).map adB:=by
  intro l
  induction l with
  | nil=>intro p;rfl
  | cons x l ih=>
   intro p
   rw[asV,asV,←ih]
   congr 1
   unfold ug agS
   rw[anB]
   split
   ·rw[arA,arA,ahP,aoC];rfl
   ·rw[arA,ahP];rfl
 have:=key s.sts [(⟨[],0⟩,u7 (2*s.act))]
 unfold dG
 rw[agN]
 exact this
theorem ao5 (s:mg):∀q∈amr s,okX q.2:=by
 have key:∀(l:List Stp) (p:List SX),(∀q∈p,okX q.2)→∀q∈l.foldl (agS s.act) p,okX q.2:=by
  intro l
  induction l with
  | nil=>intro p h;exact h
  | cons x l ih=>
   intro p h
   rw[asV]
   refine ih _ fun q hq=>?_
   unfold agS at hq
   split at hq
   ·rcases aia.1 hq with hq | hq
    ·rcases aia.1 hq with hq | hq
     ·exact h q hq
     ·simp only[ag4] at hq;subst hq;exact ail _
    ·simp only[ag4] at hq;subst hq;exact aiQ _
   ·rcases aia.1 hq with hq | hq
    ·exact h q hq
    ·simp only[ag4] at hq;subst hq;exact ail _
 exact key s.sts _ fun q hq=>by simp only[ag4] at hq;subst hq;exact aiQ _
def akx:List UInt8:=[115,116,97,114,116]
def afG (p:List SX) (k:Nat):jK:=⟨[(k:Int)],[toN k p.length],(p.getD k sx0).2⟩
def chX (act:Int) (p:List SX):aQ:=⟨act,[akx],p.map (·.1),(List.range p.length).map (afG p)⟩
def ofC (s:mg):aQ:=if vK s=0 then chX s.act (amr s) else ⟨0,[],[],[]⟩
theorem bH {a b:PV} {l m:List PV} (h:gN a b) (hl:bM l m):bM (a :: l) (b :: m):=by
 refine ⟨by simp[hl.1],fun k s s' hs hs'=>?_⟩
 match k with
 | 0=>cases hs;cases hs';exact h
 | k+1=>exact hl.2 k s s' (by simpa using hs) (by simpa using hs')
theorem ni:bM [] []:=⟨rfl,fun k s s' hs _=>by simp at hs⟩
theorem gD {n:Nat} {f g:Nat→List PV} (h:∀k,k<n→bM (f k) (g k)):gN (.seq n f) (.seq n g):=
 .seq n f g (fun j hj=>(h j hj).1) fun j k s s' hj hs hs'=>(h j hj).2 k s s' hs hs'
theorem vB {l m:List PV} (h:bM l m):gN (.agg l) (.agg m):=.agg l m h.1 h.2
theorem air {l m:List PV} (h:bM l m):gN (.tup l) (.tup m):=.tup l m h.1 h.2
theorem akD (x:Int):gN (.seq 1 (bg 1 [iP x])) (l6 [x]):=alP rfl fun j hj=>by
 obtain rfl:j=0:=by omega
 rfl
theorem aqD {x:Ex} (h:okX x):bM (xP (toC x)) (xJ x):=by
 refine bH (.refl _) (bH (.refl _) (bH ?_ ni))
 show gN (if x.op=1 then .val (.slice none 0 0) else .seq x.args.length (fun k=>tL (x.args.getD k dS).idx)) (.seq x.args.length (exF x.args))
 rcases h with ⟨h1,h2⟩ | ⟨h1,h2⟩
 ·rw[if_pos h1,h2];exact .nil _
 ·rw[if_neg (by rw[h1];decide)]
  refine gD fun k hk=>?_
  have hy:=h2 _ (acI (bI dS hk))
  show bM (tL (x.args.getD k dS).idx) (exF x.args k)
  unfold exF tL
  rw[hy.1,hy.2]
  exact bH (.refl _) (bH (.refl _) (bH (.nil _) ni))
theorem apt:gN abK (ssP [akx]):=gD fun k hk=>by
 obtain rfl:k=0:=by omega
 exact bM.rfl' _
theorem aqL (x:Stp):bM (sZ x) (stK x):=by
 refine bH ?_ (bH (.refl _) ni)
 split
 ·rename_i h;rw[h];exact .nil _
 ·exact .refl _
theorem afa (p:List SX) {k:Nat} (hk:k<p.length):(p.map adB).getD k oP=adB (p.getD k sx0):=by
 rw[aaI,aaI,alr,aaQ hk];rfl
theorem ana (act:Int) {p:List SX} (h:∀q∈p,okX q.2):gN (aeU act (p.map adB)) (uO (chX act p)):=by
 unfold aeU uO chK chX
 rw[anB]
 refine vB (bH (.refl _) (bH apt (bH ?_ (bH ?_ ni))))
 ·show gN _ (.seq (p.map (·.1)).length (fun k=>stK ((p.map (·.1)).getD k st0)))
  rw[anB]
  refine gD fun k hk=>?_
  rw[afa p hk]
  have:(p.map (·.1)).getD k st0=(p.getD k sx0).1:=by
   rw[aaI,aaI,alr,aaQ hk];rfl
  rw[this]
  exact aqL _
 ·show gN _ (.seq ((List.range p.length).map (afG p)).length (fun k=>trK (((List.range p.length).map (afG p)).getD k aH)))
  rw[anB,List.length_range]
  refine gD fun k hk=>?_
  have e1:((List.range p.length).map (afG p)).getD k aH=afG p k:=by
   rw[aaI,alr,asT hk];rfl
  rw[e1]
  unfold aay
  rw[afa p hk,anB]
  have h3:=aqD (h _ (acI (bI sx0 hk)))
  exact bH (akD _) (bH (akD _) h3)
theorem am9 (s:mg):gN (ofRaw s) (.tup [uO (ofC s),iP (vK s)]):=by
 unfold ofRaw ofC
 by_cases h:vK s=0
 ·rw[if_pos h,if_pos h,h,al5]
  exact air (bH (ana _ (ao5 s)) (bH (.refl _) ni))
 ·rw[if_neg h,if_neg h]
  refine air (bH ?_ (bH (.refl _) ni))
  exact vB (bH (.refl _) (bH (.nil _) (bH (.nil _) (bH (.nil _) ni))))
def ofP (s:mg):PV:=.tup [uO (ofC s),iP (vK s)]
theorem aeQ:aK Tryz.prog 18 (jq (fun s:mg=>[sqA s]) (fun _=>True) ofP):=adK ahl fun s _=>am9 s
abbrev sK := List Int × Bool
def pq (c:aQ) (y:Mk) (k:Nat):Bool:=allM y.1 (gP c k).fr&&xX c y.1 k
def ig (c:aQ) (y:Mk) (s:sK) (k:Nat):sK:=if pq c y k then (if !s.2||decide (cmpL (y.2++[(k:Int)]) s.1<0) then (y.2++[(k:Int)],true) else s) else s
def cO (c:aQ) (y:Mk) (s:sK):Nat→sK
 | 0=>s
 | k+1=>ig c y (cO c y s k) k
def oN (c:aQ):List Mk→sK→sK
 | [],s=>s
 | y :: l,s=>if s.2&&decide (s.1.length<y.2.length+1) then s else oN c l (cO c y s c.trs.length)
def jL (c:aQ):sK:=oN c (iT c) ([],false)
def tJ (c:aQ):PV:=if kS c=0 then .tup [bP (!(jL c).2),l6 (jL c).1,iP 0] else .tup [bP false,l6 [],iP (kS c)]
theorem aaf (l:List Int) (k:Nat):∀j,j<0+l.length+1→bQ (0+l.length) (bQ 0 (bg 1 []) (fun j=>[iP (l.getD j 0)])) (bg 1 [iP (k:Int)]) j=[iP ((l++[(k:Int)]).getD j 0)]:=fun j hj=>
 adw (a:=l) (b:=[(k:Int)]) (aip _) (fun j hj=>aeS (n:=l.length) j (by omega)) (fun j hj=>by
  have hj:j<1:=hj
  obtain rfl:j=0:=by omega
  rfl) j (by rw[aaG];show j<l.length+1;omega)
end Go.Sx.Pe
