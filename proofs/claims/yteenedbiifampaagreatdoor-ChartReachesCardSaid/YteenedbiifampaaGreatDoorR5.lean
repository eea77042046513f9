/- ChartReaches, part 5 of its proof: declarations that the last part uses. -/
import Derived.Test.YteenedbiifampaaGreatDoorR4
set_option maxHeartbeats 1000000
set_option maxRecDepth 4000
set_option linter.unusedSimpArgs false
set_option linter.unusedVariables false
set_option linter.unusedSectionVars false
namespace Go.Sx.Pe
open Go Go.Proofs Go.Sx.Pn
theorem akw:aK Tryz.prog 26 apG:=by
 refine aX (Tb:=tab) mixed aB Tryz.func26 rfl rfl ?_
 rintro (c:aS) hpre
 refine ai (ai rfl (ai rfl rfl)) ?_
 obtain ⟨hst,htr⟩:=hpre
 refine ah (p:=c.act<1) (au (by omega)) (fun h1=>?_) (fun h1=>?_)
 ·refine ai (ai (fun _=>trivial) ?_) trivial
  show ak _ (iP (bE c))
  rw[bE,if_pos (.inl h1)]
  exact rfl
 refine ah (p:=6<c.act) (au (by omega)) (fun h2=>?_) (fun h2=>?_)
 ·refine ai (ai (fun _=>trivial) ?_) trivial
  show ak _ (iP (bE c))
  rw[bE,if_pos (.inr h2)]
  exact rfl
 have e0:¬(c.act<1∨6<c.act):=fun h=>h.elim h1 h2
 refine ei _ (ai (akK) (ei (c.ins) (ei [] (ai (a4 (ai (fun _=>Or.inl rfl) (ai nof (Or.inl rfl)))) (ai (by exact (ai rfl (fun _ _=>rfl))) (ai trivial (ai (trivial) ?_)))))))
 refine bn (p:=dJ c.ins=0) (bM (by omega)) (fun h3=>?_) (fun h3=>?_)
 ·refine ai (ai (fun _=>trivial) ?_) trivial
  show ak _ (iP (bE c))
  rw[bE,if_neg e0,if_pos h3]
  exact rfl
 have h16:=rM h3
 have e1:¬¬dJ c.ins=0:=fun h=>h h3
 refine ah (p:=c.sts.length=0) (gW (by omega)) (fun h4=>?_) (fun h4=>?_)
 ·refine ai (ai (fun _=>trivial) ?_) trivial
  show ak _ (iP (bE c))
  rw[bE,if_neg e0,if_neg e1,if_pos h4]
  exact rfl
 refine ah (p:=24<c.sts.length) (au (by omega)) (fun h5=>?_) (fun h5=>?_)
 ·refine ai (ai (fun _=>trivial) ?_) trivial
  show ak _ (iP (bE c))
  rw[bE,if_neg e0,if_neg e1,if_neg h4,if_pos (.inl h5)]
  exact rfl
 refine ah (p:=32<c.trs.length) (au (by omega)) (fun h6=>?_) (fun h6=>?_)
 ·refine ai (ai (fun _=>trivial) ?_) trivial
  show ak _ (iP (bE c))
  rw[bE,if_neg e0,if_neg e1,if_neg h4,if_pos (.inr h6)]
  exact rfl
 have e2:¬(24<c.sts.length∨32<c.trs.length):=fun h=>h.elim h5 h6
 refine ei (.seq [0,1,2,3,4,5]) (ai (by kernel_rfl) ?_)
 refine ei _ (ai (ajh) (ei ((c,c.sts)) (ei [] (ai (a4 (ai (fun _=>Or.inl rfl) (ai nof (Or.inl rfl)))) (ai (by exact (ai (ai rfl (fun _ _=>rfl)) (ai rfl rfl))) (ai trivial (ai (⟨by show c.sts.length≤1000000;omega,hst⟩) ?_)))))))
 refine bn (p:=dw (fun k=>eX c.act (c.sts.getD k st0)) c.sts.length=0) (bM (by dsimp only;omega)) (fun h7=>?_) (fun h7=>?_)
 ·refine ai (ai (fun _=>trivial) ?_) trivial
  show ak _ (iP (bE c))
  rw[bE,if_neg e0,if_neg e1,if_neg h4,if_neg e2,if_pos h7]
  exact rfl
 have hsm:xV c:=⟨by omega,by omega,by omega,by omega⟩
 refine ei _ (ai (ai7) (ei ((c,c.trs)) (ei [] (ai (a4 (ai (fun _=>Or.inl rfl) (ai nof (Or.inl rfl)))) (ai (by exact (ai (ai rfl (fun _ _=>rfl)) (ai rfl rfl))) (ai trivial (ai (⟨by show c.trs.length≤1000000;omega,hsm,htr⟩) ?_)))))))
 refine ai (ai (fun _=>trivial) ?_) trivial
 show ak _ (iP (bE c))
 rw[bE,if_neg e0,if_neg e1,if_neg h4,if_neg e2,if_neg (fun h=>h h7)]
 exact rfl
theorem aas:aK Tryz.prog 27 apG:=by
 refine aX (Tb:=tab) mixed aB Tryz.func27 rfl rfl ?_
 rintro (c:aS) hpre
 refine ai (ai rfl (ai rfl rfl)) ?_
 obtain ⟨hst,htr⟩:=hpre
 refine ah (p:=c.act<1) (au (by omega)) (fun h1=>?_) (fun h1=>?_)
 ·refine ai (ai (fun _=>trivial) ?_) trivial
  show ak _ (iP (bE c))
  rw[bE,if_pos (.inl h1)]
  exact rfl
 refine ah (p:=6<c.act) (au (by omega)) (fun h2=>?_) (fun h2=>?_)
 ·refine ai (ai (fun _=>trivial) ?_) trivial
  show ak _ (iP (bE c))
  rw[bE,if_pos (.inr h2)]
  exact rfl
 have e0:¬(c.act<1∨6<c.act):=fun h=>h.elim h1 h2
 refine ei _ (ai (ajm) (ei (c.ins) (ei [] (ai (a4 (ai (fun _=>Or.inl rfl) (ai nof (Or.inl rfl)))) (ai (by exact (ai rfl (fun _ _=>rfl))) (ai trivial (ai (trivial) ?_)))))))
 refine bn (p:=dJ c.ins=0) (bM (by omega)) (fun h3=>?_) (fun h3=>?_)
 ·refine ai (ai (fun _=>trivial) ?_) trivial
  show ak _ (iP (bE c))
  rw[bE,if_neg e0,if_pos h3]
  exact rfl
 have h16:=rM h3
 have e1:¬¬dJ c.ins=0:=fun h=>h h3
 refine ah (p:=c.sts.length=0) (gW (by omega)) (fun h4=>?_) (fun h4=>?_)
 ·refine ai (ai (fun _=>trivial) ?_) trivial
  show ak _ (iP (bE c))
  rw[bE,if_neg e0,if_neg e1,if_pos h4]
  exact rfl
 refine ah (p:=24<c.sts.length) (au (by omega)) (fun h5=>?_) (fun h5=>?_)
 ·refine ai (ai (fun _=>trivial) ?_) trivial
  show ak _ (iP (bE c))
  rw[bE,if_neg e0,if_neg e1,if_neg h4,if_pos (.inl h5)]
  exact rfl
 refine ah (p:=32<c.trs.length) (au (by omega)) (fun h6=>?_) (fun h6=>?_)
 ·refine ai (ai (fun _=>trivial) ?_) trivial
  show ak _ (iP (bE c))
  rw[bE,if_neg e0,if_neg e1,if_neg h4,if_pos (.inr h6)]
  exact rfl
 have e2:¬(24<c.sts.length∨32<c.trs.length):=fun h=>h.elim h5 h6
 have hA:bE c=if ¬dw (fun k=>eX c.act (c.sts.getD k st0)) c.sts.length=0 then dw (fun k=>eX c.act (c.sts.getD k st0)) c.sts.length else dw (fun k=>iI c (c.trs.getD k aM)) c.trs.length:=by
  unfold bE;rw[if_neg e0,if_neg e1,if_neg h4,if_neg e2]
 refine ei (bC.inv { X:=Nat,up:=fun k=>[(4,.s (iA k))],uo:=fun k=>[],inv:=fun k=>k≤c.sts.length∧(∀j,j<k→eX c.act (c.sts.getD j st0)=0),meas:=fun k=>c.sts.length-k,x0:=0 }) ?_
 refine ai (ai (ai (by exact (a4 (ai rfl rfl))) (ai (by exact (ai (ai (fun _=>rfl) (iE (by simp only[zz,reduceCtorEq];rfl))) rfl)) (by exact trivial))) rfl) (ai (ai (adO _) ?_) ?_)
 ·exact fun j hj=>absurd hj (akv _)
 intro (k:Nat) ⟨hk,hall⟩
 refine ah (p:=k<c.sts.length) (au (by omega)) (fun g1=>?_) (fun g1=>?_)
 ·refine ei (.seq [0,1,2,3,4,5,6,7]) (ai (by kernel_rfl) ?_)
  refine ai (ai (aaN _) (iN (n:=c.sts.length) (by omega))) (ai rfl ?_)
  refine ei _ (ai (amT) (ei ((c,c.sts.getD k st0)) (ei [] (ai (a4 (ai (fun _=>Or.inl rfl) (ai nof (Or.inl rfl)))) (ai (by exact (ai (ai rfl (ai (ai rfl (fun _ _=>rfl)) (ai (ai rfl (fun _ _=>rfl)) (ai rfl (fun _ _=>rfl))))) (ai (ai rfl (fun _ _=>rfl)) (iE (by simp only[zz,reduceCtorEq]))))) (ai trivial (ai (hst _ (aa5 (bG st0 g1))) ?_)))))))
  refine bn (p:=eX c.act (c.sts.getD k st0)=0) (bM (by dsimp only;omega)) (fun g2=>?_) (fun g2=>?_)
  ·have e:=cB (f:=fun k=>eX c.act (c.sts.getD k st0)) g1 hall g2
   refine ai (ai (fun _=>trivial) ?_) trivial
   show ak _ (iP (bE c))
   rw[hA,if_pos (show ¬dw (fun k=>eX c.act (c.sts.getD k st0)) c.sts.length=0 by rw[e];exact g2),e]
   exact rfl
  refine ei (k+1) (ai (ai rfl rfl) (ai (ai (ai rfl (ai (ai rfl rfl) (ai (ai rfl rfl) (ai (ai (ai (fun _=>rfl) (aO (by omega))) rfl) trivial)))) rfl) (ai (ai (iL (by omega)) ?_) (iM (by omega)))))
  intro j hj
  by_cases hjk:j=k
  ·subst hjk;exact g2
  ·exact hall j (by omega)
 ·obtain rfl:k=c.sts.length:=by omega
  rw[if_neg (fun h=>h (fP hall))] at hA
  refine ei (bC.inv { X:=Nat,up:=fun j=>[(6,.s (iA j))],uo:=fun j=>[],inv:=fun j=>j≤c.trs.length∧(∀i,i<j→iI c (c.trs.getD i aM)=0),meas:=fun j=>c.trs.length-j,x0:=0 }) ?_
  refine ai (ai (ai (by exact (a4 (ai rfl rfl))) (ai (by exact (ai (ai (fun _=>rfl) (iE (by simp only[zz,reduceCtorEq];rfl))) rfl)) (by exact trivial))) rfl) (ai (ai (adO _) ?_) ?_)
  ·exact fun i hi=>absurd hi (akv _)
  intro (j:Nat) ⟨hj,hallt⟩
  refine ah (p:=j<c.trs.length) (au (by omega)) (fun g3=>?_) (fun g3=>?_)
  ·refine ai (ai (aaN _) (iN (n:=c.trs.length) (by omega))) (ai rfl ?_)
   have hto:=htr _ (aa5 (bG aM g3))
   refine ei _ (ai (afj) (ei ((c,(c.trs.getD j aM).fr)) (ei [] (ai (a4 (ai (fun _=>Or.inl rfl) (ai nof (Or.inl rfl)))) (ai (by exact (ai (ai rfl (ai (ai rfl (fun _ _=>rfl)) (ai (ai rfl (fun _ _=>rfl)) (ai rfl (fun _ _=>rfl))))) (ai rfl (fun _ _=>rfl)))) (ai trivial (ai (hto.1) ?_)))))))
   refine bn (p:=gU c.sts.length (c.trs.getD j aM).fr=0) (bM (by dsimp only;omega)) (fun g4=>?_) (fun g4=>?_)
   ·have e:iI c (c.trs.getD j aM)=gU c.sts.length (c.trs.getD j aM).fr:=by unfold iI;rw[if_pos g4]
    refine ai (ai (fun _=>trivial) ?_) trivial
    show ak _ (iP (bE c))
    rw[hA,cB (f:=fun k=>iI c (c.trs.getD k aM)) g3 hallt (by rw[e];exact g4),e]
    exact rfl
   refine ei _ (ai (afj) (ei ((c,(c.trs.getD j aM).to)) (ei [] (ai (a4 (ai (fun _=>Or.inl rfl) (ai nof (Or.inl rfl)))) (ai (by exact (ai (ai rfl (ai (ai rfl (fun _ _=>rfl)) (ai (ai rfl (fun _ _=>rfl)) (ai rfl (fun _ _=>rfl))))) (ai rfl (fun _ _=>rfl)))) (ai trivial (ai (hto.2.1) ?_)))))))
   refine bn (p:=gU c.sts.length (c.trs.getD j aM).to=0) (bM (by dsimp only;omega)) (fun g5=>?_) (fun g5=>?_)
   ·have e:iI c (c.trs.getD j aM)=gU c.sts.length (c.trs.getD j aM).to:=by unfold iI;rw[if_neg (fun h=>h g4),if_pos g5]
    refine ai (ai (fun _=>trivial) ?_) trivial
    show ak _ (iP (bE c))
    rw[hA,cB (f:=fun k=>iI c (c.trs.getD k aM)) g3 hallt (by rw[e];exact g5),e]
    exact rfl
   refine ei (.seq [0,1,2,3,4,5]) (ai (by kernel_rfl) ?_)
   have hsm:xV c:=⟨by omega,by omega,by omega,by omega⟩
   refine ei _ (ai (alZ) (ei (c) (ei [] (ai (a4 (ai (fun _=>Or.inl rfl) (ai nof (Or.inl rfl)))) (ai (by exact (ai rfl (ai (ai rfl (fun _ _=>rfl)) (ai (ai rfl (fun _ _=>rfl)) (ai rfl (fun _ _=>rfl)))))) (ai trivial (ai (hsm) ?_)))))))
   refine ei _ (ai (ajX) (ei (((c.trs.getD j aM).wh,nW c)) (ei [] (ai (a4 (ai (fun _=>Or.inl rfl) (ai nof (Or.inl rfl)))) (ai (by exact (ai (ai (iE (by simp only[zz,reduceCtorEq])) (ai (iE (by simp only[zz,reduceCtorEq])) (ai rfl (fun _ _=>rfl)))) rfl)) (ai trivial (ai (trivial) ?_)))))))
   have e:iI c (c.trs.getD j aM)=dL (c.trs.getD j aM).wh (nW c):=by unfold iI;rw[if_neg (fun h=>h g4),if_neg (fun h=>h g5)]
   refine bn (p:=dL (c.trs.getD j aM).wh (nW c)=0) (bM (by dsimp only;omega)) (fun g6=>?_) (fun g6=>?_)
   ·refine ai (ai (fun _=>trivial) ?_) trivial
    show ak _ (iP (bE c))
    rw[hA,cB (f:=fun k=>iI c (c.trs.getD k aM)) g3 hallt (by rw[e];exact g6),e]
    exact rfl
   refine ei (j+1) (ai (ai rfl rfl) (ai (ai (ai rfl (ai (ai rfl rfl) (ai (ai rfl rfl) (ai (ai (ai (fun _=>rfl) (aO (by omega))) rfl) trivial)))) rfl) (ai (ai (iL (by omega)) ?_) (iM (by omega)))))
   intro i hi
   by_cases hij:i=j
   ·subst hij;rw[e];exact g6
   ·exact hallt i (by omega)
  ·obtain rfl:j=c.trs.length:=by omega
   refine ai (ai (fun _=>trivial) ?_) trivial
   show ak _ (iP (bE c))
   rw[hA,fP hallt]
   exact rfl
abbrev dec (n : Nat) : List UInt8 := Lib.decDigits n
def adh (n:Nat):List UInt8:=if n=0 then [] else dec n
theorem akt (n:Nat):adh n=if n=0 then [] else adh (n / 10)++[UInt8.ofNat (48+n % 10)]:=by
 unfold adh
 by_cases h:n=0
 ·rw[if_pos h,if_pos h]
 ·rw[if_neg h,if_neg h]
  unfold dec
  rw[Lib.decDigits]
  by_cases h2:n<10
  ·rw[dif_pos h2,if_pos (by omega),arY h2];rfl
  ·rw[dif_neg h2,if_neg (by omega)]
theorem aof (s:List UInt8) (l h:Nat):(strOf s).extract l h=strOf ((s.take h).drop l):=by
 apply ByteArray.ext
 simp only[strOf,ByteArray.data_extract]
 apply Array.ext'
 simp[List.drop_take]
theorem wZ:aK Tryz.prog 79 (bR (fun n:Nat=>[iA n]) (fun n=>n<100) (fun n=>sP (dec n))):=
 afd (aeg (α:=Nat) Tryz.func79 rfl rfl (vals:=fun n=>[.int .i64 n]) (pre:=fun n=>n<100) (ret:=fun n=>.string (strOf (dec n))) (fun _ _=>rfl)
  fun n hn w=>(Tryz.strconv_Itoa_small n hn w).mono fun e w' h=>by
   obtain ⟨h1,h2⟩:=h
   subst h2
   exact ⟨h1,RowKit.Below.refl _ _⟩) id
  (fun _ _=>rfl) (fun _ _=>rfl) (fun _ _=>rfl) (fun _ _=>rfl) (fun _ h=>h)
def ado (i:Nat) (d:UInt8):List UInt8:=[UInt8.ofNat (97+i),d]
def jk:Nat→List (List UInt8)
 | 0=>[]
 | n+1=>jk n++[ado n 48,ado n 49]
theorem aae:∀n,(jk n).length=2*n
 | 0=>rfl
 | n+1=>by rw[jk,aaH,aae n];simp;omega
def yN (k:Nat):List UInt8:=121 :: dec k
def nu:Nat→List (List UInt8)
 | 0=>[]
 | n+1=>nu n++[yN n]
theorem aan:∀n,(nu n).length=n
 | 0=>rfl
 | n+1=>by rw[nu,aaH,aan n];rfl
def dO (c:aS):List (List UInt8):=jk c.act.toNat++c.ins++nu c.sts.length
theorem aaw {a b:List (List UInt8)} {n:Nat} {f g:Nat→List PV} (hn:n=a.length) (hf:∀k,k<a.length→f k=[sP (a.getD k [])]) (hg:∀k,k<b.length→g k=[sP (b.getD k [])]):∀k,k<(a++b).length→bL n f g k=[sP ((a++b).getD k [])]:=by
 intro k hk
 subst hn
 unfold bL
 by_cases h:k<a.length
 ·rw[if_pos h,hf k h,aaK,aaK,aeB h]
 ·have hb:k-a.length<b.length:=by rw[aaH] at hk;omega
  rw[if_neg h,hg _ hb,aaK,aaK,aeD (by omega)]
def ssR (l:List (List UInt8)):LV:=.rw 9 1 l.length (fun k=>[sP (l.getD k [])])
def abc:List UInt8:=[97,98,99,100,101,102]
theorem apA {d:Nat} (h:d<6):(strOf abc).extract ((d:Int)).toNat (((d+1:Nat):Int)).toNat=strOf [UInt8.ofNat (97+d)]:=by
 rw[ani,ani,aof]
 have:∀d:Fin 6,(abc.take (d.1+1)).drop d.1=[UInt8.ofNat (97+d.1)]:=by decide
 exact congrArg strOf (this ⟨d,h⟩)
def agl (c:aS):Prop:=1≤c.act∧c.act≤6∧c.ins.length≤1000∧c.sts.length≤99
def arB:Spec:=iC (fun c:aS=>[jy c]) agl (fun c=>ssP (dO c))
theorem anF {x y:List UInt8} {a b:ByteArray} (ha:a=strOf x) (hb:b=strOf y):∀k,k<[x,y].length→bg 1 [.val (.string a),.val (.string b)] k=[sP ([x,y].getD k [])]:=by
 intro k hk
 have hk:k<2:=hk
 subst ha;subst hb
 match k,hk with
 | 0,_=>rfl
 | 1,_=>rfl
theorem ahP {x:List UInt8} {a:ByteArray} (ha:a=strOf x):∀k,k<[x].length→bg 1 [.val (.string a)] k=[sP ([x].getD k [])]:=by
 intro k hk
 have hk:k<1:=hk
 subst ha
 obtain rfl:k=0:=by omega
 rfl
theorem aH {l:List PV} (n:Nat) (h:l.length=n):∀k,k<n→(bg 1 l k).length=1:=by
 intro k hk
 subst h
 induction l generalizing k with
 | nil=>simp at hk
 | cons d l ih=>
  cases k with
  | zero=>rfl
  | succ k=>
   have h1:=ih k (by simpa using hk)
   show (bg 1 (d :: l) (k+1)).length=1
   have:bg 1 (d :: l) (k+1)=bg 1 l k:=by
    unfold bg
    rw[anw,anw];rfl
   rw[this];exact h1
theorem aeX {n:Nat} (h:n≤10000):n≤maxLen∧n*16≤140737488355328:=⟨by unfold maxLen;omega,by omega⟩
theorem apB:aK Tryz.prog 76 arB:=by
 refine aX (Tb:=tab) mixed aB Tryz.func76 rfl rfl ?_
 rintro (c:aS) hpre
 refine ai (ai rfl (ai rfl rfl)) ?_
 obtain ⟨h1,h2,h3,h4⟩:=hpre
 have h1:1≤c.act:=h1
 have h2:c.act≤6:=h2
 have h3:c.ins.length≤1000:=h3
 have h4:c.sts.length≤99:=h4
 refine ei (bC.inv { X:=Nat,up:=fun i=>[(9,.s (iA i)),(3,ssR (jk i))],uo:=fun i=>[],inv:=fun i=>i≤c.act.toNat∧(True),meas:=fun i=>c.act.toNat-i,x0:=0 }) ?_
 refine ai (ai (ai (by exact (a4 (ai rfl rfl))) (ai (by exact (ai (ai (ai (fun _=>rfl) (iE (by simp only[zz,reduceCtorEq];rfl))) rfl) rfl)) (by exact trivial))) rfl) (ai (ai (adO _) ?_) ?_)
 ·trivial
 intro (i:Nat) ⟨hi,_⟩
 have hln:=aae i
 refine ah (p:=i<c.act.toNat) (by exact au (by omega)) (fun g1=>?_) (fun g1=>?_)
 ·have hw:IntKind.i64.wrap ((i:Int)+1)=((i+1:Nat):Int):=aO (by omega)
  have hx:(strOf abc).extract ((i:Int)).toNat (IntKind.i64.wrap ((i:Int)+1)).toNat=strOf [UInt8.ofNat (97+i)]:=by rw[hw];exact apA (by omega)
  have hxs:((((strOf abc).extract ((i:Int)).toNat (IntKind.i64.wrap ((i:Int)+1)).toNat).size+1:Nat):Int)≤9223372036854775807:=by rw[hx,dI];show ((1+1:Nat):Int)≤_;decide
  refine ai (ai (aaN _) (ai (by rw[hw];omega) (by rw[hw];show ((i+1:Nat):Int)≤6;omega))) ?_
  refine ai hxs (ai hxs ?_)
  refine ai (aeX (by show (jk i).length+2≤10000;omega)) (ai (aH 2 rfl) ?_)
  refine ei (i+1) (ai (ai rfl rfl) (ai (ai (ai rfl (ai (ai rfl rfl) (ai (ai rfl rfl) (ai (ai (ai (ai (fun _=>rfl) (aO (by omega))) rfl) (ai rfl (ai rfl (ai ?_ ?_)))) trivial)))) rfl) (ai (ai (iL (by omega)) trivial) (iM (by omega)))))
  ·show (jk i).length+2=(jk (i+1)).length
   rw[jk,aaH];rfl
  ·exact fun k hk=>aaw (a:=jk i) (b:=[ado i 48,ado i 49]) (n:=(jk i).length) (f:=fun k=>[sP ((jk i).getD k [])]) rfl (fun _ _=>rfl) (anF (x:=ado i 48) (y:=ado i 49) (a:=(strOf abc).extract ((i:Int)).toNat (IntKind.i64.wrap ((i:Int)+1)).toNat++strOf [48]) (b:=(strOf abc).extract ((i:Int)).toNat (IntKind.i64.wrap ((i:Int)+1)).toNat++strOf [49]) (by rw[hx,eP];rfl) (by rw[hx,eP];rfl)) k (by rw[aaH];exact hk)
 ·obtain rfl:i=c.act.toNat:=by omega
  refine ai (aeX (by show (jk c.act.toNat).length+c.ins.length≤10000;omega)) (ai (fun _ _=>rfl) ?_)
  refine ei (bC.inv { X:=Nat,up:=fun j=>[(31,.s (iA j)),(3,ssR (jk c.act.toNat++c.ins++nu j))],uo:=fun j=>[],inv:=fun j=>j≤c.sts.length∧(True),meas:=fun j=>c.sts.length-j,x0:=0 }) ?_
  refine ai (ai (ai (by exact (a4 (ai rfl rfl))) (ai ?_ ?_)) rfl) (ai (ai (adO _) ?_) ?_)
  ·refine (ai (ai (ai (fun _=>rfl) (iE (by simp only[zz,reduceCtorEq];rfl))) rfl) (ai rfl (ai rfl (ai ?_ ?_))))
   ·show (jk c.act.toNat).length+c.ins.length=(jk c.act.toNat++c.ins++nu 0).length
    rw[aaH,aaH];rfl
   ·intro k hk
    have:=aaw (a:=jk c.act.toNat) (b:=c.ins) (n:=(jk c.act.toNat).length) (f:=fun k=>[sP ((jk c.act.toNat).getD k [])]) (g:=fun k=>[sP (c.ins.getD k [])]) rfl (fun _ _=>rfl) (fun _ _=>rfl) k (by rw[aaH];exact hk)
    rw[this]
    show _=[sP ((jk c.act.toNat++c.ins++[]).getD k [])]
    rw[aqg]
  ·exact trivial
  ·trivial
  intro (j:Nat) ⟨hj,_⟩
  have hlj:=aan j
  have hla:(jk c.act.toNat++c.ins++nu j).length=2*c.act.toNat+c.ins.length+j:=by rw[aaH,aaH,hln,hlj]
  refine ah (p:=j<c.sts.length) (au (by omega)) (fun g2=>?_) (fun g2=>?_)
  ·refine ei _ (ai (wZ) (ei (j) (ei [] (ai (a4 (ai (fun _=>Or.inl rfl) (ai nof (Or.inl rfl)))) (ai (by exact rfl) (ai trivial (ai ((by show j<100;omega)) ?_)))))))
   have hd:(dec j).length≤2:=by
    have:∀j:Fin 100,(Lib.decDigits j.1).length≤2:=by decide +kernel
    exact this ⟨j,by omega⟩
   refine ai (by show (((strOf [121]).size+(strOf (dec j)).size:Nat):Int)≤9223372036854775807;rw[dI,dI,List.length_singleton];omega) ?_
   refine ai (aeX (by show (jk c.act.toNat++c.ins++nu j).length+1≤10000;omega)) (ai (aH 1 rfl) ?_)
   refine ei (j+1) (ai (ai rfl rfl) (ai (ai (ai rfl (ai (ai rfl rfl) (ai (ai rfl rfl) (ai (ai (ai (ai (fun _=>rfl) (aO (by omega))) rfl) (ai rfl (ai rfl (ai ?_ ?_)))) trivial)))) rfl) (ai (ai (iL (by omega)) trivial) (iM (by omega)))))
   ·show (jk c.act.toNat++c.ins++nu j).length+1=(jk c.act.toNat++c.ins++nu (j+1)).length
    rw[nu,aaH,aaH,aaH,aaH,aaH];rfl
   ·have e:jk c.act.toNat++c.ins++nu (j+1)=(jk c.act.toNat++c.ins++nu j)++[yN j]:=by rw[nu];simp
    have:=aaw (a:=jk c.act.toNat++c.ins++nu j) (b:=[yN j]) rfl (fun _ _=>rfl) (ahP (x:=yN j) (a:=strOf [121]++strOf (dec j)) (by rw[eP];rfl))
    rw[←e] at this
    intro k hk
    exact this k (by rw[e,aaH];exact hk)
  ·obtain rfl:j=c.sts.length:=by omega
   refine ai (ai (fun h=>absurd (show false=true from h) (by decide)) ?_) trivial
   show ak _ (ssP (dO c))
   rw[dO]
   exact (ai rfl (fun _ _=>rfl))
theorem gI {c:aS} (h:bE c=0):(1≤c.act∧c.act≤6)∧dJ c.ins=0∧(0<c.sts.length∧c.sts.length≤24)∧c.trs.length≤32∧(∀k,k<c.sts.length→eX c.act (c.sts.getD k st0)=0)∧∀k,k<c.trs.length→iI c (c.trs.getD k aM)=0:=by
 unfold bE at h
 split at h
 ·cases h
 split at h
 ·rename_i h1 h2;exact absurd h h2
 split at h
 ·cases h
 split at h
 ·cases h
 split at h
 ·rename_i h1;exact absurd h h1
 rename_i h1 h2 h3 h4 h5
 refine ⟨by omega,aql.1 h2,by omega,by omega,fun k hk=>oC (aql.1 h5) k hk,fun k hk=>oC h k hk⟩
theorem alO {c:aS} (h:bE c=0):agl c:=by
 obtain ⟨h1,h2,h3,h4,-⟩:=gI h
 have:=rM h2
 exact ⟨h1.1,h1.2,by omega,by omega⟩
def fT (m:List Bool) (k:Nat):PV:=bP (m.getD k false)
def sZ (m:List Bool):PV:=.arr 24 (fT m)
def sJ (m:List Bool):SV:=.p false (sZ m)
theorem nJ (g:Nat→PV):∀(n i k:Nat),k<n→(lX g i n)[k]?=some (g (i+k))
 | 0,_,_,h=>by omega
 | n+1,i,0,_=>rfl
 | n+1,i,k+1,h=>by
  show (lX g (i+1) n)[k]?=_
  rw[nJ g n (i+1) k (by omega),show i+1+k=i+(k+1) by omega]
theorem anE (m:List Bool) {k:Nat} (h:k<24):(dX 24 (fT m))[k]?=some (fT m k):=by
 unfold dX;rw[nJ _ _ _ _ h,agW]
def gL (n:Nat) (l:List Int):Prop:=∀k∈l,0≤k∧k<(n:Int)
theorem lW {n:Nat} {l:List Int} (h:gL n l) {k:Nat} (hk:k<l.length):0≤l.getD k 0∧l.getD k 0<(n:Int):=h _ (aa5 (bG 0 hk))
def jM (m:List Bool) (k:Int):Bool:=m.getD k.toNat false
def allM (m:List Bool) (l:List Int):Bool:=l.all (jM m)
def ao7 (m:List Bool):PV:=.fn 161 [.pt (dX 24 (fT m)) 0]
theorem an8:aK Tryz.prog 161 (bR (fun a:List Bool×Int=>[iA a.2,.p false (.pt (dX 24 (fT a.1)) 0)]) (fun a=>0≤a.2∧a.2<24) (fun a=>bP (!jM a.1 a.2))):=by
 refine aX (Tb:=tab) mixed aB Tryz.func161 rfl rfl ?_
 rintro (a:List Bool×Int) hpre
 refine ai (ai rfl (ai rfl rfl)) ?_
 have h1:0≤a.2:=hpre.1
 have h2:a.2<24:=hpre.2
 refine ai ⟨h1,h2⟩ ?_
 refine ei (fT a.1 a.2.toNat) (ai (by rw[agW];exact anE a.1 (by omega)) ?_)
 refine ai (ai (fun _=>trivial) ?_) trivial
 exact rfl
def aqT:Spec:=bR (fun a:List Bool×List Int=>[isA a.2,.p false (ao7 a.1)]) (fun a=>gL 24 a.2∧a.2.length≤1000000) (fun a=>iP (jv (fun k=>!jM a.1 k) a.2))
theorem anR:aK Tryz.prog 106 aqT:=by
 refine aX (Tb:=tab) mixed aB Tryz.func106 rfl rfl ?_
 rintro (a:List Bool×List Int) hpre
 refine ai (ai rfl (ai rfl rfl)) ?_
 obtain ⟨hx,hl⟩:=hpre
 have hl:a.2.length≤1000000:=hl
 refine ei (bC.inv { X:=Nat,up:=fun k=>[(8,.s (iA k))],uo:=fun k=>[],inv:=fun k=>k≤a.2.length∧(∀y∈a.2.take k,(!jM a.1 y)=false),meas:=fun k=>a.2.length-k,x0:=0 }) ?_
 refine ai (ai (ai (by exact (a4 (ai rfl rfl))) (ai (by exact (ai (ai (fun _=>rfl) (iE (by simp only[zz,reduceCtorEq];rfl))) rfl)) (by exact trivial))) rfl) (ai (ai (adO _) ?_) ?_)
 ·exact fun y hy=>absurd hy (by simp)
 intro (k:Nat) ⟨hk,hall⟩
 refine ah (p:=k<a.2.length) (au (by omega)) (fun h1=>?_) (fun h1=>?_)
 ·refine ai (ai (aaN _) (iN (n:=a.2.length) (by omega))) (ai rfl ?_)
  refine ei _ (ai (an8) (ei ((a.1,a.2.getD k 0)) (ei [] (ai (a4 (ai (fun _=>Or.inl rfl) (ai nof (Or.inl rfl)))) (ai (by exact (ai (iE (by simp only[zz,reduceCtorEq])) (ai rfl rfl))) (ai trivial (ai (lW hx h1) ?_)))))))
  refine aZ (b:=!jM a.1 (a.2.getD k 0)) rfl (fun h2=>?_) (fun h2=>?_)
  ·refine ai (ai (fun _=>trivial) ?_) trivial
   show ak _ (iP (jv (fun k=>!jM a.1 k) a.2))
   rw[pV (d:=0) h1 h2 hall]
   exact rfl
  refine ei (k+1) (ai (ai rfl rfl) (ai (ai (ai rfl (ai (ai rfl rfl) (ai (ai rfl rfl) (ai (ai (ai (fun _=>rfl) (aO (by omega))) rfl) trivial)))) rfl) (ai (ai (iL (by omega)) ?_) (iM (by omega)))))
  intro y hy
  rw[aP 0 h1] at hy
  rcases ahT.1 hy with hy | hy
  ·exact hall y hy
  ·simp only[agp] at hy;subst hy;exact h2
 ·obtain rfl:k=a.2.length:=by omega
  rw[agn] at hall
  refine ai (ai (fun _=>trivial) ?_) trivial
  show ak _ (iP (jv (fun k=>!jM a.1 k) a.2))
  rw[rW hall]
  exact rfl
theorem aoS:aK Tryz.prog 38 (bR (fun a:List Bool×List Int=>[isA a.2,.p false (ao7 a.1)]) (fun a=>gL 24 a.2∧a.2.length≤1000000) (fun a=>bP (a.2.any fun k=>!jM a.1 k))):=by
 refine aX (Tb:=tab) mixed aB Tryz.func38 rfl rfl ?_
 rintro (a:List Bool×List Int) hpre
 refine ai (ai rfl (ai rfl rfl)) ?_
 refine ei _ (ai (anR) (ei (a) (ei [] (ai (a4 (ai (fun _=>Or.inl rfl) (ai nof (Or.inl rfl)))) (ai (by exact (ai (ai rfl (fun _ _=>rfl)) (ai rfl rfl))) (ai trivial (ai (hpre) ?_)))))))
 refine ai (ai (fun _=>trivial) ?_) trivial
 show ak _ (bP (a.2.any fun k=>!jM a.1 k))
 rw[(pO (fun k=>!jM a.1 k) a.2).symm]
 exact rfl
theorem aoW:aK Tryz.prog 114 (bR (fun a:List Bool×List Int=>[sJ a.1,isA a.2]) (fun a=>gL 24 a.2∧a.2.length≤1000000) (fun a=>bP (allM a.1 a.2))):=by
 refine jo [3000006] ?_
 refine aX (Tb:=tab) mixed aB Tryz.func114 rfl rfl ?_
 rintro (a:List Bool×List Int) hpre
 refine ai (ai rfl (ai rfl rfl)) ?_
 refine ei _ (ai (aoS) (ei (a) (ei [] (ai (a4 (ai (fun _=>Or.inl rfl) (ai nof (Or.inl rfl)))) (ai (by exact (ai (ai rfl (fun _ _=>rfl)) (ai rfl rfl))) (ai trivial (ai (hpre) ?_)))))))
 refine ai (ai (fun _=>trivial) ?_) trivial
 show ak _ (bP (allM a.1 a.2))
 rw[show allM a.1 a.2=!(a.2.any fun k=>!jM a.1 k) by unfold allM;simp[List.not_any_eq_all_not]]
 exact rfl
def cu (l:List Bool):List Bool:=l++List.replicate (24-l.length) false
theorem sV (l:List Bool) (k:Nat):(cu l).getD k false=l.getD k false:=by
 unfold cu
 rw[aaK,aaK]
 by_cases h:k<l.length
 ·rw[aeB h]
 ·rw[aeD (by omega),aqW (l:=l) (by omega),arX]
  split<;>rfl
theorem nX {l:List Bool} (h:l.length≤24):(cu l).length=24:=by unfold cu;rw[aaH,aq1];omega
theorem abM {n:Nat} {f g:Nat→List PV}:∀k,k<0+n→bL 0 f g k=g k:=fun k hk=>by
 unfold bL;rw[if_neg (akv _),arR]
def aqG:Spec:=bR (fun l:List (Bool)=>[bsA l]) (fun l=>l.length≤1000000) (fun l=>iX l)
theorem an3:aK Tryz.prog 40 aqG:=by
 refine aX (Tb:=tab) mixed aB Tryz.func40 rfl rfl ?_
 rintro (l:List (Bool)) hpre
 refine ai (ai rfl (ai rfl rfl)) ?_
 have hl:l.length≤1000000:=hpre
 intro b hb
 refine aY (fun h1=>?_) (fun h1=>?_)
 ·have h1:l.length=0:=hb h1
  refine ai (ai (fun _=>trivial) ?_) trivial
  show ak _ (iX l)
  rw[ape.1 h1]
  exact rfl
 ·refine ai (mxL (n:=0+l.length) (by omega) (by decide)) (ai (fun _ _=>rfl) ?_)
  refine ai (ai (fun _ k hk=>by rw[abM k hk];rfl) ?_) trivial
  refine (ai ?_ (fun _ _=>rfl))
  exact agW _
def arD:Spec:=bR (fun a:aS×List Bool=>[jy a.1,sJ a.2]) (fun a=>a.1.sts.length≤24∧a.2.length=24) (fun a=>iX (a.2.take a.1.sts.length))
theorem ahY:aK Tryz.prog 98 arD:=by
 refine aX (Tb:=tab) mixed aB Tryz.func98 rfl rfl ?_
 rintro (a:aS×List Bool) hpre
 refine ai (ai rfl (ai rfl rfl)) ?_
 obtain ⟨h1,h2⟩:=hpre
 have h1:a.1.sts.length≤24:=h1
 have h2:a.2.length=24:=h2
 refine ai (ai (by decide) (ai (aaN _) (by show (a.1.sts.length:Int)≤24;omega))) ?_
 have htl:(a.2.take a.1.sts.length).length=a.1.sts.length:=by rw[ah0];omega
 refine ei _ (ai (an3) (ei (a.2.take a.1.sts.length) (ei [] (ai (ai rfl (ai rfl (ai rfl (ai rfl (ai (fun _=>Or.inl rfl) (ai (fun _=>ai rfl rfl) (Or.inl rfl))))))) (ai ?_ (ai (by exact trivial) (ai ((by show (a.2.take a.1.sts.length).length≤1000000;omega)) ?_)))))))
 ·refine (ai rfl (ai ?_ ?_))
  ·show ((a.1.sts.length:Int)).toNat-(0:Int).toNat=(a.2.take a.1.sts.length).length
   rw[htl];simp
  ·intro k hk
   have hk:k<((a.1.sts.length:Int)).toNat-(0:Int).toNat:=hk
   have hk:k<a.1.sts.length:=by simpa using hk
   show [bP (a.2.getD ((0:Int).toNat+k) false)]=[bP ((a.2.take a.1.sts.length).getD k false)]
   rw[show (0:Int).toNat+k=k by simp,aaK,aaK,aj8,if_pos hk]
 refine ai (ai (fun _=>trivial) ?_) trivial
 exact (ai rfl (fun _ _=>rfl))
def isR (l:List Int):LV:=.rw 3 1 l.length (fun k=>[iP (l.getD k 0)])
theorem aal {a b:List Int} {n:Nat} {f g:Nat→List PV} (hn:n=a.length) (hf:∀k,k<a.length→f k=[iP (a.getD k 0)]) (hg:∀k,k<b.length→g k=[iP (b.getD k 0)]):∀k,k<(a++b).length→bL n f g k=[iP ((a++b).getD k 0)]:=by
 intro k hk
 subst hn
 unfold bL
 by_cases h:k<a.length
 ·rw[if_pos h,hf k h,aaK,aaK,aeB h]
 ·have hb:k-a.length<b.length:=by rw[aaH] at hk;omega
  rw[if_neg h,hg _ hb,aaK,aaK,aeD (by omega)]
theorem aiI (a:List Int) (x:Int):∀k,k<a.length+1→bL a.length (fun k=>[iP (a.getD k 0)]) (bg 1 [iP x]) k=[iP ((a++[x]).getD k 0)]:=fun k hk=>
 aal (a:=a) (b:=[x]) rfl (fun _ _=>rfl) (fun j hj=>by
  have hj:j<1:=hj
  obtain rfl:j=0:=by omega
  rfl) k (by rw[aaH];exact hk)
def jQ (p:Nat→Bool):Nat→List Int
 | 0=>[]
 | n+1=>if p n then jQ p n++[(n:Int)] else jQ p n
theorem wO (p:Nat→Bool):∀n,(jQ p n).length≤n
 | 0=>afK _
 | n+1=>by
  have:=wO p n
  rw[jQ];split
  ·rw[aaH];simp;omega
  ·omega
theorem aac {n:Nat} {l:List Int} (h:gU n l=0) (hn:n≤24):gL 24 l∧gL n l∧0<l.length:=by
 unfold gU at h
 split at h
 ·cases h
 ·rename_i h0
  have h1:=oC h
  have:gL n l:=by
   intro k hk
   obtain ⟨i,hi,rfl⟩:=apP hk
   have h2:=h1 i hi
   unfold mO at h2
   have hg:l.getD i 0=l[i]:=by rw[aaK,aaL hi];rfl
   rw[hg] at h2
   split at h2
   ·cases h2
   ·omega
  exact ⟨fun k hk=>by have:=this k hk;omega,this,by omega⟩
theorem anL {c:aS} {t:jA} (h:iI c t=0) (hn:c.sts.length≤24):(gL 24 t.fr∧gL c.sts.length t.fr)∧(gL 24 t.to∧gL c.sts.length t.to)∧dL t.wh (nW c)=0:=by
 unfold iI at h
 split at h
 ·rename_i h1;exact absurd h h1
 rename_i h1
 split at h
 ·rename_i h2;exact absurd h h2
 rename_i h2
 have g1:=aac (aql.1 h1) hn
 have g2:=aac (aql.1 h2) hn
 exact ⟨⟨g1.1,g1.2.1⟩,⟨g2.1,g2.2.1⟩,h⟩
theorem kZ {c:aS} (h:bE c=0) {i:Nat} (hi:i<c.trs.length):(gL 24 (c.trs.getD i aM).fr∧gL c.sts.length (c.trs.getD i aM).fr)∧(gL 24 (c.trs.getD i aM).to∧gL c.sts.length (c.trs.getD i aM).to)∧dL (c.trs.getD i aM).wh (nW c)=0:=by
 obtain ⟨_,_,h3,_,_,h6⟩:=gI h
 exact anL (h6 i hi) h3.2
theorem pX {c:aS} (h:gD c) {i:Nat} (hi:i<c.trs.length):ajV (c.trs.getD i aM):=h.2 _ (aa5 (bG aM hi))
theorem amP (a:List Bool) (k:Int):jM (cu a) k=jM a k:=sV a k.toNat
theorem amg (a:List Bool) (l:List Int):allM (cu a) l=allM a l:=by
 unfold allM;rw[show jM (cu a)=jM a from funext (amP a)]
def bO (m:List Bool) (l:List Int) (b:Bool):List Bool:=l.foldl (fun m k=>m.set k.toNat b) m
theorem dV (b:Bool):∀(l:List Int) (m:List Bool),(bO m l b).length=m.length
 | [],_=>rfl
 | k :: l,m=>by
  show (bO (m.set k.toNat b) l b).length=_
  rw[dV b l,ar3]
theorem oI (m:List Bool) (l:List Int) (k:Int) (b:Bool):bO m (l++[k]) b=(bO m l b).set k.toNat b:=by unfold bO;rw[aq5];rfl
theorem ain {m:List Bool} (hm:m.length=24) {j:Nat} (hj:j<24) (b:Bool) (k:Nat):p8 (fT m) j (bP b) k=fT (m.set j b) k:=by
 unfold p8 fT
 rw[aaK,aaK,asa]
 by_cases h:k=j
 ·rw[if_pos h,if_pos h.symm,if_pos (by omega)];rfl
 ·rw[if_neg h,if_neg (fun e=>h e.symm)]
def mP (m:List Bool) (t:jA):List Bool:=bO (bO m t.fr false) t.to true
def bf (c:aS) (m:List Bool) (i:Nat):List Bool×Bool:=if allM m (c.trs.getD i aM).fr then (mP m (c.trs.getD i aM),true) else (m,false)
def mkO (m:List Bool):Ob:=.arr 117 24 (fT m)
def arA:Spec:=iC (fun a:aS×List Bool×Nat=>[jy a.1,sJ a.2.1,iA a.2.2]) (fun a=>bE a.1=0∧gD a.1∧a.2.1.length=24∧a.2.2<a.1.trs.length) (fun a=>.tup [sZ (bf a.1 a.2.1 a.2.2).1,bP (bf a.1 a.2.1 a.2.2).2])
theorem aj0:aK Tryz.prog 61 arA:=by
 refine aX (Tb:=tab) mixed aB Tryz.func61 rfl rfl ?_
 rintro ⟨c,m,i⟩ hpre
 refine ai (ai rfl (ai rfl rfl)) ?_
 obtain ⟨hc,ho,hm,hi⟩:=hpre
 have hc:bE c=0:=hc
 have ho:gD c:=ho
 have hm:m.length=24:=hm
 have hi:i<c.trs.length:=hi
 obtain ⟨g1,g2,g3⟩:=kZ hc hi
 have hto:=pX ho hi
 refine ai (ai (aaN _) (iN (n:=c.trs.length) (by omega))) (ai rfl ?_)
 refine ei _ (ai (aoW) (ei ((m,(c.trs.getD i aM).fr)) (ei [] (ai (a4 (ai (fun _=>Or.inl rfl) (ai nof (Or.inl rfl)))) (ai (by exact (ai (ai rfl (fun _ _=>rfl)) (ai rfl (fun _ _=>rfl)))) (ai trivial (ai (⟨g1.1,hto.1⟩) ?_)))))))
 refine aZ (b:=!allM m (c.trs.getD i aM).fr) rfl (fun h2=>?_) (fun h2=>?_)
 ·have h2:allM m (c.trs.getD i aM).fr=false:=by simpa using h2
  have e:bf c m i=(m,false):=by unfold bf;rw[h2];rfl
  refine ai (ai (fun h=>absurd (show false=true from h) (by decide)) ?_) trivial
  show ak _ (.tup [sZ (bf c m i).1,bP (bf c m i).2])
  rw[e]
  exact (ai (ai rfl (fun _ _=>rfl)) rfl)
 have h2:allM m (c.trs.getD i aM).fr=true:=by simpa using h2
 have e:bf c m i=(mP m (c.trs.getD i aM),true):=by unfold bf;rw[h2];rfl
 have hf:(c.trs.getD i aM).fr.length≤1000000:=hto.1
 have ht:(c.trs.getD i aM).to.length≤1000000:=hto.2.1
 refine ei (bC.inv { X:=Nat,up:=fun k=>[(27,.s (iA k))],uo:=fun k=>[⟨1,117,[.ob (mkO (bO m ((c.trs.getD i aM).fr.take k) false))]⟩],inv:=fun k=>k≤(c.trs.getD i aM).fr.length∧(True),meas:=fun k=>(c.trs.getD i aM).fr.length-k,x0:=0 }) ?_
 refine ai (ai (ai (by exact (a4 (ai rfl rfl))) (ai ?_ ?_)) rfl) (ai (ai (adO _) ?_) ?_)
 ·exact (ai (ai (fun _=>rfl) (iE (by simp only[zz,reduceCtorEq];rfl))) rfl)
 ·exact (ai (ai rfl (ai rfl (fun _ _=>rfl))) trivial)
  skip
 ·trivial
 intro (k:Nat) ⟨hk,_⟩
 refine ah (p:=k<(c.trs.getD i aM).fr.length) (by simp only[zz,reduceCtorEq];omega) (fun h3=>?_) (fun h3=>?_)
 ·refine ai (ai (aaN _) (iN (n:=(c.trs.getD i aM).fr.length) (by omega))) (ai rfl ?_)
  have hx:=lW g1.1 h3
  have h24:((c.trs.getD i aM).fr.getD k 0).toNat<24:=by omega
  refine ai hx ?_
  refine ai (by show 0+((c.trs.getD i aM).fr.getD k 0).toNat*1<24;omega) ?_
  refine ei (k+1) (ai (ai rfl rfl) (ai (ai (ai rfl (ai (ai rfl rfl) (ai (ai rfl rfl) (ai (ai (ai (fun _=>rfl) (aO (by omega))) rfl) (ai (ai rfl (ai rfl ?_)) trivial))))) rfl) (ai (ai (iL (by omega)) trivial) (iM (by omega)))))
  intro q hq
  show p8 (fT (bO m ((c.trs.getD i aM).fr.take k) false)) (0+((c.trs.getD i aM).fr.getD k 0).toNat*1) (bP false) q=fT (bO m ((c.trs.getD i aM).fr.take (k+1)) false) q
  rw[agW,anw,ain (by rw[dV];exact hm) h24,aP 0 h3,oI]
 ·obtain rfl:k=(c.trs.getD i aM).fr.length:=by omega
  rw[agn]
  refine ei (bC.inv { X:=Nat,up:=fun j=>[(37,.s (iA j))],uo:=fun j=>[⟨1,117,[.ob (mkO (bO (bO m (c.trs.getD i aM).fr false) ((c.trs.getD i aM).to.take j) true))]⟩],inv:=fun j=>j≤(c.trs.getD i aM).to.length∧(True),meas:=fun j=>(c.trs.getD i aM).to.length-j,x0:=0 }) ?_
  refine ai (ai (ai (by exact (a4 (ai rfl rfl))) (ai ?_ ?_)) rfl) (ai (ai (adO _) ?_) ?_)
  ·exact (ai (ai (fun _=>rfl) (iE (by simp only[zz,reduceCtorEq];rfl))) rfl)
  ·exact (ai (ai rfl (ai rfl (fun _ _=>rfl))) trivial)
   skip
  ·trivial
  intro (j:Nat) ⟨hk,_⟩
  refine ah (p:=j<(c.trs.getD i aM).to.length) (by simp only[zz,reduceCtorEq];omega) (fun h3=>?_) (fun h3=>?_)
  ·refine ai (ai (aaN _) (iN (n:=(c.trs.getD i aM).to.length) (by omega))) (ai rfl ?_)
   have hx:=lW g2.1 h3
   have h24:((c.trs.getD i aM).to.getD j 0).toNat<24:=by omega
   refine ai hx ?_
   refine ai (by show 0+((c.trs.getD i aM).to.getD j 0).toNat*1<24;omega) ?_
   refine ei (j+1) (ai (ai rfl rfl) (ai (ai (ai rfl (ai (ai rfl rfl) (ai (ai rfl rfl) (ai (ai (ai (fun _=>rfl) (aO (by omega))) rfl) (ai (ai rfl (ai rfl ?_)) trivial))))) rfl) (ai (ai (iL (by omega)) trivial) (iM (by omega)))))
   intro q hq
   show p8 (fT (bO (bO m (c.trs.getD i aM).fr false) ((c.trs.getD i aM).to.take j) true)) (0+((c.trs.getD i aM).to.getD j 0).toNat*1) (bP true) q=fT (bO (bO m (c.trs.getD i aM).fr false) ((c.trs.getD i aM).to.take (j+1)) true) q
   rw[agW,anw,ain (by rw[dV];exact (dV _ _ _).trans hm) h24,aP 0 h3,oI]
  ·obtain rfl:j=(c.trs.getD i aM).to.length:=by omega
   rw[agn]
   refine ai (ai (fun h=>absurd (show false=true from h) (by decide)) ?_) trivial
   show ak _ (.tup [sZ (bf c m i).1,bP (bf c m i).2])
   rw[e]
   exact (ai (ai rfl (fun _ _=>rfl)) rfl)
def aoV (m:List Bool) (t:jA):PV:=.fn 125 [.pt (dX 24 (fT m)) 0,.pt (trK t) 0]
def apg (l:List Int) (k:Int):Bool:=l.any fun y=>k==y
def nD (m:List Bool) (t:jA) (k:Int):Bool:=jM m k&&!apg t.fr k
theorem aoc:aK Tryz.prog 125 (bR (fun a:(List Bool×jA)×Int=>[iA a.2,.p false (.pt (dX 24 (fT a.1.1)) 0),.p false (.pt (trK a.1.2) 0)]) (fun a=>(0≤a.2∧a.2<24)∧a.1.2.fr.length≤1000000) (fun a=>bP (nD a.1.1 a.1.2 a.2))):=by
 refine aX (Tb:=tab) mixed aB Tryz.func125 rfl rfl ?_
 rintro (a:(List Bool×jA)×Int) hpre
 refine ai (ai rfl (ai rfl rfl)) ?_
 obtain ⟨⟨h1,h2⟩,h3⟩:=hpre
 have h1:0≤a.2:=h1
 have h2:a.2<24:=h2
 refine ai ⟨h1,h2⟩ ?_
 refine ei (fT a.1.1 a.2.toNat) (ai (by rw[agW];exact anE a.1.1 (by omega)) ?_)
 refine aZ (b:=jM a.1.1 a.2) rfl (fun h4=>?_) (fun h4=>?_)
 ·refine ei _ (ai (anO) (ei ((a.1.2.fr,a.2)) (ei [] (ai (a4 (ai (fun _=>Or.inl rfl) (ai nof (Or.inl rfl)))) (ai (by exact (ai (ai rfl (fun _ _=>rfl)) rfl)) (ai trivial (ai (h3) ?_)))))))
  refine ai (ai (fun _=>trivial) ?_) trivial
  show ak _ (bP (nD a.1.1 a.1.2 a.2))
  rw[show nD a.1.1 a.1.2 a.2=!apg a.1.2.fr a.2 by unfold nD;rw[h4];rfl]
  exact rfl
 ·refine ai (ai (fun _=>trivial) ?_) trivial
  show ak _ (bP (nD a.1.1 a.1.2 a.2))
  rw[show nD a.1.1 a.1.2 a.2=false by unfold nD;rw[h4];rfl]
  exact rfl
def akM (a:(List Bool×jA)×List Int):Prop:=gL 24 a.2∧a.2.length≤1000000∧a.1.2.fr.length≤1000000
theorem aoj:aK Tryz.prog 106 (bR (fun a:(List Bool×jA)×List Int=>[isA a.2,.p false (aoV a.1.1 a.1.2)]) akM (fun a=>iP (jv (nD a.1.1 a.1.2) a.2))):=by
 refine aX (Tb:=tab) mixed aB Tryz.func106 rfl rfl ?_
 rintro (a:(List Bool×jA)×List Int) hpre
 refine ai (ai rfl (ai rfl rfl)) ?_
 obtain ⟨hx,hl,hf⟩:=hpre
 have hl:a.2.length≤1000000:=hl
 refine ei (bC.inv { X:=Nat,up:=fun k=>[(8,.s (iA k))],uo:=fun k=>[],inv:=fun k=>k≤a.2.length∧(∀y∈a.2.take k,nD a.1.1 a.1.2 y=false),meas:=fun k=>a.2.length-k,x0:=0 }) ?_
 refine ai (ai (ai (by exact (a4 (ai rfl rfl))) (ai (by exact (ai (ai (fun _=>rfl) (iE (by simp only[zz,reduceCtorEq];rfl))) rfl)) (by exact trivial))) rfl) (ai (ai (adO _) ?_) ?_)
 ·exact fun y hy=>absurd hy (by simp)
 intro (k:Nat) ⟨hk,hall⟩
 refine ah (p:=k<a.2.length) (au (by omega)) (fun h1=>?_) (fun h1=>?_)
 ·refine ai (ai (aaN _) (iN (n:=a.2.length) (by omega))) (ai rfl ?_)
  refine ei _ (ai (aoc) (ei ((a.1,a.2.getD k 0)) (ei [] (ai (a4 (ai (fun _=>Or.inl rfl) (ai nof (Or.inl rfl)))) (ai (by exact (ai (iE (by simp only[zz,reduceCtorEq])) (ai (ai rfl rfl) (ai rfl rfl)))) (ai trivial (ai (⟨lW hx h1,hf⟩) ?_)))))))
  refine aZ (b:=nD a.1.1 a.1.2 (a.2.getD k 0)) rfl (fun h2=>?_) (fun h2=>?_)
  ·refine ai (ai (fun _=>trivial) ?_) trivial
   show ak _ (iP (jv (nD a.1.1 a.1.2) a.2))
   rw[pV (d:=0) h1 h2 hall]
   exact rfl
  refine ei (k+1) (ai (ai rfl rfl) (ai (ai (ai rfl (ai (ai rfl rfl) (ai (ai rfl rfl) (ai (ai (ai (fun _=>rfl) (aO (by omega))) rfl) trivial)))) rfl) (ai (ai (iL (by omega)) ?_) (iM (by omega)))))
  intro y hy
  rw[aP 0 h1] at hy
  rcases ahT.1 hy with hy | hy
  ·exact hall y hy
  ·simp only[agp] at hy;subst hy;exact h2
 ·obtain rfl:k=a.2.length:=by omega
  rw[agn] at hall
  refine ai (ai (fun _=>trivial) ?_) trivial
  show ak _ (iP (jv (nD a.1.1 a.1.2) a.2))
  rw[rW hall]
  exact rfl
theorem aoQ:aK Tryz.prog 38 (bR (fun a:(List Bool×jA)×List Int=>[isA a.2,.p false (aoV a.1.1 a.1.2)]) akM (fun a=>bP (a.2.any (nD a.1.1 a.1.2)))):=by
 refine aX (Tb:=tab) mixed aB Tryz.func38 rfl rfl ?_
 rintro (a:(List Bool×jA)×List Int) hpre
 refine ai (ai rfl (ai rfl rfl)) ?_
 refine ei _ (ai (aoj) (ei (a) (ei [] (ai (a4 (ai (fun _=>Or.inl rfl) (ai nof (Or.inl rfl)))) (ai (by exact (ai (ai rfl (fun _ _=>rfl)) (ai rfl rfl))) (ai trivial (ai (hpre) ?_)))))))
 refine ai (ai (fun _=>trivial) ?_) trivial
 show ak _ (bP (a.2.any (nD a.1.1 a.1.2)))
 rw[(pO (nD a.1.1 a.1.2) a.2).symm]
 exact rfl
def xZ (c:aS) (m:List Bool) (i:Nat):Bool:=(c.trs.getD i aM).to.any (nD m (c.trs.getD i aM))
def aq8:Spec:=bR (fun a:aS×List Bool×Nat=>[jy a.1,sJ a.2.1,iA a.2.2]) (fun a=>bE a.1=0∧gD a.1∧a.2.2<a.1.trs.length) (fun a=>bP (xZ a.1 a.2.1 a.2.2))
theorem aed:aK Tryz.prog 62 aq8:=by
 refine jo [3000015] ?_
 refine aX (Tb:=tab) mixed aB Tryz.func62 rfl rfl ?_
 rintro ⟨c,m,i⟩ hpre
 refine ai (ai rfl (ai rfl rfl)) ?_
 obtain ⟨hc,ho,hi⟩:=hpre
 have hc:bE c=0:=hc
 have ho:gD c:=ho
 have hi:i<c.trs.length:=hi
 obtain ⟨g1,g2,g3⟩:=kZ hc hi
 have hto:=pX ho hi
 refine ai (ai (aaN _) (iN (n:=c.trs.length) (by omega))) (ai rfl ?_)
 refine ei _ (ai (aoQ) (ei (((m,c.trs.getD i aM),(c.trs.getD i aM).to)) (ei [] (ai (a4 (ai (fun _=>Or.inl rfl) (ai nof (Or.inl rfl)))) (ai (by exact (ai (ai rfl (fun _ _=>rfl)) (ai rfl rfl))) (ai trivial (ai (⟨g2.1,hto.2.1,hto.1⟩) ?_)))))))
 refine ai (ai (fun _=>trivial) ?_) trivial
 exact rfl
def kK (c:aS) (m:List Bool) (l:List Int):List Bool:=l.foldl (fun m i=>bO m (c.trs.getD i.toNat aM).to true) m
theorem ajP (c:aS) (m:List Bool) (l:List Int) (i:Int):kK c m (l++[i])=bO (kK c m l) (c.trs.getD i.toNat aM).to true:=by unfold kK;rw[aq5];rfl
theorem aeC (c:aS):∀(l:List Int) (m:List Bool),(kK c m l).length=m.length
 | [],_=>rfl
 | i :: l,m=>by
  show (kK c (bO m (c.trs.getD i.toNat aM).to true) l).length=_
  rw[aeC c l,dV]
theorem wu {α:Type} {l m:List α} {k:Nat} (d:α) (h1:k<l.length) (h2:k<m.length) (h:l.take k=m.take k) (e:l.getD k d=m.getD k d):l.take (k+1)=m.take (k+1):=by
 rw[aP d h1,aP d h2,h,e]
def apk:Spec:=bR (fun a:List (Int)×List (Int)=>[isA a.1,isA a.2]) (fun a=>a.1.length≤1000000) (fun a=>bP (decide (a.1=a.2)))
theorem alF:aK Tryz.prog 16 apk:=by
 refine aX (Tb:=tab) mixed aB Tryz.func16 rfl rfl ?_
 rintro (a:List (Int)×List (Int)) hpre
 refine ai (ai rfl (ai rfl rfl)) ?_
 have hl:a.1.length≤1000000:=hpre
 refine bn (p:=a.1.length=a.2.length) (bM (by omega)) (fun h1=>?_) (fun h1=>?_)
 ·refine ai (ai (fun _=>trivial) ?_) trivial
  show ak _ (bP (decide (a.1=a.2)))
  rw[decide_eq_false (fun h=>h1 (congrArg List.length h))]
  exact rfl
 refine ei (bC.inv { X:=Nat,up:=fun k=>[(5,.s (iA k))],uo:=fun k=>[],inv:=fun k=>k≤a.1.length∧(a.1.take k=a.2.take k),meas:=fun k=>a.1.length-k,x0:=0 }) ?_
 refine ai (ai (ai (by exact (a4 (ai rfl rfl))) (ai (by exact (ai (ai (fun _=>rfl) (iE (by simp only[zz,reduceCtorEq];rfl))) rfl)) (by exact trivial))) rfl) (ai (ai (adO _) ?_) ?_)
 ·rfl
 intro (k:Nat) ⟨hk,hall⟩
 refine ah (p:=k<a.1.length) (au (by omega)) (fun h4=>?_) (fun h4=>?_)
 ·refine ei (.seq [0,1,2,3,4,5,6,7,8]) (ai (by kernel_rfl) ?_)
  refine ai (ai (aaN _) (iN (n:=a.1.length) (by omega))) (ai rfl ?_)
  refine ai (ai (aaN _) (iN (n:=a.2.length) (by omega))) (ai rfl ?_)
  refine bn (p:=a.1.getD k 0=a.2.getD k 0) (by exact bne_iff_ne) (fun h5=>?_) (fun h5=>?_)
  ·refine ai (ai (fun _=>trivial) ?_) trivial
   show ak _ (bP (decide (a.1=a.2)))
   rw[decide_eq_false (fun h=>h5 (by rw[h]))]
   exact rfl
  refine ei (k+1) (ai (ai rfl rfl) (ai (ai (ai rfl (ai (ai rfl rfl) (ai (ai rfl rfl) (ai (ai (ai (fun _=>rfl) (aO (by omega))) rfl) trivial)))) rfl) (ai (ai (iL (by omega)) ?_) (iM (by omega)))))
  exact wu 0 h4 (by omega) hall h5
 ·obtain rfl:k=a.1.length:=by omega
  rw[agn,h1,agn] at hall
  refine ai (ai (fun _=>trivial) ?_) trivial
  show ak _ (bP (decide (a.1=a.2)))
  rw[decide_eq_true hall]
  exact rfl
def akJ:Spec:=bR (fun a:List (Bool)×List (Bool)=>[bsA a.1,bsA a.2]) (fun a=>a.1.length≤1000000) (fun a=>bP (decide (a.1=a.2)))
theorem am8:aK Tryz.prog 120 akJ:=by
 refine aX (Tb:=tab) mixed aB Tryz.func120 rfl rfl ?_
 rintro (a:List (Bool)×List (Bool)) hpre
 refine ai (ai rfl (ai rfl rfl)) ?_
 have hl:a.1.length≤1000000:=hpre
 refine bn (p:=a.1.length=a.2.length) (bM (by omega)) (fun h1=>?_) (fun h1=>?_)
 ·refine ai (ai (fun _=>trivial) ?_) trivial
  show ak _ (bP (decide (a.1=a.2)))
  rw[decide_eq_false (fun h=>h1 (congrArg List.length h))]
  exact rfl
 refine ei (bC.inv { X:=Nat,up:=fun k=>[(5,.s (iA k))],uo:=fun k=>[],inv:=fun k=>k≤a.1.length∧(a.1.take k=a.2.take k),meas:=fun k=>a.1.length-k,x0:=0 }) ?_
 refine ai (ai (ai (by exact (a4 (ai rfl rfl))) (ai (by exact (ai (ai (fun _=>rfl) (iE (by simp only[zz,reduceCtorEq];rfl))) rfl)) (by exact trivial))) rfl) (ai (ai (adO _) ?_) ?_)
 ·rfl
 intro (k:Nat) ⟨hk,hall⟩
 refine ah (p:=k<a.1.length) (au (by omega)) (fun h4=>?_) (fun h4=>?_)
 ·refine ei (.seq [0,1,2,3,4,5,6,7,8]) (ai (by kernel_rfl) ?_)
  refine ai (ai (aaN _) (iN (n:=a.1.length) (by omega))) (ai rfl ?_)
  refine ai (ai (aaN _) (iN (n:=a.2.length) (by omega))) (ai rfl ?_)
  refine bn (p:=a.1.getD k false=a.2.getD k false) (by exact bne_iff_ne) (fun h5=>?_) (fun h5=>?_)
  ·refine ai (ai (fun _=>trivial) ?_) trivial
   show ak _ (bP (decide (a.1=a.2)))
   rw[decide_eq_false (fun h=>h5 (by rw[h]))]
   exact rfl
  refine ei (k+1) (ai (ai rfl rfl) (ai (ai (ai rfl (ai (ai rfl rfl) (ai (ai rfl rfl) (ai (ai (ai (fun _=>rfl) (aO (by omega))) rfl) trivial)))) rfl) (ai (ai (iL (by omega)) ?_) (iM (by omega)))))
  exact wu false h4 (by omega) hall h5
 ·obtain rfl:k=a.1.length:=by omega
  rw[agn,h1,agn] at hall
  refine ai (ai (fun _=>trivial) ?_) trivial
  show ak _ (bP (decide (a.1=a.2)))
  rw[decide_eq_true hall]
  exact rfl
theorem agO:aK Tryz.prog 54 akJ:=by
 refine aX (Tb:=tab) mixed aB Tryz.func54 rfl rfl ?_
 rintro (a:List Bool×List Bool) hpre
 refine ai (ai rfl (ai rfl rfl)) ?_
 refine ei _ (ai (am8) (ei (a) (ei [] (ai (a4 (ai (fun _=>Or.inl rfl) (ai nof (Or.inl rfl)))) (ai (by exact (ai (ai rfl (fun _ _=>rfl)) (ai rfl (fun _ _=>rfl)))) (ai trivial (ai (hpre) ?_)))))))
 refine ai (ai (fun _=>trivial) ?_) trivial
 exact rfl
theorem afE:aK Tryz.prog 104 (bR (fun a:jA×List Bool=>[trA a.1,bsA a.2]) (fun a=>gL a.2.length a.1.fr∧a.1.fr.length≤1000000) (fun a=>bP (allM a.2 a.1.fr))):=by
 refine aX (Tb:=tab) mixed aB Tryz.func104 rfl rfl ?_
 rintro (a:jA×List Bool) hpre
 refine ai (ai rfl (ai rfl rfl)) ?_
 obtain ⟨hx,hl⟩:=hpre
 have hl:a.1.fr.length≤1000000:=hl
 refine ei (bC.inv { X:=Nat,up:=fun k=>[(5,.s (iA k))],uo:=fun k=>[],inv:=fun k=>k≤a.1.fr.length∧(∀y∈a.1.fr.take k,jM a.2 y=true),meas:=fun k=>a.1.fr.length-k,x0:=0 }) ?_
 refine ai (ai (ai (by exact (a4 (ai rfl rfl))) (ai (by exact (ai (ai (fun _=>rfl) (iE (by simp only[zz,reduceCtorEq];rfl))) rfl)) (by exact trivial))) rfl) (ai (ai (adO _) ?_) ?_)
 ·exact fun y hy=>absurd hy (by simp)
 intro (k:Nat) ⟨hk,hall⟩
 refine ah (p:=k<a.1.fr.length) (au (by omega)) (fun h1=>?_) (fun h1=>?_)
 ·refine ai (ai (aaN _) (iN (n:=a.1.fr.length) (by omega))) (ai rfl ?_)
  refine ai (lW hx h1) ?_
  refine ai rfl ?_
  refine aZ (b:=!jM a.2 (a.1.fr.getD k 0)) rfl (fun h2=>?_) (fun h2=>?_)
  ·have h2:jM a.2 (a.1.fr.getD k 0)=false:=by simpa using h2
   refine ai (ai (fun _=>trivial) ?_) trivial
   show ak _ (bP (allM a.2 a.1.fr))
   rw[show allM a.2 a.1.fr=false by unfold allM;rw[aqU];exact ⟨_,aa5 (bG 0 h1),by rw[h2];decide⟩]
   exact rfl
  refine ei (k+1) (ai (ai rfl rfl) (ai (ai (ai rfl (ai (ai rfl rfl) (ai (ai rfl rfl) (ai (ai (ai (fun _=>rfl) (aO (by omega))) rfl) trivial)))) rfl) (ai (ai (iL (by omega)) ?_) (iM (by omega)))))
  intro y hy
  rw[aP 0 h1] at hy
  rcases ahT.1 hy with hy | hy
  ·exact hall y hy
  ·simp only[agp] at hy;subst hy;simpa using h2
 ·obtain rfl:k=a.1.fr.length:=by omega
  rw[agn] at hall
  refine ai (ai (fun _=>trivial) ?_) trivial
  show ak _ (bP (allM a.2 a.1.fr))
  rw[show allM a.2 a.1.fr=true from akN.2 hall]
  exact rfl
def iR (c:aS) (m:List Bool) (l:List Int):List Bool:=l.foldl (fun m i=>bO m (c.trs.getD i.toNat aM).fr false) m
theorem ahk (c:aS) (m:List Bool) (l:List Int) (i:Int):iR c m (l++[i])=bO (iR c m l) (c.trs.getD i.toNat aM).fr false:=by unfold iR;rw[aq5];rfl
theorem acR (c:aS):∀(l:List Int) (m:List Bool),(iR c m l).length=m.length
 | [],_=>rfl
 | i :: l,m=>by
  show (iR c (bO m (c.trs.getD i.toNat aM).fr false) l).length=_
  rw[acR c l,dV]
def xW (c:aS) (a:List Bool) (l:List Int):List Bool:=kK c (iR c a l) l
def bsR (l:List Bool):LV:=.rw 4 1 l.length (fun k=>[bP (l.getD k false)])
theorem air {m:List Bool} {j:Nat} (hj:j<m.length) (b:Bool):∀k,iO (fun k=>[bP (m.getD k false)]) j 0 [bP b] k=[bP ((m.set j b).getD k false)]:=by
 intro k
 unfold iO
 rw[aaK (l:=m.set j b),asa]
 by_cases h:k=j
 ·rw[if_pos h,if_pos h.symm,if_pos hj];rfl
 ·rw[if_neg h,if_neg (fun e=>h e.symm),←aaK]
def apJ (a:aS×List Bool×List Int):Prop:=bE a.1=0∧gD a.1∧a.2.1.length=a.1.sts.length∧gL a.1.trs.length a.2.2∧a.2.2.length≤1000000
def arH:Spec:=bR (fun a:aS×List Bool×List Int=>[jy a.1,bsA a.2.1,isA a.2.2]) apJ (fun a=>iX (xW a.1 a.2.1 a.2.2))
theorem amH:aK Tryz.prog 118 arH:=by
 refine aX (Tb:=tab) mixed aB Tryz.func118 rfl rfl ?_
 rintro ⟨c,a,l⟩ hpre
 refine ai (ai rfl (ai rfl rfl)) ?_
 obtain ⟨hc,ho,ha,hx,hl⟩:=hpre
 have hc:bE c=0:=hc
 have ho:gD c:=ho
 have ha:a.length=c.sts.length:=ha
 have hx:gL c.trs.length l:=hx
 have hl:l.length≤1000000:=hl
 have h24:=(gI hc).2.2.1.2
 refine ai (mxL (n:=0+a.length) (by omega) (by decide)) (ai (fun _ _=>rfl) ?_)
 refine ei (bC.inv { X:=Nat,up:=fun k=>[(21,.s (iA k)),(7,bsR (iR c a (l.take k)))],uo:=fun k=>[],inv:=fun k=>k≤l.length∧(True),meas:=fun k=>l.length-k,x0:=0 }) ?_
 refine ai (ai (ai (by exact (a4 (ai rfl rfl))) (ai ?_ ?_)) rfl) (ai (ai (adO _) ?_) ?_)
 ·refine (ai (ai (ai (fun _=>rfl) (iE (by simp only[zz,reduceCtorEq];rfl))) rfl) (ai rfl (ai rfl (ai ?_ (fun _ _=>rfl)))))
  exact agW _
 ·exact trivial
 ·trivial
 intro (k:Nat) ⟨hk,_⟩
 have s1:(iR c a (l.take k)).length=c.sts.length:=(acR _ _ _).trans ha
 refine ah (p:=k<l.length) (au (by dsimp only;omega)) (fun h2=>?_) (fun h2=>?_)
 ·refine ai (ai (aaN _) (iN (n:=l.length) (by omega))) (ai rfl ?_)
  have hx0:=lW hx h2
  have hi:(l.getD k 0).toNat<c.trs.length:=by omega
  obtain ⟨q1,q2,q3⟩:=kZ hc hi
  have hto:=pX ho hi
  have hst:iR c a (l.take (k+1))=bO (iR c a (l.take k)) (c.trs.getD (l.getD k 0).toNat aM).fr false:=by rw[aP 0 h2,ahk]
  refine ai hx0 ?_
  refine ai rfl ?_
  have hf:(c.trs.getD (l.getD k 0).toNat aM).fr.length≤1000000:=hto.1
  refine ei (bC.inv { X:=Nat,up:=fun j=>[(32,.s (iA j)),(7,bsR (bO (iR c a (l.take k)) ((c.trs.getD (l.getD k 0).toNat aM).fr.take j) false))],uo:=fun j=>[],inv:=fun j=>j≤(c.trs.getD (l.getD k 0).toNat aM).fr.length∧(True),meas:=fun j=>(c.trs.getD (l.getD k 0).toNat aM).fr.length-j,x0:=0 }) ?_
  refine ai (ai (ai (by exact (a4 (ai rfl rfl))) (ai ?_ ?_)) rfl) (ai (ai (adO _) ?_) ?_)
  ·exact (ai (ai (ai (fun _=>rfl) (iE (by simp only[zz,reduceCtorEq];rfl))) rfl) (ai rfl (ai rfl (ai rfl (fun _ _=>rfl)))))
   skip
  ·exact trivial
  ·trivial
  intro (j:Nat) ⟨hk1,_⟩
  have hsl:(bO (iR c a (l.take k)) ((c.trs.getD (l.getD k 0).toNat aM).fr.take j) false).length=c.sts.length:=(dV _ _ _).trans s1
  refine ah (p:=j<(c.trs.getD (l.getD k 0).toNat aM).fr.length) (by simp only[zz,reduceCtorEq];omega) (fun h3=>?_) (fun h3=>?_)
  ·refine ai (ai (aaN _) (iN (n:=(c.trs.getD (l.getD k 0).toNat aM).fr.length) (by omega))) (ai rfl ?_)
   have hxx:=lW q1.2 h3
   have hxn:((c.trs.getD (l.getD k 0).toNat aM).fr.getD j 0).toNat<(bO (iR c a (l.take k)) ((c.trs.getD (l.getD k 0).toNat aM).fr.take j) false).length:=by omega
   refine ai (by show 0≤(c.trs.getD (l.getD k 0).toNat aM).fr.getD j 0∧(c.trs.getD (l.getD k 0).toNat aM).fr.getD j 0<((bO (iR c a (l.take k)) ((c.trs.getD (l.getD k 0).toNat aM).fr.take j) false).length:Int);rw[hsl];exact hxx) ?_
   refine ai (ai hxn (by decide)) ?_
   refine ei (j+1) (ai (ai rfl rfl) (ai (ai (ai rfl (ai (ai rfl rfl) (ai (ai rfl rfl) (ai (ai (ai (ai (fun _=>rfl) (aO (by omega))) rfl) (ai rfl (ai rfl (ai ?_ ?_)))) trivial)))) rfl) (ai (ai (iL (by omega)) trivial) (iM (by omega)))))
   ·rw[dV,dV]
   ·intro q hq
    show iO (fun w'=>[bP ((bO (iR c a (l.take k)) ((c.trs.getD (l.getD k 0).toNat aM).fr.take j) false).getD w' false)]) ((c.trs.getD (l.getD k 0).toNat aM).fr.getD j 0).toNat 0 [bP false] q=[bP ((bO (iR c a (l.take k)) ((c.trs.getD (l.getD k 0).toNat aM).fr.take (j+1)) false).getD q false)]
    rw[air hxn,aP 0 h3,oI]
  ·obtain rfl:j=(c.trs.getD (l.getD k 0).toNat aM).fr.length:=by omega
   rw[agn]
   refine ei (k+1) (ai (ai rfl rfl) (ai (ai (ai rfl (ai (ai rfl rfl) (ai (ai rfl rfl) (ai (ai (ai (ai (fun _=>rfl) (aO (by omega))) rfl) (ai rfl (ai rfl (ai ?_ ?_)))) trivial)))) rfl) (ai (ai (iL (by omega)) trivial) (iM (by omega)))))
   ·rw[hst]
   ·rw[hst];exact fun _ _=>rfl
 ·obtain rfl:k=l.length:=by omega
  rw[agn] at s1
  rw[agn]
  have hE:xW c a l=kK c (iR c a l) l:=rfl
  generalize iR c a l=m at *
  refine ei (bC.inv { X:=Nat,up:=fun k=>[(43,.s (iA k)),(7,bsR (kK c m (l.take k)))],uo:=fun k=>[],inv:=fun k=>k≤l.length∧(True),meas:=fun k=>l.length-k,x0:=0 }) ?_
  refine ai (ai (ai (by exact (a4 (ai rfl rfl))) (ai ?_ ?_)) rfl) (ai (ai (adO _) ?_) ?_)
  ·exact (ai (ai (ai (fun _=>rfl) (iE (by simp only[zz,reduceCtorEq];rfl))) rfl) (ai rfl (ai rfl (ai rfl (fun _ _=>rfl)))))
  ·exact trivial
  ·trivial
  intro (k:Nat) ⟨hk,_⟩
  have s2:(kK c m (l.take k)).length=c.sts.length:=(aeC _ _ _).trans s1
  refine ah (p:=k<l.length) (au (by dsimp only;omega)) (fun h2=>?_) (fun h2=>?_)
  ·refine ai (ai (aaN _) (iN (n:=l.length) (by omega))) (ai rfl ?_)
   have hx0:=lW hx h2
   have hi:(l.getD k 0).toNat<c.trs.length:=by omega
   obtain ⟨q1,q2,q3⟩:=kZ hc hi
   have hto:=pX ho hi
   have hst:kK c m (l.take (k+1))=bO (kK c m (l.take k)) (c.trs.getD (l.getD k 0).toNat aM).to true:=by rw[aP 0 h2,ajP]
   refine ai hx0 ?_
   refine ai rfl ?_
   have hf:(c.trs.getD (l.getD k 0).toNat aM).to.length≤1000000:=hto.2.1
   refine ei (bC.inv { X:=Nat,up:=fun j=>[(54,.s (iA j)),(7,bsR (bO (kK c m (l.take k)) ((c.trs.getD (l.getD k 0).toNat aM).to.take j) true))],uo:=fun j=>[],inv:=fun j=>j≤(c.trs.getD (l.getD k 0).toNat aM).to.length∧(True),meas:=fun j=>(c.trs.getD (l.getD k 0).toNat aM).to.length-j,x0:=0 }) ?_
   refine ai (ai (ai (by exact (a4 (ai rfl rfl))) (ai ?_ ?_)) rfl) (ai (ai (adO _) ?_) ?_)
   ·exact (ai (ai (ai (fun _=>rfl) (iE (by simp only[zz,reduceCtorEq];rfl))) rfl) (ai rfl (ai rfl (ai rfl (fun _ _=>rfl)))))
    skip
   ·exact trivial
   ·trivial
   intro (j:Nat) ⟨hk1,_⟩
   have hsl:(bO (kK c m (l.take k)) ((c.trs.getD (l.getD k 0).toNat aM).to.take j) true).length=c.sts.length:=(dV _ _ _).trans s2
   refine ah (p:=j<(c.trs.getD (l.getD k 0).toNat aM).to.length) (by simp only[zz,reduceCtorEq];omega) (fun h3=>?_) (fun h3=>?_)
   ·refine ai (ai (aaN _) (iN (n:=(c.trs.getD (l.getD k 0).toNat aM).to.length) (by omega))) (ai rfl ?_)
    have hxx:=lW q2.2 h3
    have hxn:((c.trs.getD (l.getD k 0).toNat aM).to.getD j 0).toNat<(bO (kK c m (l.take k)) ((c.trs.getD (l.getD k 0).toNat aM).to.take j) true).length:=by omega
    refine ai (by show 0≤(c.trs.getD (l.getD k 0).toNat aM).to.getD j 0∧(c.trs.getD (l.getD k 0).toNat aM).to.getD j 0<((bO (kK c m (l.take k)) ((c.trs.getD (l.getD k 0).toNat aM).to.take j) true).length:Int);rw[hsl];exact hxx) ?_
    refine ai (ai hxn (by decide)) ?_
    refine ei (j+1) (ai (ai rfl rfl) (ai (ai (ai rfl (ai (ai rfl rfl) (ai (ai rfl rfl) (ai (ai (ai (ai (fun _=>rfl) (aO (by omega))) rfl) (ai rfl (ai rfl (ai ?_ ?_)))) trivial)))) rfl) (ai (ai (iL (by omega)) trivial) (iM (by omega)))))
    ·rw[dV,dV]
    ·intro q hq
     show iO (fun w'=>[bP ((bO (kK c m (l.take k)) ((c.trs.getD (l.getD k 0).toNat aM).to.take j) true).getD w' false)]) ((c.trs.getD (l.getD k 0).toNat aM).to.getD j 0).toNat 0 [bP true] q=[bP ((bO (kK c m (l.take k)) ((c.trs.getD (l.getD k 0).toNat aM).to.take (j+1)) true).getD q false)]
     rw[air hxn,aP 0 h3,oI]
   ·obtain rfl:j=(c.trs.getD (l.getD k 0).toNat aM).to.length:=by omega
    rw[agn]
    refine ei (k+1) (ai (ai rfl rfl) (ai (ai (ai rfl (ai (ai rfl rfl) (ai (ai rfl rfl) (ai (ai (ai (ai (fun _=>rfl) (aO (by omega))) rfl) (ai rfl (ai rfl (ai ?_ ?_)))) trivial)))) rfl) (ai (ai (iL (by omega)) trivial) (iM (by omega)))))
    ·rw[hst]
    ·rw[hst];exact fun _ _=>rfl
  ·obtain rfl:k=l.length:=by omega
   rw[agn]
   refine ai (ai (fun _=>(by exact (fun _ _=>rfl))) ?_) trivial
   show ak _ (iX (xW c a l))
   rw[hE]
   exact (ai rfl (fun _ _=>rfl))
structure mq where
 act:Int
 sts:List Stp
def sqK (s:mq):List PV:=[iP s.act,ajE s.sts]
def sqA (s:mq):SV:=.p false (.agg (sqK s))
def vG (l:List Sk) (k:Nat):Int:=if (l.getD k bI).1<0∨6≤(l.getD k bI).1 then 2 else if 0<k∧(l.getD k bI).1=(l.getD (k-1) bI).1 then 7 else if 0<k∧(l.getD k bI).1<(l.getD (k-1) bI).1 then 9 else 0
def jT (x:Stp):Int:=if x.st.length=0 then 13 else if 6<x.st.length then 5 else if ¬dw (vG x.st) x.st.length=0 then dw (vG x.st) x.st.length else if x.wt<0∨1000000<x.wt then 2 else 0
def alM (x:Int):Bool:=decide (0≤x)&&decide (x<6)
theorem afZ {x:Int}:alM x=true↔0≤x∧x<6:=by unfold alM;rw[afI,decide_eq_true_iff,decide_eq_true_iff]
theorem aey:aK Tryz.prog 168 (bR (fun x:Int=>[iA x]) (fun _=>True) (fun x=>bP (decide (0≤x)&&decide (x<6)))):=by
 refine aX (Tb:=tab) mixed aB Tryz.func168 rfl rfl ?_
 rintro (x:Int) hpre
 refine ai (ai rfl (ai rfl rfl)) ?_
 refine ah (p:=0≤x) (bZ (by omega)) (fun h1=>?_) (fun h1=>?_)
 ·refine ai (ai (fun _=>trivial) ?_) trivial
  show ak _ (bP (decide (0≤x)&&decide (x<6)))
  rw[decide_eq_true h1,ahX]
  exact rfl
 ·refine ai (ai (fun _=>trivial) ?_) trivial
  show ak _ (bP (decide (0≤x)&&decide (x<6)))
  rw[decide_eq_false h1,aoT]
  exact rfl
def uf (l:List Sk) (k:Nat):Int:=if k=0 then -1 else (l.getD (k-1) bI).1
def arw:Spec:=bR (fun x:Stp=>[stA x]) (fun _=>True) (fun x=>iP (jT x))
theorem apq:aK Tryz.prog 164 arw:=by
 refine aX (Tb:=tab) mixed aB Tryz.func164 rfl rfl ?_
 rintro (x:Stp) hpre
 refine ai (ai rfl (ai rfl rfl)) ?_
 refine ah (p:=x.st.length=0) (gW (by omega)) (fun h1=>?_) (fun h1=>?_)
 ·refine ai (ai (fun _=>trivial) ?_) trivial
  show ak _ (iP (jT x))
  rw[jT,if_pos h1]
  exact rfl
 refine ah (p:=6<x.st.length) (au (by omega)) (fun h2=>?_) (fun h2=>?_)
 ·refine ai (ai (fun _=>trivial) ?_) trivial
  show ak _ (iP (jT x))
  rw[jT,if_neg h1,if_pos h2]
  exact rfl
 have hA:∀e,dw (vG x.st) x.st.length=e→¬e=0→jT x=e:=fun e h h0=>by unfold jT;rw[if_neg h1,if_neg h2,if_pos (by rw[h];exact h0),h]
 refine ei (bC.inv { X:=Nat,up:=fun k=>[(19,.s (iA k)),(4,.s (iA (uf x.st k)))],uo:=fun k=>[],inv:=fun k=>k≤x.st.length∧(∀j,j<k→vG x.st j=0),meas:=fun k=>x.st.length-k,x0:=0 }) ?_
 refine ai (ai (ai (by exact (a4 (ai rfl rfl))) (ai (by exact (ai (ai (ai (fun _=>rfl) (iE (by simp only[zz,reduceCtorEq];rfl))) rfl) (ai (ai (fun _=>rfl) (iE (by simp only[zz,reduceCtorEq];rfl))) rfl))) (by exact trivial))) rfl) (ai (ai (adO _) ?_) ?_)
 ·exact fun j hj=>absurd hj (akv _)
 intro (k:Nat) ⟨hk,hall⟩
 refine ah (p:=k<x.st.length) (au (by omega)) (fun h3=>?_) (fun h3=>?_)
 ·refine ai (ai (aaN _) (iN (n:=x.st.length) (by omega))) (ai rfl ?_)
  refine ei _ (ai (aey) (ei ((x.st.getD k bI).1) (ei [] (ai (a4 (ai (fun _=>Or.inl rfl) (ai nof (Or.inl rfl)))) (ai (by exact (iE (by simp only[zz,reduceCtorEq]))) (ai trivial (ai (trivial) ?_)))))))
  refine aZ (b:=!alM (x.st.getD k bI).1) rfl (fun h4=>?_) (fun h4=>?_)
  ·have h4:¬(0≤(x.st.getD k bI).1∧(x.st.getD k bI).1<6):=by rw[←afZ];simpa using h4
   have e:vG x.st k=2:=by unfold vG;rw[if_pos (by omega)]
   refine ai (ai (fun _=>trivial) ?_) trivial
   show ak _ (iP (jT x))
   rw[hA 2 ((cB h3 hall (by rw[e];decide)).trans e) (by decide)]
   exact rfl
  have h4:0≤(x.st.getD k bI).1∧(x.st.getD k bI).1<6:=by rw[←afZ];simpa using h4
  refine ah (p:=(x.st.getD k bI).1=uf x.st k) (by simp only[zz,reduceCtorEq]) (fun h5=>?_) (fun h5=>?_)
  ·have hk0:0<k:=by
    rcases apF k with e | e
    ·subst e;unfold uf at h5;rw[if_pos rfl] at h5;omega
    ·exact e
   have h5:(x.st.getD k bI).1=(x.st.getD (k-1) bI).1:=by unfold uf at h5;rwa [if_neg (by omega)] at h5
   have e:vG x.st k=7:=by unfold vG;rw[if_neg (by omega),if_pos ⟨hk0,h5⟩]
   refine ai (ai (fun _=>trivial) ?_) trivial
   show ak _ (iP (jT x))
   rw[hA 7 ((cB h3 hall (by rw[e];decide)).trans e) (by decide)]
   exact rfl
  refine ah (p:=(x.st.getD k bI).1<uf x.st k) (au Iff.rfl) (fun h6=>?_) (fun h6=>?_)
  ·have hk0:0<k:=by
    rcases apF k with e | e
    ·subst e;unfold uf at h6;rw[if_pos rfl] at h6;omega
    ·exact e
   have h6:(x.st.getD k bI).1<(x.st.getD (k-1) bI).1:=by unfold uf at h6;rwa [if_neg (by omega)] at h6
   have e:vG x.st k=9:=by unfold vG;rw[if_neg (by omega),if_neg (by omega),if_pos ⟨hk0,h6⟩]
   refine ai (ai (fun _=>trivial) ?_) trivial
   show ak _ (iP (jT x))
   rw[hA 9 ((cB h3 hall (by rw[e];decide)).trans e) (by decide)]
   exact rfl
  refine ei (k+1) (ai (ai rfl rfl) (ai (ai (ai rfl (ai (ai rfl rfl) (ai (ai rfl rfl) (ai (ai (ai (ai (fun _=>rfl) (aO (by omega))) rfl) (ai (ai nof (iE (by simp only[zz,reduceCtorEq];rfl))) rfl)) trivial)))) rfl) (ai (ai (iL (by omega)) ?_) (iM (by omega)))))
  intro j hj
  by_cases hjk:j=k
  ·subst hjk
   unfold uf at h5 h6
   unfold vG
   rw[if_neg (by omega)]
   by_cases e0:j=0
   ·rw[if_neg (by omega),if_neg (by omega)]
   ·rw[if_neg e0] at h5 h6
    rw[if_neg (fun h=>h5 h.2),if_neg (fun h=>h6 h.2)]
  ·exact hall j (by omega)
 ·obtain rfl:k=x.st.length:=by omega
  have e2:dw (vG x.st) x.st.length=0:=fP hall
  have hB:jT x=if x.wt<0∨1000000<x.wt then 2 else 0:=by unfold jT;rw[if_neg h1,if_neg h2,if_neg (fun h=>h e2)]
  refine ah (p:=x.wt<0) (au (by omega)) (fun h7=>?_) (fun h7=>?_)
  ·refine ai (ai (fun _=>trivial) ?_) trivial
   show ak _ (iP (jT x))
   rw[hB,if_pos (.inl h7)]
   exact rfl
  refine ah (p:=1000000<x.wt) (au (by omega)) (fun h8=>?_) (fun h8=>?_)
  ·refine ai (ai (fun _=>trivial) ?_) trivial
   show ak _ (iP (jT x))
   rw[hB,if_pos (.inr h8)]
   exact rfl
  ·refine ai (ai (fun _=>trivial) ?_) trivial
   show ak _ (iP (jT x))
   rw[hB,if_neg (by omega)]
   exact rfl
theorem af4 {m:List Bool} {j:Nat} (hj:j<m.length) (b:Bool) (k:Nat):p8 (fT m) j (bP b) k=fT (m.set j b) k:=by
 unfold p8 fT
 rw[aaK,aaK,asa]
 by_cases h:k=j
 ·rw[if_pos h,if_pos h.symm,if_pos hj];rfl
 ·rw[if_neg h,if_neg (fun e=>h e.symm)]
def okS (n:Nat) (l:List Sk):Prop:=∀y∈l,0≤y.1∧y.1<(n:Int)
theorem vB {n:Nat} {l:List Sk} (h:okS n l) {k:Nat} (hk:k<l.length):0≤(l.getD k bI).1∧(l.getD k bI).1<(n:Int):=h _ (aa5 (bG bI hk))
def qZ (m:List Bool) (l:List Sk):List Bool:=l.foldl (fun m y=>m.set y.1.toNat y.2) m
theorem akC (m:List Bool) (l:List Sk) (y:Sk):qZ m (l++[y])=(qZ m l).set y.1.toNat y.2:=by unfold qZ;rw[aq5];rfl
theorem abu:∀(l:List Sk) (m:List Bool),(qZ m l).length=m.length
 | [],_=>rfl
 | y :: l,m=>by
  show (qZ (m.set y.1.toNat y.2) l).length=_
  rw[abu l,ar3]
theorem vS {x:Stp} (h:jT x=0):(0<x.st.length∧x.st.length≤6)∧okS 6 x.st∧0≤x.wt∧x.wt≤1000000:=by
 unfold jT at h
 split at h
 ·cases h
 rename_i h1
 split at h
 ·cases h
 rename_i h2
 split at h
 ·rename_i h3;exact absurd h h3
 rename_i h3
 split at h
 ·cases h
 rename_i h4
 refine ⟨⟨by omega,by omega⟩,fun y hy=>?_,by omega,by omega⟩
 obtain ⟨i,hi,rfl⟩:=apP hy
 have h5:=oC (aql.1 h3) i hi
 unfold vG at h5
 have hg:x.st.getD i bI=x.st[i]:=by rw[aaK,aaL hi];rfl
 rw[hg] at h5
 split at h5
 ·cases h5
 ·omega
def enP (m:List Bool):PV:=.arr 6 (fT m)
def enA (m:List Bool):SV:=.p false (enP m)
def enO (m:List Bool):Ob:=.arr 194 6 (fT m)
def aeS (act:Int) (l:List Sk):Bool:=l.any fun y=>decide (act≤y.1)
def atE (m:List Bool) (l:List Sk):Bool:=l.any fun y=>jM m y.1==y.2
def nA (act:Int) (x:Stp) (m:List Bool):Int:=if ¬jT x=0 then jT x else if aeS act x.st then 6 else if atE m x.st then 14 else 0
theorem anM:aK Tryz.prog 130 (bR (fun a:mq×Stp×List Bool=>[sqA a.1,stA a.2.1,enA a.2.2]) (fun a=>a.1.act≤6) (fun a=>iP (nA a.1.act a.2.1 a.2.2))):=by
 refine aX (Tb:=tab) mixed aB Tryz.func130 rfl rfl ?_
 rintro ⟨s,x,m⟩ hpre
 refine ai (ai rfl (ai rfl rfl)) ?_
 have ha:s.act≤6:=hpre
 refine ei _ (ai (apq) (ei (x) (ei [] (ai (a4 (ai (fun _=>Or.inl rfl) (ai nof (Or.inl rfl)))) (ai (by exact (ai (ai rfl (fun _ _=>rfl)) rfl)) (ai trivial (ai (trivial) ?_)))))))
 refine bn (p:=jT x=0) (bM (by omega)) (fun h1=>?_) (fun h1=>?_)
 ·refine ai (ai (fun _=>trivial) ?_) trivial
  show ak _ (iP (nA s.act x m))
  rw[nA,if_pos h1]
  exact rfl
 obtain ⟨⟨_,h6⟩,hx,_⟩:=vS h1
 refine ei (bC.inv { X:=Nat,up:=fun k=>[(20,.s (iA k))],uo:=fun k=>[],inv:=fun k=>k≤x.st.length∧(∀y∈x.st.take k,decide (s.act≤y.1)=false),meas:=fun k=>x.st.length-k,x0:=0 }) ?_
 refine ai (ai (ai (by exact (a4 (ai rfl rfl))) (ai (by exact (ai (ai (fun _=>rfl) (iE (by simp only[zz,reduceCtorEq];rfl))) rfl)) (by exact trivial))) rfl) (ai (ai (adO _) ?_) ?_)
 ·exact fun y hy=>absurd hy (by simp)
 intro (k:Nat) ⟨hk,hall⟩
 refine ah (p:=k<x.st.length) (au (by dsimp only;omega)) (fun h2=>?_) (fun h2=>?_)
 ·refine ai (ai (aaN _) (iN (n:=x.st.length) (by omega))) (ai rfl ?_)
  refine ah (p:=s.act≤(x.st.getD k bI).1) (bZ Iff.rfl) (fun h3=>?_) (fun h3=>?_)
  ·have e:aeS s.act x.st=true:=abZ (d:=bI) h2 (decide_eq_true h3)
   refine ai (ai (fun _=>trivial) ?_) trivial
   show ak _ (iP (nA s.act x m))
   rw[nA,if_neg (fun h=>h h1),if_pos e]
   exact rfl
  refine ei (k+1) (ai (ai rfl rfl) (ai (ai (ai rfl (ai (ai rfl rfl) (ai (ai rfl rfl) (ai (ai (ai (fun _=>rfl) (aO (by omega))) rfl) trivial)))) rfl) (ai (ai (iL (by omega)) ?_) (iM (by omega)))))
  intro y hy
  rw[aP bI h2] at hy
  rcases ahT.1 hy with hy | hy
  ·exact hall y hy
  ·simp only[agp] at hy;subst hy;exact decide_eq_false h3
 ·obtain rfl:k=x.st.length:=by omega
  rw[agn] at hall
  have eo:aeS s.act x.st=false:=ar4.2 (fun y hy=>by rw[hall y hy];decide)
  refine ei (bC.inv { X:=Nat,up:=fun j=>[(33,.s (iA j))],uo:=fun j=>[],inv:=fun j=>j≤x.st.length∧(∀y∈x.st.take j,(jM m y.1==y.2)=false),meas:=fun j=>x.st.length-j,x0:=0 }) ?_
  refine ai (ai (ai (by exact (a4 (ai rfl rfl))) (ai (by exact (ai (ai (fun _=>rfl) (iE (by simp only[zz,reduceCtorEq];rfl))) rfl)) (by exact trivial))) rfl) (ai (ai (adO _) ?_) ?_)
  ·exact fun y hy=>absurd hy (by simp)
  intro (j:Nat) ⟨hj,hal⟩
  refine ah (p:=j<x.st.length) (au (by dsimp only;omega)) (fun h4=>?_) (fun h4=>?_)
  ·refine ai (ai (aaN _) (iN (n:=x.st.length) (by omega))) (ai rfl ?_)
   have hxj:=vB hx h4
   refine ei (.seq [0,1,2,3,4,5,6]) (ai (by kernel_rfl) ?_)
   refine ai hxj ?_
   refine ai (by show 0+(x.st.getD j bI).1.toNat*1<6;omega) ?_
   refine ah (p:=(jM m (x.st.getD j bI).1==(x.st.getD j bI).2)=true) (by (show (m.getD (0+(x.st.getD j bI).1.toNat*1) false==(x.st.getD j bI).2)=true↔_;rw[anw,agW];exact Iff.rfl)) (fun h5=>?_) (fun h5=>?_)
   ·have e:atE m x.st=true:=abZ (d:=bI) h4 h5
    refine ai (ai (fun _=>trivial) ?_) trivial
    show ak _ (iP (nA s.act x m))
    rw[nA,if_neg (fun h=>h h1),if_neg (by rw[eo];decide),if_pos e]
    exact rfl
   refine ei (j+1) (ai (ai rfl rfl) (ai (ai (ai rfl (ai (ai rfl rfl) (ai (ai rfl rfl) (ai (ai (ai (fun _=>rfl) (aO (by omega))) rfl) trivial)))) rfl) (ai (ai (iL (by omega)) ?_) (iM (by omega)))))
   intro y hy
   rw[aP bI h4] at hy
   rcases ahT.1 hy with hy | hy
   ·exact hal y hy
   ·simp only[agp] at hy;subst hy;exact arJ.2 h5
  ·obtain rfl:j=x.st.length:=by omega
   rw[agn] at hal
   have e:atE m x.st=false:=ar4.2 (fun y hy=>by rw[hal y hy];decide)
   refine ai (ai (fun _=>trivial) ?_) trivial
   show ak _ (iP (nA s.act x m))
   rw[nA,if_neg (fun h=>h h1),if_neg (by rw[eo];decide),if_neg (by rw[e];decide)]
   exact rfl
theorem akW:aK Tryz.prog 131 (iC (fun a:List Bool×Stp=>[enA a.1,stA a.2]) (fun a=>a.1.length≤6∧okS a.1.length a.2.st∧a.2.st.length≤1000000) (fun a=>enP (qZ a.1 a.2.st))):=by
 refine aX (Tb:=tab) mixed aB Tryz.func131 rfl rfl ?_
 rintro ⟨m,x⟩ hpre
 refine ai (ai rfl (ai rfl rfl)) ?_
 obtain ⟨hm,hx,hl⟩:=hpre
 have hm:m.length≤6:=hm
 have hx:okS m.length x.st:=hx
 have hl:x.st.length≤1000000:=hl
 refine ei (bC.inv { X:=Nat,up:=fun k=>[(10,.s (iA k))],uo:=fun k=>[⟨0,194,[.ob (enO (qZ m (x.st.take k)))]⟩],inv:=fun k=>k≤x.st.length∧(True),meas:=fun k=>x.st.length-k,x0:=0 }) ?_
 refine ai (ai (ai (by exact (a4 (ai rfl rfl))) (ai ?_ ?_)) rfl) (ai (ai (adO _) ?_) ?_)
 ·exact (ai (ai (fun _=>rfl) (iE (by simp only[zz,reduceCtorEq];rfl))) rfl)
 ·exact (ai (ai rfl (ai rfl (fun _ _=>rfl))) trivial)
 ·trivial
 intro (k:Nat) ⟨hk,_⟩
 refine ah (p:=k<x.st.length) (au (by dsimp only;omega)) (fun h1=>?_) (fun h1=>?_)
 ·refine ai (ai (aaN _) (iN (n:=x.st.length) (by omega))) (ai rfl ?_)
  have hxk:=vB hx h1
  refine ai (by show 0≤(x.st.getD k bI).1∧(x.st.getD k bI).1<6;omega) ?_
  refine ai (by show 0+(x.st.getD k bI).1.toNat*1<6;omega) ?_
  refine ei (k+1) (ai (ai rfl rfl) (ai (ai (ai rfl (ai (ai rfl rfl) (ai (ai rfl rfl) (ai (ai (ai (fun _=>rfl) (aO (by omega))) rfl) (ai (ai rfl (ai rfl ?_)) trivial))))) rfl) (ai (ai (iL (by omega)) trivial) (iM (by omega)))))
  intro q hq
  show p8 (fT (qZ m (x.st.take k))) (0+(x.st.getD k bI).1.toNat*1) (bP (x.st.getD k bI).2) q=fT (qZ m (x.st.take (k+1))) q
  rw[agW,anw,af4 (by rw[abu];omega),aP bI h1,akC]
 ·obtain rfl:k=x.st.length:=by omega
  rw[agn]
  refine ai (ai (fun _=>(by exact (fun _ _=>rfl))) ?_) trivial
  exact (ai rfl (fun _ _=>rfl))
def zeroE (act:Int):List Bool:=List.replicate act.toNat false
def iF (act:Int) (l:List Stp) (k:Nat):List Bool:=(l.take k).foldl (fun m x=>qZ m x.st) (zeroE act)
def ko (act:Int) (l:List Stp) (k:Nat):List Bool:=(l.take k).foldl (fun m x=>bO m (x.st.map (·.1)) true) (zeroE act)
theorem ahn {act:Int} {l:List Stp} {k:Nat} (h:k<l.length):iF act l (k+1)=qZ (iF act l k) (l.getD k st0).st:=by unfold iF;rw[aP st0 h,aq5];rfl
theorem ajT {act:Int} {l:List Stp} {k:Nat} (h:k<l.length):ko act l (k+1)=bO (ko act l k) ((l.getD k st0).st.map (·.1)) true:=by unfold ko;rw[aP st0 h,aq5];rfl
theorem yg {α β:Type} {f:List β→α→List β} (hf:∀m x,(f m x).length=m.length):∀(l:List α) (m:List β),(l.foldl f m).length=m.length
 | [],_=>rfl
 | x :: l,m=>by rw[ash,yg hf l,hf]
theorem ajq (act:Int) (l:List Stp) (k:Nat):(iF act l k).length=act.toNat:=by
 refine (yg (f:=fun m (x:Stp)=>qZ m x.st) (fun m x=>abu x.st m) (l.take k) (zeroE act)).trans ?_
 unfold zeroE;rw[aq1]
theorem aky (act:Int) (l:List Stp) (k:Nat):(ko act l k).length=act.toNat:=by
 refine (yg (f:=fun m (x:Stp)=>bO m (x.st.map (·.1)) true) (fun m x=>dV true (x.st.map (·.1)) m) (l.take k) (zeroE act)).trans ?_
 unfold zeroE;rw[aq1]
def vZ (s:mq):Int:=dw (fun k=>nA s.act (s.sts.getD k st0) (iF s.act s.sts k)) s.sts.length
def kQ (s:mq):Int:=
 if s.act<1∨6<s.act then 2 else if s.sts.length=0 then 13 else if 64<s.sts.length then 5 else if ¬vZ s=0 then vZ s
 else if (iF s.act s.sts s.sts.length).any id=true then 9 else if ((ko s.act s.sts s.sts.length).any fun y=>false==y)=true then 13 else 0
theorem aqJ:∀{m:List Bool},m.length≤6→(!((m.getD 0 false==false)&&((m.getD 1 false==false)&&((m.getD 2 false==false)&&((m.getD 3 false==false)&&((m.getD 4 false==false)&&((m.getD 5 false==false)&&true)))))))=m.any id
 | [],_=>rfl
 | [a],_=>by cases a<;>rfl
 | [a,b],_=>by cases a<;>cases b<;>rfl
 | [a,b,c],_=>by cases a<;>cases b<;>cases c<;>rfl
 | [a,b,c,d],_=>by cases a<;>cases b<;>cases c<;>cases d<;>rfl
 | [a,b,c,d,e],_=>by cases a<;>cases b<;>cases c<;>cases d<;>cases e<;>rfl
 | [a,b,c,d,e,f],_=>by cases a<;>cases b<;>cases c<;>cases d<;>cases e<;>cases f<;>rfl
 | _ :: _ :: _ :: _ :: _ :: _ :: _ :: _,h=>by simp at h
theorem an6 (l:List Sk) {j:Nat} (h:j<l.length):(l.map (·.1)).getD j 0=(l.getD j bI).1:=by
 rw[aaK,aaK,aiL,aaL h];rfl
theorem agI {act:Int} {x:Stp} {m:List Bool} (h:nA act x m=0):jT x=0∧∀y∈x.st,0≤y.1∧y.1<act:=by
 unfold nA at h
 split at h
 ·rename_i h1;exact absurd h h1
 rename_i h1
 have h1:=aql.1 h1
 split at h
 ·cases h
 rename_i h2
 refine ⟨h1,fun y hy=>⟨((vS h1).2.1 y hy).1,?_⟩⟩
 have:aeS act x.st=false:=by simpa using h2
 have:=ar4.1 this y hy
 simpa using this
theorem abW:∀k,k<6→lN (vals (List.replicate 6 (.bool false))) k=fT [] k:=fun k hk=>by
 match k,hk with
 | 0,_=>rfl | 1,_=>rfl | 2,_=>rfl | 3,_=>rfl | 4,_=>rfl | 5,_=>rfl
theorem ag6 (act:Int) (k:Nat):fT (zeroE act) k=fT [] k:=by
 unfold fT zeroE
 rw[aaK,arX]
 split<;>rfl
theorem alv:aK Tryz.prog 67 (bR (fun s:mq=>[sqA s]) (fun _=>True) (fun s=>iP (kQ s))):=by
 refine aX (Tb:=tab) mixed aB Tryz.func67 rfl rfl ?_
 rintro (s:mq) hpre
 refine ai (ai rfl (ai rfl rfl)) ?_
 refine ah (p:=s.act<1) (au (by omega)) (fun h1=>?_) (fun h1=>?_)
 ·refine ai (ai (fun _=>trivial) ?_) trivial
  show ak _ (iP (kQ s))
  rw[kQ,if_pos (.inl h1)]
  exact rfl
 refine ah (p:=6<s.act) (au (by omega)) (fun h2=>?_) (fun h2=>?_)
 ·refine ai (ai (fun _=>trivial) ?_) trivial
  show ak _ (iP (kQ s))
  rw[kQ,if_pos (.inr h2)]
  exact rfl
 have e0:¬(s.act<1∨6<s.act):=fun h=>h.elim h1 h2
 refine ah (p:=s.sts.length=0) (gW (by omega)) (fun h3=>?_) (fun h3=>?_)
 ·refine ai (ai (fun _=>trivial) ?_) trivial
  show ak _ (iP (kQ s))
  rw[kQ,if_neg e0,if_pos h3]
  exact rfl
 refine ah (p:=64<s.sts.length) (au (by omega)) (fun h4=>?_) (fun h4=>?_)
 ·refine ai (ai (fun _=>trivial) ?_) trivial
  show ak _ (iP (kQ s))
  rw[kQ,if_neg e0,if_neg h3,if_pos h4]
  exact rfl
 have hA:kQ s=if ¬vZ s=0 then vZ s else if (iF s.act s.sts s.sts.length).any id=true then 9 else if ((ko s.act s.sts s.sts.length).any fun y=>false==y)=true then 13 else 0:=by
  unfold kQ;rw[if_neg e0,if_neg h3,if_neg h4]
 refine ei (bC.inv { X:=Nat,up:=fun k=>[(32,.s (iA k))],uo:=fun k=>[⟨1,194,[.ob (enO (iF s.act s.sts k))]⟩,⟨2,194,[.ob (enO (ko s.act s.sts k))]⟩],inv:=fun k=>k≤s.sts.length∧(∀j,j<k→nA s.act (s.sts.getD j st0) (iF s.act s.sts j)=0),meas:=fun k=>s.sts.length-k,x0:=0 }) ?_
 refine ai (ai (ai (by exact (a4 (ai rfl rfl))) (ai ?_ ?_)) rfl) (ai (ai (adO _) ?_) ?_)
 ·exact (ai (ai (fun _=>rfl) (iE (by simp only[zz,reduceCtorEq];rfl))) rfl)
 ·refine (ai (ai rfl (ai rfl ?_)) (ai (ai rfl (ai rfl ?_)) trivial))
  ·exact fun q hq=>(abW q hq).trans (ag6 s.act q).symm
  ·exact fun q hq=>(abW q hq).trans (ag6 s.act q).symm
 ·exact fun j hj=>absurd hj (akv _)
 intro (k:Nat) ⟨hk,hall⟩
 have hel:=ajq s.act s.sts k
 have hml:=aky s.act s.sts k
 refine ah (p:=k<s.sts.length) (au (by omega)) (fun h5=>?_) (fun h5=>?_)
 ·refine ai (ai (aaN _) (iN (n:=s.sts.length) (by omega))) (ai rfl ?_)
  refine ei _ (ai (anM) (ei ((s,s.sts.getD k st0,iF s.act s.sts k)) (ei [] (ai (a4 (ai (fun _=>Or.inl rfl) (ai nof (Or.inl rfl)))) (ai (by exact (ai (ai rfl (ai rfl (fun _ _=>rfl))) (ai (ai (ai rfl (fun _ _=>rfl)) (iE (by simp only[zz,reduceCtorEq]))) (ai rfl (fun _ _=>rfl))))) (ai trivial (ai ((by show s.act≤6;omega)) ?_)))))))
  refine bn (p:=nA s.act (s.sts.getD k st0) (iF s.act s.sts k)=0) (bM (by dsimp only;omega)) (fun h6=>?_) (fun h6=>?_)
  ·have e:vZ s=nA s.act (s.sts.getD k st0) (iF s.act s.sts k):=cB (f:=fun k=>nA s.act (s.sts.getD k st0) (iF s.act s.sts k)) h5 hall h6
   refine ai (ai (fun _=>trivial) ?_) trivial
   show ak _ (iP (kQ s))
   rw[hA,if_pos (show ¬vZ s=0 by rw[e];exact h6),e]
   exact rfl
  obtain ⟨hck,hso⟩:=agI h6
  have h6l:=(vS hck).1.2
  have hokS:okS s.act.toNat (s.sts.getD k st0).st:=fun y hy=>by have:=hso y hy;omega
  refine ei _ (ai ((jJ akW (iF s.act s.sts k,s.sts.getD k st0) ⟨by show (iF s.act s.sts k).length≤6;omega,by show okS (iF s.act s.sts k).length _;rw[hel];exact hokS,by show (s.sts.getD k st0).st.length≤1000000;omega⟩ (r:=enP (iF s.act s.sts (k+1))) (by rw[ahn h5]))) (ei (()) (ei [] (ai (a4 (ai (fun _=>Or.inl rfl) (ai nof (Or.inl rfl)))) (ai (by exact (ai (ai rfl (fun _ _=>rfl)) (ai (ai rfl (fun _ _=>rfl)) (iE (by simp only[zz,reduceCtorEq]))))) (ai trivial (ai (trivial) ?_)))))))
  refine ei (bC.inv { X:=Nat,up:=fun j=>[(49,.s (iA j))],uo:=fun j=>[⟨2,194,[.ob (enO (bO (ko s.act s.sts k) (((s.sts.getD k st0).st.map (·.1)).take j) true))]⟩],inv:=fun j=>j≤(s.sts.getD k st0).st.length∧(True),meas:=fun j=>(s.sts.getD k st0).st.length-j,x0:=0 }) ?_
  refine ai (ai (ai (by exact (a4 (ai rfl rfl))) (ai ?_ ?_)) rfl) (ai (ai (adO _) ?_) ?_)
  ·exact (ai (ai (fun _=>rfl) (iE (by simp only[zz,reduceCtorEq];rfl))) rfl)
  ·exact (ai (ai rfl (ai rfl (fun _ _=>rfl))) trivial)
  ·trivial
  intro (j:Nat) ⟨hj,_⟩
  refine ah (p:=j<(s.sts.getD k st0).st.length) (by simp only[zz,reduceCtorEq];omega) (fun h7=>?_) (fun h7=>?_)
  ·refine ai (ai (aaN _) (iN (n:=(s.sts.getD k st0).st.length) (by omega))) (ai rfl ?_)
   have hxj:=vB hokS h7
   refine ai (by show 0≤((s.sts.getD k st0).st.getD j bI).1∧((s.sts.getD k st0).st.getD j bI).1<6;omega) ?_
   refine ai (by show 0+((s.sts.getD k st0).st.getD j bI).1.toNat*1<6;omega) ?_
   refine ei (j+1) (ai (ai rfl rfl) (ai (ai (ai rfl (ai (ai rfl rfl) (ai (ai rfl rfl) (ai (ai (ai (fun _=>rfl) (aO (by omega))) rfl) (ai (ai rfl (ai rfl ?_)) trivial))))) rfl) (ai (ai (iL (by omega)) trivial) (iM (by omega)))))
   intro q hq
   show p8 (fT (bO (ko s.act s.sts k) (((s.sts.getD k st0).st.map (·.1)).take j) true)) (0+((s.sts.getD k st0).st.getD j bI).1.toNat*1) (bP true) q=fT (bO (ko s.act s.sts k) (((s.sts.getD k st0).st.map (·.1)).take (j+1)) true) q
   have eg:=an6 (s.sts.getD k st0).st h7
   rw[agW,anw,af4 (by rw[dV];omega),aP 0 (by rw[anb];exact h7),oI,eg]
  ·obtain rfl:j=(s.sts.getD k st0).st.length:=by omega
   have e9:bO (ko s.act s.sts k) (((s.sts.getD k st0).st.map (·.1)).take (s.sts.getD k st0).st.length) true=ko s.act s.sts (k+1):=by
    rw[ajT h5,arL (by rw[anb];exact afK _)]
   refine ei (k+1) (ai (ai rfl rfl) (ai (ai (ai rfl (ai (ai rfl rfl) (ai (ai rfl rfl) (ai (ai (ai (fun _=>rfl) (aO (by omega))) rfl) (ai (ai rfl (ai rfl (fun _ _=>rfl))) (ai (ai rfl (ai rfl ?_)) trivial)))))) rfl) (ai (ai (iL (by omega)) ?_) (iM (by omega)))))
   ·exact fun q hq=>by rw[←e9]
   ·intro i hi
    by_cases e:i=k
    ·subst e;exact h6
    ·exact hall i (by omega)
 ·obtain rfl:k=s.sts.length:=by omega
  have e1:vZ s=0:=fP hall
  refine ah (p:=(iF s.act s.sts s.sts.length).any id=true) (by (rw[←aqJ (m:=iF s.act s.sts s.sts.length) (by omega)];first | done | exact Iff.rfl)) (fun h8=>?_) (fun h8=>?_)
  ·refine ai (ai (fun _=>trivial) ?_) trivial
   show ak _ (iP (kQ s))
   rw[hA,if_neg (fun h=>h e1),if_pos h8]
   exact rfl
  refine ai (ai (by decide) (ai (by show 0≤s.act;omega) (by show s.act≤6;omega))) ?_
  refine ei _ (ai (anQ) (ei ((ko s.act s.sts s.sts.length,false)) (ei [] (ai (ai rfl (ai rfl (ai rfl (ai rfl (ai (fun _=>Or.inl rfl) (ai (fun _=>ai rfl rfl) (Or.inl rfl))))))) (ai ?_ (ai (by exact trivial) (ai ((by show (ko s.act s.sts s.sts.length).length≤1000000;omega)) ?_)))))))
  ·refine (ai (ai rfl (ai ?_ ?_)) rfl)
   ·show s.act.toNat-(0:Int).toNat=(ko s.act s.sts s.sts.length).length
    rw[hml];rfl
   ·intro q hq
    show [fT (ko s.act s.sts s.sts.length) ((0:Int).toNat+q)]=_
    rw[show (0:Int).toNat+q=q by simp];rfl
  refine aZ (b:=(ko s.act s.sts s.sts.length).any fun y=>false==y) rfl (fun h9=>?_) (fun h9=>?_)
  ·refine ai (ai (fun _=>trivial) ?_) trivial
   show ak _ (iP (kQ s))
   rw[hA,if_neg (fun h=>h e1),if_neg h8,if_pos h9]
   exact rfl
  ·refine ai (ai (fun _=>trivial) ?_) trivial
   show ak _ (iP (kQ s))
   rw[hA,if_neg (fun h=>h e1),if_neg h8,if_neg (by rw[h9];decide)]
   exact rfl
def uO (n:Int):Ex:=.node 1 n []
def tF (n:Int):List PV:=[iP 1,iP n,.val (.slice none 0 0)]
def mR (y:Sk):Int:=2*y.1+if y.2 then 1 else 0
def afB (l:List Sk):Ex:=match l with
 | [y]=>uO (mR y)
 | l=>.node 3 0 (l.map fun y=>uO (mR y))
def wW (l:List Sk) (k:Nat):List PV:=tF (mR (l.getD k bI))
abbrev C3 := PV × PV × PV
def xA (c:C3):List PV:=[c.1,c.2.1,c.2.2]
def zx (n:Int):C3:=(iP 1,iP n,.val (.slice none 0 0))
def lC (l:List Sk):C3:=(if l.length=1 then iP 1 else iP 3,if l.length=1 then iP (mR (l.getD 0 bI)) else iP 0,if l.length=1 then .val (.slice none 0 0) else .seq l.length (wW l))
def abE (l:List Sk):List PV:=xA (lC l)
theorem ag1 {l:List Sk} (h:l.length=1):abE l=tF (mR (l.getD 0 bI)):=by unfold abE xA lC;simp only[h,if_true];rfl
theorem aei {l:List Sk} (h:¬l.length=1):abE l=[iP 3,iP 0,.seq l.length (wW l)]:=by unfold abE xA lC;simp only[h,if_false]
theorem nS:aK Tryz.prog 69 (bR (fun n:Int=>[iA n]) (fun _=>True) (fun n=>.agg (tF n))):=by
 refine aX (Tb:=tab) mixed aB Tryz.func69 rfl rfl ?_
 rintro (n:Int) hpre
 refine ai (ai rfl (ai rfl rfl)) ?_
 refine ai (ai (fun _=>trivial) ?_) trivial
 exact (ai rfl (ai rfl rfl))
def afO (l:List Sk):Prop:=l.length≤1000∧okS 6 l
theorem ap0 {l:List Sk} (h:afO l) {k:Nat} (hk:k<l.length):0≤(l.getD k bI).1∧(l.getD k bI).1<6:=by
 have:=vB h.2 hk;omega
def aq6 (l:List Sk) (k:Nat):LV:=.rw 79 3 k (wW l)
theorem agC (l:List Sk) (k:Nat):∀j,j<k+1→bL k (wW l) (bg 3 (tF (mR (l.getD k bI)))) j=wW l j:=by
 intro j hj
 unfold bL
 by_cases h:j<k
 ·rw[if_pos h]
 ·obtain rfl:j=k:=by omega
  rw[if_neg h,aqV];rfl
theorem afi:aK Tryz.prog 71 (iC (fun l:List Sk=>[apc l]) (fun l=>afO l∧0<l.length) (fun l=>.agg (abE l))):=by
 refine aX (Tb:=tab) mixed aB Tryz.func71 rfl rfl ?_
 rintro (l:List Sk) hpre
 refine ai (ai rfl (ai rfl rfl)) ?_
 obtain ⟨hs,hp⟩:=hpre
 have hl:l.length≤1000:=hs.1
 refine ei (bC.inv { X:=Nat,up:=fun k=>[(9,.s (iA k)),(3,aq6 l k)],uo:=fun k=>[],inv:=fun k=>k≤l.length∧(True),meas:=fun k=>l.length-k,x0:=0 }) ?_
 refine ai (ai (ai (by exact (a4 (ai rfl rfl))) (ai (by exact (ai (ai (ai (fun _=>rfl) (iE (by simp only[zz,reduceCtorEq];rfl))) rfl) rfl)) (by exact trivial))) rfl) (ai (ai (adO _) ?_) ?_)
 ·trivial
 intro (k:Nat) ⟨hk,_⟩
 refine ah (p:=k<l.length) (au (by omega)) (fun h1=>?_) (fun h1=>?_)
 ·refine ai (ai (aaN _) (iN (n:=l.length) (by omega))) (ai rfl ?_)
  have hx:=ap0 hs h1
  have hw:IntKind.i64.wrap (2*(l.getD k bI).1)=2*(l.getD k bI).1:=wrI (by omega) (by omega)
  refine aZ (b:=(l.getD k bI).2) rfl (fun h2=>?_) (fun h2=>?_)
  ·refine ei _ (ai (nS) (ei (mR (l.getD k bI)) (ei [] (ai (a4 (ai (fun _=>Or.inl rfl) (ai nof (Or.inl rfl)))) (ai ?_ (ai (by exact trivial) (ai (trivial) ?_)))))))
   ·show IntKind.i64.wrap (IntKind.i64.wrap (2*(l.getD k bI).1)+1)=mR (l.getD k bI)
    rw[hw,wrI (by omega) (by omega)];unfold mR;rw[h2];rfl
   refine ai (mxL (n:=k+1) (by omega) (by decide)) (ai (lt1 rfl) ?_)
   refine ei (k+1) (ai (ai rfl rfl) (ai (ai (ai rfl (ai (ai rfl rfl) (ai (ai rfl rfl) (ai (ai (ai (ai (fun _=>rfl) (aO (by omega))) rfl) (ai rfl (ai rfl (ai rfl ?_)))) trivial)))) rfl) (ai (ai (iL (by omega)) trivial) (iM (by omega)))))
   exact agC l k
  ·refine ei _ (ai (nS) (ei (mR (l.getD k bI)) (ei [] (ai (a4 (ai (fun _=>Or.inl rfl) (ai nof (Or.inl rfl)))) (ai ?_ (ai (by exact trivial) (ai (trivial) ?_)))))))
   ·show IntKind.i64.wrap (2*(l.getD k bI).1)=mR (l.getD k bI)
    rw[hw];unfold mR;rw[h2];simp
   refine ai (mxL (n:=k+1) (by omega) (by decide)) (ai (lt1 rfl) ?_)
   refine ei (k+1) (ai (ai rfl rfl) (ai (ai (ai rfl (ai (ai rfl rfl) (ai (ai rfl rfl) (ai (ai (ai (ai (fun _=>rfl) (aO (by omega))) rfl) (ai rfl (ai rfl (ai rfl ?_)))) trivial)))) rfl) (ai (ai (iL (by omega)) trivial) (iM (by omega)))))
   exact agC l k
 ·obtain rfl:k=l.length:=by omega
  refine ah (p:=l.length=1) (gW (by omega)) (fun h3=>?_) (fun h3=>?_)
  ·refine ai (ai (by decide) (by show (0:Int)<(l.length:Int);omega)) ?_
   refine ai (by show 0<l.length;omega) ?_
   refine ai (ai (fun h=>absurd (show false=true from h) (by decide)) ?_) trivial
   show ak _ (.agg (abE l))
   rw[ag1 h3]
   exact (ai rfl (ai (iE rfl) rfl))
  ·refine ai (ai (fun h=>absurd (show false=true from h) (by decide)) ?_) trivial
   show ak _ (.agg (abE l))
   rw[aei h3]
   exact (ai rfl (ai rfl (ai rfl (fun _ _=>rfl))))
def sM (act:Int) (p:List (Stp×C3)) (x:Stp):List (Stp×C3):=
 if 0<x.wt then (p++[(⟨x.st,0⟩,lC x.st)])++[(⟨[],x.wt⟩,zx (2*act+1+((p.length+1:Nat):Int)))] else p++[(⟨x.st,0⟩,lC x.st)]
def ap1 (act:Int):List (Stp×C3):=[(⟨[],0⟩,zx (2*act))]
def dF (s:mq) (k:Nat):List (Stp×C3):=(s.sts.take k).foldl (sM s.act) (ap1 s.act)
theorem ad5 {s:mq} {k:Nat} (h:k<s.sts.length):dF s (k+1)=sM s.act (dF s k) (s.sts.getD k st0):=by unfold dF;rw[aP st0 h,aq5];rfl
theorem amB (act:Int) (p:List (Stp×C3)) (x:Stp):(sM act p x).length≤p.length+2∧p.length<(sM act p x).length:=by
 unfold sM
 split
 ·simp only[aaH,aiD,anj];omega
 ·simp only[aaH,aiD,anj];omega
theorem agq (s:mq):∀k,k≤s.sts.length→(dF s k).length≤2*k+1∧0<(dF s k).length
 | 0,_=>⟨by show (ap1 s.act).length≤1;exact afK _,by show 0<1;decide⟩
 | k+1,h=>by
  obtain ⟨h1,h2⟩:=agq s k (by omega)
  obtain ⟨h3,h4⟩:=amB s.act (dF s k) (s.sts.getD k st0)
  rw[ad5 (by omega)];omega
abbrev SC := Stp × C3
def oH:SC:=(st0,(iP 0,iP 0,.val (.slice none 0 0)))
def tK (x:Stp):List PV:=[if x.st=[] then .val (.slice none 0 0) else yY x.st,iP x.wt]
def abo:PV:=.seq 1 (bg 1 [.val (.string (strOf [115,116,97,114,116]))])
def amW (act:Int) (ins:PV) (st tr:SV):Ob:=.cells 36 [iA act,.p false ins,st,tr]
def amF (s:SV):Ob:=.cells 77 [s]
def apR (p:List SC):Ob:=.row 89 2 p.length (fun k=>tK (p.getD k oH).1)
def ao5 (p:List SC):Ob:=.row 79 3 p.length (fun k=>xA (p.getD k oH).2)
def aby:SV:=.p false (.val (.slice none 0 0))
structure abh where
 act:Int
 p:List SC
 s0:PV
 wt:Int
 e0:PV
 e1:PV
 e2:PV
 x:SC
def abh.ok (a:abh):Prop:=a.p.length≤1000∧tK a.x.1=[a.s0,iP a.wt]∧xA a.x.2=[a.e0,a.e1,a.e2]
def aor (a:abh):List SV:=[.p false (.agg [a.s0,iP a.wt]),.p false (.agg [a.e0,a.e1,a.e2]),.own 0 0,.own 1 0]
def apr (n:Bool) (a:abh):Prop:=a.ok∧(n=true→a.p=[])
def aqL:Bool→abh→List Ob
 | true,a=>[amW a.act abo aby aby,amF aby]
 | false,a=>[amW a.act abo (.row 2) aby,amF (.row 3),apR a.p,ao5 a.p]
def apM (a:abh):List Ob:=[amW a.act abo (.row 2) aby,amF (.row 3),apR (a.p++[a.x]),ao5 (a.p++[a.x])]
def apt (n:Bool):ql:={ A:=abh,fix:=2,args:=aor,objs:=aqL n,pre:=apr n,res:=fun _=>.tup [],objs':=apM,inl:=[4000009,4000013] }
theorem rX (f:SC→List PV) (p:List SC) (x:SC) {g:Nat→List PV} (hg:g 0=f x):∀k,k<p.length+1→bL p.length (fun k=>f (p.getD k oH)) g k=f ((p++[x]).getD k oH):=by
 intro k hk
 unfold bL
 by_cases h:k<p.length
 ·rw[if_pos h]
  show f (p.getD k oH)=_
  rw[aaK,aaK,aeB h]
 ·obtain rfl:k=p.length:=by omega
  rw[if_neg h,aqV,hg,aaK,aeD (afK _),aqV];rfl
theorem abL:jO Tryz.prog 68 (apt false):=by
 refine pz (Tb:=tab) mixed aB Tryz.func68 rfl rfl ?_
 rintro ⟨act,p,s0,wt,e0,e1,e2,x⟩ hpre
 refine ai (ai rfl (ai rfl rfl)) ?_
 obtain ⟨⟨hp,hx,he⟩,_⟩:=hpre
 have hp:p.length≤1000:=hp
 have hx:tK x.1=[s0,iP wt]:=hx
 have he:xA x.2=[e0,e1,e2]:=he
 refine ei (.one 0 (.one 1 (.one 2 (.rd 5 [4] (.rd 6 [4] (.alt 3 (.alt 4 (.one 9 (.one 7 (.one 8 (.one 10 (.one 11 .done))))) (.alt 7 (.one 4 (.one 9 (.one 8 (.one 10 (.one 11 .done))))) .stop)) (.alt 7 (.one 3 (.one 4 (.one 9 (.one 8 (.one 10 (.one 11 .done)))))) .stop))))))) (ai (by kernel_rfl) ?_)
 refine ai ?_ (ai ?_ trivial)
 ·refine ai ?_ (ai ?_ trivial)
  ·refine ai (mxL (n:=p.length+1) (by omega) (by decide)) (ai (lt1 rfl) ?_)
   refine ai (mxL (n:=p.length+1) (by omega) (by decide)) (ai (lt1 rfl) ?_)
   refine ei [0,1,6,7] (ai (ai rfl (ai rfl rfl)) (ai trivial ?_))
   refine (ai (ai rfl (ai rfl (ai (ai rfl (fun _ _=>rfl)) (ai rfl rfl)))) (ai (ai rfl rfl) (ai (ai rfl (ai rfl (ai ?_ ?_))) (ai rfl (ai rfl (ai ?_ ?_))))))
   ·show p.length+1=(p++[x]).length;rw[aaH];rfl
   ·exact fun k hk=>rX (fun q=>tK q.1) p x (g:=bg 2 [s0,iP wt]) hx.symm k (by have hk:k<(p++[x]).length:=hk;rwa [aaH] at hk)
   ·show p.length+1=(p++[x]).length;rw[aaH];rfl
   ·exact fun k hk=>rX (fun q=>xA q.2) p x (g:=bg 3 [e0,e1,e2]) he.symm k (by have hk:k<(p++[x]).length:=hk;rwa [aaH] at hk)
  ·refine ai (mxL (n:=p.length+1) (by omega) (by decide)) (ai (lt1 rfl) ?_)
   refine ai (mxL (n:=p.length+1) (by omega) (by decide)) (ai (lt1 rfl) ?_)
   refine ei [0,1,6,7] (ai (ai rfl (ai rfl rfl)) (ai trivial ?_))
   refine (ai (ai rfl (ai rfl (ai (ai rfl (fun _ _=>rfl)) (ai rfl rfl)))) (ai (ai rfl rfl) (ai (ai rfl (ai rfl (ai ?_ ?_))) (ai rfl (ai rfl (ai ?_ ?_))))))
   ·show p.length+1=(p++[x]).length;rw[aaH];rfl
   ·exact fun k hk=>rX (fun q=>tK q.1) p x (g:=bg 2 [s0,iP wt]) hx.symm k (by have hk:k<(p++[x]).length:=hk;rwa [aaH] at hk)
   ·show p.length+1=(p++[x]).length;rw[aaH];rfl
   ·exact fun k hk=>rX (fun q=>xA q.2) p x (g:=bg 3 [e0,e1,e2]) he.symm k (by have hk:k<(p++[x]).length:=hk;rwa [aaH] at hk)
 ·refine ai (mxL (n:=p.length+1) (by omega) (by decide)) (ai (lt1 rfl) ?_)
  refine ai (mxL (n:=p.length+1) (by omega) (by decide)) (ai (lt1 rfl) ?_)
  refine ei [0,1,6,7] (ai (ai rfl (ai rfl rfl)) (ai trivial ?_))
  refine (ai (ai rfl (ai rfl (ai (ai rfl (fun _ _=>rfl)) (ai rfl rfl)))) (ai (ai rfl rfl) (ai (ai rfl (ai rfl (ai ?_ ?_))) (ai rfl (ai rfl (ai ?_ ?_))))))
  ·show p.length+1=(p++[x]).length;rw[aaH];rfl
  ·exact fun k hk=>rX (fun q=>tK q.1) p x (g:=bg 2 [s0,iP wt]) hx.symm k (by have hk:k<(p++[x]).length:=hk;rwa [aaH] at hk)
  ·show p.length+1=(p++[x]).length;rw[aaH];rfl
  ·exact fun k hk=>rX (fun q=>xA q.2) p x (g:=bg 3 [e0,e1,e2]) he.symm k (by have hk:k<(p++[x]).length:=hk;rwa [aaH] at hk)
theorem anK:jO Tryz.prog 68 (apt true):=by
 refine pz (Tb:=tab) mixed aB Tryz.func68 rfl rfl ?_
 rintro ⟨act,p,s0,wt,e0,e1,e2,x⟩ hpre
 refine ai (ai rfl (ai rfl rfl)) ?_
 obtain ⟨⟨hp,hx,he⟩,hn⟩:=hpre
 obtain rfl:p=[]:=hn rfl
 have hx:tK x.1=[s0,iP wt]:=hx
 have he:xA x.2=[e0,e1,e2]:=he
 refine ei (.one 0 (.one 1 (.one 2 (.rd 5 [4] (.rd 6 [4] (.alt 3 (.alt 4 (.one 9 (.one 7 (.one 8 (.one 10 (.one 11 .done))))) (.alt 7 (.one 4 (.one 9 (.one 8 (.one 10 (.one 11 .done))))) .stop)) (.alt 7 (.one 3 (.one 4 (.one 9 (.one 8 (.one 10 (.one 11 .done)))))) .stop))))))) (ai (by kernel_rfl) ?_)
 refine ai ?_ (ai ?_ trivial)
 ·refine ai ?_ (ai ?_ trivial)
  ·refine ai (ai (by decide) (by decide)) (ai (lt1 rfl) ?_)
   refine ai (ai (by decide) (by decide)) (ai (lt1 rfl) ?_)
   refine ei [0,1,4,5] (ai (ai rfl (ai rfl rfl)) (ai trivial ?_))
   refine (ai (ai rfl (ai rfl (ai (ai rfl (fun _ _=>rfl)) (ai rfl rfl)))) (ai (ai rfl rfl) (ai (ai rfl (ai rfl (ai rfl ?_))) (ai rfl (ai rfl (ai rfl ?_))))))
   ·intro k hk
    have hk:k<1:=hk
    obtain rfl:k=0:=by omega
    exact hx.symm
   ·intro k hk
    have hk:k<1:=hk
    obtain rfl:k=0:=by omega
    exact he.symm
  ·refine ai (ai (by decide) (by decide)) (ai (lt1 rfl) ?_)
   refine ai (ai (by decide) (by decide)) (ai (lt1 rfl) ?_)
   refine ei [0,1,4,5] (ai (ai rfl (ai rfl rfl)) (ai trivial ?_))
   refine (ai (ai rfl (ai rfl (ai (ai rfl (fun _ _=>rfl)) (ai rfl rfl)))) (ai (ai rfl rfl) (ai (ai rfl (ai rfl (ai rfl ?_))) (ai rfl (ai rfl (ai rfl ?_))))))
   ·intro k hk
    have hk:k<1:=hk
    obtain rfl:k=0:=by omega
    exact hx.symm
   ·intro k hk
    have hk:k<1:=hk
    obtain rfl:k=0:=by omega
    exact he.symm
 ·refine ai (ai (by decide) (by decide)) (ai (lt1 rfl) ?_)
  refine ai (ai (by decide) (by decide)) (ai (lt1 rfl) ?_)
  refine ei [0,1,4,5] (ai (ai rfl (ai rfl rfl)) (ai trivial ?_))
  refine (ai (ai rfl (ai rfl (ai (ai rfl (fun _ _=>rfl)) (ai rfl rfl)))) (ai (ai rfl rfl) (ai (ai rfl (ai rfl (ai rfl ?_))) (ai rfl (ai rfl (ai rfl ?_))))))
  ·intro k hk
   have hk:k<1:=hk
   obtain rfl:k=0:=by omega
   exact hx.symm
  ·intro k hk
   have hk:k<1:=hk
   obtain rfl:k=0:=by omega
   exact he.symm
def aqu:Spec:=bR (fun l:List (Sk)=>[apc l]) (fun l=>l.length≤1000000) (fun l=>yY l)
theorem aog:aK Tryz.prog 70 aqu:=by
 refine aX (Tb:=tab) mixed aB Tryz.func70 rfl rfl ?_
 rintro (l:List (Sk)) hpre
 refine ai (ai rfl (ai rfl rfl)) ?_
 have hl:l.length≤1000000:=hpre
 intro b hb
 refine aY (fun h1=>?_) (fun h1=>?_)
 ·have h1:l.length=0:=hb h1
  refine ai (ai (fun _=>trivial) ?_) trivial
  show ak _ (yY l)
  rw[ape.1 h1]
  exact rfl
 ·refine ai (mxL (n:=0+l.length) (by omega) (by decide)) (ai (fun _ _=>rfl) ?_)
  refine ai (ai (fun _ k hk=>by rw[abM k hk];rfl) ?_) trivial
  refine (ai ?_ (fun _ _=>rfl))
  exact agW _
def toN (k n:Nat):Int:=(((k+1) % n:Nat):Int)
def aax (p:List SC) (k:Nat):List PV:=[.seq 1 (bg 1 [iP (k:Int)]),.seq 1 (bg 1 [iP (toN k p.length)]),(p.getD k oH).2.1,(p.getD k oH).2.2.1,(p.getD k oH).2.2.2]
def arI (p:List SC) (k:Nat):LV:=.rw 123 5 k (aax p)
def aeR (act:Int) (p:List SC):PV:=.agg [iP act,abo,.seq p.length (fun k=>tK (p.getD k oH).1),.seq p.length (aax p)]
def vC (s:mq):Int:=if ¬kQ s=0 then kQ s else if 24<(dF s s.sts.length).length then 5 else 0
def ofRaw (s:mq):PV:=if vC s=0 then .tup [aeR s.act (dF s s.sts.length),iP 0] else .tup [.agg [iP 0,.val (.slice none 0 0),.val (.slice none 0 0),.val (.slice none 0 0)],iP (vC s)]
theorem aic (p:List SC) (k:Nat) {g:Nat→List PV} (hg:g 0=aax p k):∀j,j<k+1→bL k (aax p) g j=aax p j:=by
 intro j hj
 unfold bL
 by_cases h:j<k
 ·rw[if_pos h]
 ·obtain rfl:j=k:=by omega
  rw[if_neg h,aqV,hg]
theorem seq_ok {s:mq} (h:kQ s=0):(1≤s.act∧s.act≤6)∧s.sts.length≤64∧∀x∈s.sts,jT x=0:=by
 unfold kQ at h
 split at h
 ·cases h
 rename_i h1
 split at h
 ·cases h
 split at h
 ·cases h
 rename_i h3
 split at h
 ·rename_i h4;exact absurd h h4
 rename_i h4
 refine ⟨by omega,by omega,fun x hx=>?_⟩
 obtain ⟨k,hk,rfl⟩:=apP hx
 have:=oC (aql.1 h4) k hk
 rw[show s.sts.getD k st0=s.sts[k] by rw[aaK,aaL hk];rfl] at this
 exact (agI this).1
set_option maxHeartbeats 16000000 in
theorem ahg:aK Tryz.prog 18 (iC (fun s:mq=>[sqA s]) (fun _=>True) ofRaw):=by
 refine jo [68,3000020,4000077,4000084] ?_
 refine aX (Tb:=tab) mixed aB Tryz.func18 rfl rfl ?_
 rintro (s:mq) hpre
 refine ai (ai rfl (ai rfl rfl)) ?_
 refine ei _ (ai (alv) (ei (s) (ei [] (ai (a4 (ai (fun _=>Or.inl rfl) (ai nof (Or.inl rfl)))) (ai (by exact (ai rfl (ai rfl (fun _ _=>rfl)))) (ai trivial (ai (trivial) ?_)))))))
 refine bn (p:=kQ s=0) (bM (by omega)) (fun h1=>?_) (fun h1=>?_)
 ·have e:vC s=kQ s:=if_pos h1
  refine ai (ai (fun h=>absurd (show false=true from h) (by decide)) ?_) trivial
  show ak _ (ofRaw s)
  rw[ofRaw,e,if_neg h1]
  exact (ai (ai rfl (ai rfl (ai rfl rfl))) rfl)
 obtain ⟨⟨ha1,ha6⟩,h64,hck⟩:=seq_ok h1
 have hw2:IntKind.i64.wrap (2*s.act)=2*s.act:=wrI (by omega) (by omega)
 refine ei _ (ai (nS) (ei (2*s.act) (ei [] (ai (a4 (ai (fun _=>Or.inl rfl) (ai nof (Or.inl rfl)))) (ai ?_ (ai (by exact trivial) (ai (trivial) ?_)))))))
 ·exact hw2
 refine eF (anK) (⟨s.act,[],.val (.slice none 0 0),0,iP 1,iP (2*s.act),.val (.slice none 0 0),(⟨[],0⟩,zx (2*s.act))⟩) [3,4] (a4 (ai rfl rfl)) (Or.inl rfl) (by exact (ai (ai rfl rfl) (ai (ai rfl (ai (iE (by omega)) rfl)) (ai (ai rfl rfl) (ai rfl rfl))))) (by exact (ai (ai rfl (ai rfl (ai (ai rfl (fun _ _=>rfl)) (ai rfl rfl)))) (ai rfl rfl))) (⟨⟨adO _,rfl,rfl⟩,fun _=>rfl⟩) ?_
 have hL:=agq s
 refine ei (bC.inv { X:=Nat,up:=fun k=>[(34,.s (iA k))],uo:=fun k=>[⟨3,36,[.s (iA s.act),.s (.p false abo),.rw 89 2 (dF s k).length (fun j=>tK ((dF s k).getD j oH).1),.s aby]⟩,⟨4,77,[.rw 79 3 (dF s k).length (fun j=>xA ((dF s k).getD j oH).2)]⟩],inv:=fun k=>k≤s.sts.length∧(True),meas:=fun k=>s.sts.length-k,x0:=0 }) ?_
 refine ai (ai (ai (by exact (a4 (ai rfl rfl))) (ai ?_ ?_)) rfl) (ai (ai (adO _) ?_) ?_)
 ·exact (ai (ai (fun _=>rfl) (iE (by simp only[zz,reduceCtorEq];rfl))) rfl)
 ·exact (ai (ai (ai (ai nof rfl) rfl) (ai (ai (ai nof (ai rfl (fun _ _=>rfl))) rfl) (ai (ai rfl (ai rfl (ai rfl (fun _ _=>rfl)))) (ai (ai nof rfl) rfl)))) (ai (ai rfl (ai rfl (ai rfl (fun _ _=>rfl)))) trivial))
 ·trivial
 intro (k:Nat) ⟨hk,_⟩
 obtain ⟨hk1,hk2⟩:=hL k hk
 refine ah (p:=k<s.sts.length) (au (by omega)) (fun h2=>?_) (fun h2=>?_)
 ·refine ai (ai (aaN _) (iN (n:=s.sts.length) (by omega))) (ai rfl ?_)
  have hm:=aa5 (bG st0 h2)
  obtain ⟨⟨hx0,hx6⟩,hxs,hxw⟩:=vS (hck _ hm)
  have hsm:afO (s.sts.getD k st0).st:=⟨by omega,hxs⟩
  have hst:=ad5 h2
  have hne:(s.sts.getD k st0).st≠[]:=fun e=>by rw[e] at hx0;simp at hx0
  refine ei (.one 0 (.one 1 (.one 2 (.one 5 (.one 6 (.one 3 (.one 4 (.one 7 (.wr 8 .done))))))))) (ai (by kernel_rfl) ?_)
  refine ei _ (ai (aog) (ei ((s.sts.getD k st0).st) (ei [] (ai (a4 (ai (fun _=>Or.inl rfl) (ai nof (Or.inl rfl)))) (ai (by exact (ai rfl (fun _ _=>rfl))) (ai trivial (ai ((by show (s.sts.getD k st0).st.length≤1000000;omega)) ?_)))))))
  by_cases h1l:(s.sts.getD k st0).st.length=1
  ·have ee:=ag1 h1l
   refine ei _ (ai ((jJ afi (s.sts.getD k st0).st ⟨hsm,hx0⟩ (r:=.agg [iP 1,iP (mR ((s.sts.getD k st0).st.getD 0 bI)),.val (.slice none 0 0)]) (congrArg PV.agg ee))) (ei (()) (ei [] (ai (a4 (ai (fun _=>Or.inl rfl) (ai nof (Or.inl rfl)))) (ai (by exact (ai rfl (fun _ _=>rfl))) (ai trivial (ai (trivial) ?_)))))))
   refine eF (abL) (⟨s.act,dF s k,yY (s.sts.getD k st0).st,0,iP 1,iP (mR ((s.sts.getD k st0).st.getD 0 bI)),.val (.slice none 0 0),(⟨(s.sts.getD k st0).st,0⟩,lC (s.sts.getD k st0).st)⟩) [3,4,7,8] (a4 (ai rfl rfl)) (Or.inl rfl) (by exact (ai (ai (ai rfl (fun _ _=>rfl)) rfl) (ai (ai rfl (ai rfl rfl)) (ai (ai rfl rfl) (ai rfl rfl))))) (by exact (ai (ai rfl (ai rfl (ai (ai rfl (fun _ _=>rfl)) (ai rfl rfl)))) (ai (ai rfl rfl) (ai (ai rfl (ai rfl (ai rfl (fun _ _=>rfl)))) (ai rfl (ai rfl (ai rfl (fun _ _=>rfl)))))))) (⟨⟨by show (dF s k).length≤1000;omega,by show tK ⟨(s.sts.getD k st0).st,0⟩=_;unfold tK;rw[if_neg hne],ee⟩,fun h=>by cases h⟩) ?_
   refine ah (p:=0<(s.sts.getD k st0).wt) (au Iff.rfl) (fun h3=>?_) (fun h3=>?_)
   ·have e:dF s (k+1)=(dF s k++[(⟨(s.sts.getD k st0).st,0⟩,lC (s.sts.getD k st0).st)])++[(⟨[],(s.sts.getD k st0).wt⟩,zx (2*s.act+1+(((dF s k).length+1:Nat):Int)))]:=by rw[hst];unfold sM;rw[if_pos h3]
    have hpl:(dF s k++[((⟨(s.sts.getD k st0).st,0⟩:Stp),lC (s.sts.getD k st0).st)]).length=(dF s k).length+1:=by rw[aaH];rfl
    refine ei (.one 0 (.one 1 (.one 2 (.one 3 (.one 4 (.one 5 (.one 6 (.one 7 (.one 8 (.one 9 (.one 10 (.wr 11 .done)))))))))))) (ai (by kernel_rfl) ?_)
    refine ei _ (ai (nS) (ei (2*s.act+1+(((dF s k).length+1:Nat):Int)) (ei [] (ai (a4 (ai (fun _=>Or.inl rfl) (ai nof (Or.inl rfl)))) (ai ?_ (ai (by exact trivial) (ai (trivial) ?_)))))))
    ·show IntKind.i64.wrap (IntKind.i64.wrap (IntKind.i64.wrap (2*s.act)+1)+(((dF s k++[((⟨(s.sts.getD k st0).st,0⟩:Stp),lC (s.sts.getD k st0).st)]).length:Nat):Int))=_
     rw[hpl,hw2,wrI (n:=2*s.act+1) (by omega) (by omega),wrI (by omega) (by omega)]
    refine eF (abL) (⟨s.act,dF s k++[(⟨(s.sts.getD k st0).st,0⟩,lC (s.sts.getD k st0).st)],.val (.slice none 0 0),(s.sts.getD k st0).wt,iP 1,iP (2*s.act+1+(((dF s k).length+1:Nat):Int)),.val (.slice none 0 0),(⟨[],(s.sts.getD k st0).wt⟩,zx (2*s.act+1+(((dF s k).length+1:Nat):Int)))⟩) [3,4,10,11] (a4 (ai rfl rfl)) (Or.inl rfl) (by exact (ai (ai rfl (iE (by simp only[zz,reduceCtorEq]))) (ai (ai rfl (ai rfl rfl)) (ai (ai rfl rfl) (ai rfl rfl))))) (by exact (ai (ai rfl (ai rfl (ai (ai rfl (fun _ _=>rfl)) (ai rfl rfl)))) (ai (ai rfl rfl) (ai (ai rfl (ai rfl (ai rfl (fun _ _=>rfl)))) (ai rfl (ai rfl (ai rfl (fun _ _=>rfl)))))))) (⟨⟨by show (dF s k++[((⟨(s.sts.getD k st0).st,0⟩:Stp),lC (s.sts.getD k st0).st)]).length≤1000;rw[hpl];omega,rfl,rfl⟩,fun h=>by cases h⟩) ?_
    refine ei (k+1) (ai (ai rfl rfl) (ai (ai (ai rfl (ai (ai rfl rfl) (ai (ai rfl rfl) (ai (ai (ai (fun _=>rfl) (aO (by omega))) rfl) (ai (ai (ai (ai nof rfl) rfl) (ai (ai (ai nof (ai rfl (fun _ _=>rfl))) rfl) (ai (ai rfl (ai rfl (ai ?_ ?_))) (ai (ai nof rfl) rfl)))) (ai (ai rfl (ai rfl (ai ?_ ?_))) trivial)))))) rfl) (ai (ai (iL (by omega)) trivial) (iM (by omega)))))
    all_goals rw[e]
    ·exact fun _ _=>rfl
    ·exact fun _ _=>rfl
   ·have e:dF s (k+1)=dF s k++[(⟨(s.sts.getD k st0).st,0⟩,lC (s.sts.getD k st0).st)]:=by rw[hst];unfold sM;rw[if_neg h3]
    refine ei (k+1) (ai (ai rfl rfl) (ai (ai (ai rfl (ai (ai rfl rfl) (ai (ai rfl rfl) (ai (ai (ai (fun _=>rfl) (aO (by omega))) rfl) (ai (ai (ai (ai nof rfl) rfl) (ai (ai (ai nof (ai rfl (fun _ _=>rfl))) rfl) (ai (ai rfl (ai rfl (ai ?_ ?_))) (ai (ai nof rfl) rfl)))) (ai (ai rfl (ai rfl (ai ?_ ?_))) trivial)))))) rfl) (ai (ai (iL (by omega)) trivial) (iM (by omega)))))
    all_goals rw[e]
    ·exact fun _ _=>rfl
    ·exact fun _ _=>rfl
  ·have ee:=aei h1l
   refine ei _ (ai ((jJ afi (s.sts.getD k st0).st ⟨hsm,hx0⟩ (r:=.agg [iP 3,iP 0,.seq (s.sts.getD k st0).st.length (wW (s.sts.getD k st0).st)]) (congrArg PV.agg ee))) (ei (()) (ei [] (ai (a4 (ai (fun _=>Or.inl rfl) (ai nof (Or.inl rfl)))) (ai (by exact (ai rfl (fun _ _=>rfl))) (ai trivial (ai (trivial) ?_)))))))
   refine eF (abL) (⟨s.act,dF s k,yY (s.sts.getD k st0).st,0,iP 3,iP 0,.seq (s.sts.getD k st0).st.length (wW (s.sts.getD k st0).st),(⟨(s.sts.getD k st0).st,0⟩,lC (s.sts.getD k st0).st)⟩) [3,4,7,8] (a4 (ai rfl rfl)) (Or.inl rfl) (by exact (ai (ai (ai rfl (fun _ _=>rfl)) rfl) (ai (ai rfl (ai rfl (ai rfl (fun _ _=>rfl)))) (ai (ai rfl rfl) (ai rfl rfl))))) (by exact (ai (ai rfl (ai rfl (ai (ai rfl (fun _ _=>rfl)) (ai rfl rfl)))) (ai (ai rfl rfl) (ai (ai rfl (ai rfl (ai rfl (fun _ _=>rfl)))) (ai rfl (ai rfl (ai rfl (fun _ _=>rfl)))))))) (⟨⟨by show (dF s k).length≤1000;omega,by show tK ⟨(s.sts.getD k st0).st,0⟩=_;unfold tK;rw[if_neg hne],ee⟩,fun h=>by cases h⟩) ?_
   refine ah (p:=0<(s.sts.getD k st0).wt) (au Iff.rfl) (fun h3=>?_) (fun h3=>?_)
   ·have e:dF s (k+1)=(dF s k++[(⟨(s.sts.getD k st0).st,0⟩,lC (s.sts.getD k st0).st)])++[(⟨[],(s.sts.getD k st0).wt⟩,zx (2*s.act+1+(((dF s k).length+1:Nat):Int)))]:=by rw[hst];unfold sM;rw[if_pos h3]
    have hpl:(dF s k++[((⟨(s.sts.getD k st0).st,0⟩:Stp),lC (s.sts.getD k st0).st)]).length=(dF s k).length+1:=by rw[aaH];rfl
    refine ei (.one 0 (.one 1 (.one 2 (.one 3 (.one 4 (.one 5 (.one 6 (.one 7 (.one 8 (.one 9 (.one 10 (.wr 11 .done)))))))))))) (ai (by kernel_rfl) ?_)
    refine ei _ (ai (nS) (ei (2*s.act+1+(((dF s k).length+1:Nat):Int)) (ei [] (ai (a4 (ai (fun _=>Or.inl rfl) (ai nof (Or.inl rfl)))) (ai ?_ (ai (by exact trivial) (ai (trivial) ?_)))))))
    ·show IntKind.i64.wrap (IntKind.i64.wrap (IntKind.i64.wrap (2*s.act)+1)+(((dF s k++[((⟨(s.sts.getD k st0).st,0⟩:Stp),lC (s.sts.getD k st0).st)]).length:Nat):Int))=_
     rw[hpl,hw2,wrI (n:=2*s.act+1) (by omega) (by omega),wrI (by omega) (by omega)]
    refine eF (abL) (⟨s.act,dF s k++[(⟨(s.sts.getD k st0).st,0⟩,lC (s.sts.getD k st0).st)],.val (.slice none 0 0),(s.sts.getD k st0).wt,iP 1,iP (2*s.act+1+(((dF s k).length+1:Nat):Int)),.val (.slice none 0 0),(⟨[],(s.sts.getD k st0).wt⟩,zx (2*s.act+1+(((dF s k).length+1:Nat):Int)))⟩) [3,4,10,11] (a4 (ai rfl rfl)) (Or.inl rfl) (by exact (ai (ai rfl (iE (by simp only[zz,reduceCtorEq]))) (ai (ai rfl (ai rfl rfl)) (ai (ai rfl rfl) (ai rfl rfl))))) (by exact (ai (ai rfl (ai rfl (ai (ai rfl (fun _ _=>rfl)) (ai rfl rfl)))) (ai (ai rfl rfl) (ai (ai rfl (ai rfl (ai rfl (fun _ _=>rfl)))) (ai rfl (ai rfl (ai rfl (fun _ _=>rfl)))))))) (⟨⟨by show (dF s k++[((⟨(s.sts.getD k st0).st,0⟩:Stp),lC (s.sts.getD k st0).st)]).length≤1000;rw[hpl];omega,rfl,rfl⟩,fun h=>by cases h⟩) ?_
    refine ei (k+1) (ai (ai rfl rfl) (ai (ai (ai rfl (ai (ai rfl rfl) (ai (ai rfl rfl) (ai (ai (ai (fun _=>rfl) (aO (by omega))) rfl) (ai (ai (ai (ai nof rfl) rfl) (ai (ai (ai nof (ai rfl (fun _ _=>rfl))) rfl) (ai (ai rfl (ai rfl (ai ?_ ?_))) (ai (ai nof rfl) rfl)))) (ai (ai rfl (ai rfl (ai ?_ ?_))) trivial)))))) rfl) (ai (ai (iL (by omega)) trivial) (iM (by omega)))))
    all_goals rw[e]
    ·exact fun _ _=>rfl
    ·exact fun _ _=>rfl
   ·have e:dF s (k+1)=dF s k++[(⟨(s.sts.getD k st0).st,0⟩,lC (s.sts.getD k st0).st)]:=by rw[hst];unfold sM;rw[if_neg h3]
    refine ei (k+1) (ai (ai rfl rfl) (ai (ai (ai rfl (ai (ai rfl rfl) (ai (ai rfl rfl) (ai (ai (ai (fun _=>rfl) (aO (by omega))) rfl) (ai (ai (ai (ai nof rfl) rfl) (ai (ai (ai nof (ai rfl (fun _ _=>rfl))) rfl) (ai (ai rfl (ai rfl (ai ?_ ?_))) (ai (ai nof rfl) rfl)))) (ai (ai rfl (ai rfl (ai ?_ ?_))) trivial)))))) rfl) (ai (ai (iL (by omega)) trivial) (iM (by omega)))))
    all_goals rw[e]
    ·exact fun _ _=>rfl
    ·exact fun _ _=>rfl
 ·obtain rfl:k=s.sts.length:=by omega
  refine ah (p:=24<(dF s s.sts.length).length) (au (by omega)) (fun h4=>?_) (fun h4=>?_)
  ·have e:vC s=5:=by unfold vC;rw[if_neg (fun h=>h h1),if_pos h4]
   refine ai (ai (fun h=>absurd (show false=true from h) (by decide)) ?_) trivial
   show ak _ (ofRaw s)
   rw[ofRaw,e,if_neg (show ¬(5:Int)=0 by decide)]
   exact (ai (ai rfl (ai rfl (ai rfl rfl))) rfl)
  have e0:vC s=0:=by unfold vC;rw[if_neg (fun h=>h h1),if_neg h4]
  have hA:ofRaw s=.tup [aeR s.act (dF s s.sts.length),iP 0]:=by unfold ofRaw;rw[if_pos e0]
  have hp0:=(hL s.sts.length (afK _)).2
  clear hL
  generalize dF s s.sts.length=p at *
  refine ei (bC.inv { X:=Nat,up:=fun k=>[(71,.s (iA k))],uo:=fun k=>[⟨3,36,[.s (iA s.act),.s (.p false abo),.rw 89 2 p.length (fun j=>tK (p.getD j oH).1),arI p k]⟩],inv:=fun k=>k≤p.length∧(True),meas:=fun k=>p.length-k,x0:=0 }) ?_
  refine ai (ai (ai (by exact (a4 (ai rfl rfl))) (ai ?_ ?_)) rfl) (ai (ai (adO _) ?_) ?_)
  ·exact (ai (ai (fun _=>rfl) (iE (by simp only[zz,reduceCtorEq];rfl))) rfl)
  ·exact (ai (ai (ai (ai nof rfl) rfl) (ai (ai (ai nof (ai rfl (fun _ _=>rfl))) rfl) (ai (ai rfl (ai rfl (ai rfl (fun _ _=>rfl)))) rfl))) trivial)
  ·trivial
  intro (k:Nat) ⟨hk,_⟩
  refine ah (p:=k<p.length) (au (by omega)) (fun h5=>?_) (fun h5=>?_)
  ·have hw1:IntKind.i64.wrap ((k:Int)+1)=((k+1:Nat):Int):=aO (by omega)
   refine ei (.one 0 (.one 1 (.one 2 (.one 4 (.one 5 (.one 6 (.one 7 (.one 8 (.one 9 (.one 11 (.one 12 (.one 13 (.one 14 (.alt 3 (.one 10 (.one 15 (.one 16 (.one 17 (.one 18 (.one 19 .done)))))) (.alt 10 (.one 3 (.one 15 (.one 16 (.one 17 (.one 18 (.one 19 .done)))))) .stop))))))))))))))) (ai (by kernel_rfl) ?_)
   refine ai (by show ¬(p.length:Int)=0;omega) ?_
   refine ai (ai (aaN _) (by show (k:Int)<(p.length:Int);omega)) ?_
   refine ai (by show k<p.length;exact h5) ?_
   refine ai ?_ (ai ?_ trivial)
   ·refine ai (mxL (n:=k+1) (by omega) (by decide)) (ai (fun j hj=>by
     have hj:j<1:=hj
     obtain rfl:j=0:=by omega
     rfl) ?_)
    refine ei (k+1) (ai (ai rfl rfl) (ai (ai (ai rfl (ai (ai rfl rfl) (ai (ai rfl rfl) (ai (ai (ai (fun _=>rfl) (aO (by omega))) rfl) (ai (ai (ai (ai nof rfl) rfl) (ai (ai (ai nof (ai rfl (fun _ _=>rfl))) rfl) (ai (ai rfl (ai rfl (ai rfl (fun _ _=>rfl)))) (ai rfl (ai rfl (ai rfl ?_)))))) trivial))))) rfl) (ai (ai (iL (by omega)) trivial) (iM (by omega)))))
    refine aic p k ?_
    show [PV.seq 1 (bg 1 [iP (k:Int)]),.seq 1 (bg 1 [iP ((IntKind.i64.wrap ((k:Int)+1)).tmod (p.length:Int))]),(p.getD k oH).2.1,(p.getD k oH).2.2.1,(p.getD k oH).2.2.2]=_
    rw[hw1];rfl
   ·refine ai (mxL (n:=k+1) (by omega) (by decide)) (ai (fun j hj=>by
     have hj:j<1:=hj
     obtain rfl:j=0:=by omega
     rfl) ?_)
    refine ei (k+1) (ai (ai rfl rfl) (ai (ai (ai rfl (ai (ai rfl rfl) (ai (ai rfl rfl) (ai (ai (ai (fun _=>rfl) (aO (by omega))) rfl) (ai (ai (ai (ai nof rfl) rfl) (ai (ai (ai nof (ai rfl (fun _ _=>rfl))) rfl) (ai (ai rfl (ai rfl (ai rfl (fun _ _=>rfl)))) (ai rfl (ai rfl (ai rfl ?_)))))) trivial))))) rfl) (ai (ai (iL (by omega)) trivial) (iM (by omega)))))
    refine aic p k ?_
    show [PV.seq 1 (bg 1 [iP (k:Int)]),.seq 1 (bg 1 [iP ((IntKind.i64.wrap ((k:Int)+1)).tmod (p.length:Int))]),(p.getD k oH).2.1,(p.getD k oH).2.2.1,(p.getD k oH).2.2.2]=_
    rw[hw1];rfl
  ·obtain rfl:k=p.length:=by omega
   refine ai (ai (fun h=>absurd (show false=true from h) (by decide)) ?_) trivial
   show ak _ (ofRaw s)
   rw[hA]
   exact (ai (ai rfl (ai (ai rfl (fun _ _=>rfl)) (ai (ai rfl (fun _ _=>rfl)) (ai rfl (fun _ _=>rfl))))) rfl)
def gT:List Bool→List Bool→Int
 | x :: a,y :: b=>if x=y then gT a b else if y then -1 else 1
 | _,_=>0
theorem aef {a b:List Bool} (hl:a.length=b.length):∀{k:Nat},k≤a.length→a.take k=b.take k→gT a b=gT (a.drop k) (b.drop k)
 | 0,_,_=>rfl
 | k+1,hk,h=>by
  have h1:a.take k=b.take k:=by
   have:=congrArg (List.take k) h
   rwa [asn,asn,ar9 (by omega)] at this
  rw[aef hl (k:=k) (by omega) h1]
  have ha:a.drop k=a.getD k false :: a.drop (k+1):=by
   rw[anq (by omega),aaK,aaL (by omega)];rfl
  have hb:b.drop k=b.getD k false :: b.drop (k+1):=by
   rw[anq (by omega),aaK,aaL (by omega)];rfl
  have e:a.getD k false=b.getD k false:=by
   have:=congrArg (fun l=>l.getD k false) h
   simpa [aaK,aj8] using this
  rw[ha,hb,gT,if_pos e]
theorem ah3 {a b:List Bool} (hl:a.length=b.length) {k:Nat} (hk:k<a.length) (h:a.take k=b.take k) (hn:a.getD k false≠b.getD k false):gT a b=if b.getD k false then -1 else 1:=by
 rw[aef hl (k:=k) (by omega) h]
 have ha:a.drop k=a.getD k false :: a.drop (k+1):=by
  rw[anq (by omega),aaK,aaL (by omega)];rfl
 have hb:b.drop k=b.getD k false :: b.drop (k+1):=by
  rw[anq (by omega),aaK,aaL (by omega)];rfl
 rw[ha,hb,gT,if_neg hn]
theorem adf {a b:List Bool} (h:a=b):gT a b=0:=by
 subst h
 induction a with
 | nil=>rfl
 | cons x a ih=>rw[gT,if_pos rfl,ih]
def aqQ (a:List Bool×List Bool):Prop:=a.1.length=a.2.length∧a.1.length≤1000000
def rA (a b:List Bool):Bool:=gT a b==-1
theorem anX:aK Tryz.prog 101 (bR (fun a:List Bool×List Bool=>[bsA a.1,bsA a.2]) aqQ (fun a=>bP (rA a.1 a.2))):=by
 refine aX (Tb:=tab) mixed aB Tryz.func101 rfl rfl ?_
 rintro (a:List Bool×List Bool) hpre
 refine ai (ai rfl (ai rfl rfl)) ?_
 obtain ⟨hl,hm⟩:=hpre
 have hm:a.1.length≤1000000:=hm
 refine ei (bC.inv { X:=Nat,up:=fun k=>[(5,.s (iA k))],uo:=fun k=>[],inv:=fun k=>k≤a.1.length∧(a.1.take k=a.2.take k),meas:=fun k=>a.1.length-k,x0:=0 }) ?_
 refine ai (ai (ai (by exact (a4 (ai rfl rfl))) (ai (by exact (ai (ai (fun _=>rfl) (iE (by simp only[zz,reduceCtorEq];rfl))) rfl)) (by exact trivial))) rfl) (ai (ai (adO _) ?_) ?_)
 ·rfl
 intro (k:Nat) ⟨hk,hall⟩
 refine ah (p:=k<a.1.length) (au (by omega)) (fun h1=>?_) (fun h1=>?_)
 ·refine ei (.seq [0,1,2,3,4,5,6,7,8]) (ai (by kernel_rfl) ?_)
  refine ai (ai (aaN _) (iN (n:=a.1.length) (by omega))) (ai rfl ?_)
  refine ai (ai (aaN _) (iN (n:=a.2.length) (by omega))) (ai rfl ?_)
  refine bn (p:=a.1.getD k false=a.2.getD k false) (by exact bne_iff_ne) (fun h2=>?_) (fun h2=>?_)
  ·refine ai (ai (aaN _) (iN (n:=a.2.length) (by omega))) (ai rfl ?_)
   refine ai (ai (fun _=>trivial) ?_) trivial
   show ak _ (bP (rA a.1 a.2))
   rw[show rA a.1 a.2=a.2.getD k false by unfold rA;rw[ah3 hl h1 hall h2];cases a.2.getD k false<;>rfl]
   exact rfl
  refine ei (k+1) (ai (ai rfl rfl) (ai (ai (ai rfl (ai (ai rfl rfl) (ai (ai rfl rfl) (ai (ai (ai (fun _=>rfl) (aO (by omega))) rfl) trivial)))) rfl) (ai (ai (iL (by omega)) ?_) (iM (by omega)))))
  exact wu false h1 (by omega) hall h2
 ·obtain rfl:k=a.1.length:=by omega
  rw[agn,hl,agn] at hall
  refine ai (ai (fun _=>trivial) ?_) trivial
  show ak _ (bP (rA a.1 a.2))
  rw[show rA a.1 a.2=false by unfold rA;rw[adf hall];rfl]
  exact rfl
def mQ (n:Nat):List Bool:=(List.replicate n false).set 0 true
theorem amx:aK Tryz.prog 127 (iC (fun c:aS=>[jy c]) (fun c=>0<c.sts.length∧c.sts.length≤24) (fun c=>iX (mQ c.sts.length))):=by
 refine aX (Tb:=tab) mixed aB Tryz.func127 rfl rfl ?_
 rintro (c:aS) hpre
 refine ai (ai rfl (ai rfl rfl)) ?_
 obtain ⟨h1,h2⟩:=hpre
 have h1:0<c.sts.length:=h1
 have h2:c.sts.length≤24:=h2
 refine ai (ai (aaN _) (ai (Int.le_refl _) (ai (by show (c.sts.length:Int)≤_;omega) (by show 1*((c.sts.length:Int)).toNat≤_;rw[ani];omega)))) ?_
 refine ai (ai (by decide) (by show (0:Int)<((((c.sts.length:Int)).toNat:Nat):Int);rw[ani];omega)) ?_
 refine ai (ai (by show 0<((c.sts.length:Int)).toNat;rw[ani];exact h1) (by decide)) ?_
 refine ai (ai nof ?_) trivial
 refine (ai ?_ ?_)
 ·show ((c.sts.length:Int)).toNat=(mQ c.sts.length).length
  unfold mQ;rw[ani,ar3,aq1]
 ·intro k hk
  have hk:k<((c.sts.length:Int)).toNat:=hk
  rw[ani] at hk
  show iO (fun _=>[bP false]) 0 0 [bP true] k=[bP ((mQ c.sts.length).getD k false)]
  unfold iO mQ
  rw[aaK,asa]
  by_cases e:k=0
  ·subst e;rw[if_pos rfl,if_pos rfl,if_pos (by rw[aq1];exact h1)];rfl
  ·rw[if_neg e,if_neg (fun h=>e h.symm),arX,if_pos hk];rfl
abbrev Mk := List Bool × List Int
def av:Mk:=([],[])
def mwK (x:Mk):List PV:=[iX x.1,lT x.2]
def ajz (l:List Mk):PV:=.seq l.length (fun k=>mwK (l.getD k av))
def ari (l:List Mk):SV:=.p false (ajz l)
def lK (l:List Mk) (m:List Bool):Bool:=l.any fun y=>decide (y.1=m)
theorem al3:aK Tryz.prog 128 (bR (fun a:List Mk×List Bool=>[ari a.1,bsA a.2]) (fun a=>a.1.length≤1000000∧∀y∈a.1,y.1.length≤1000000) (fun a=>bP (lK a.1 a.2))):=by
 refine aX (Tb:=tab) mixed aB Tryz.func128 rfl rfl ?_
 rintro (a:List Mk×List Bool) hpre
 refine ai (ai rfl (ai rfl rfl)) ?_
 obtain ⟨hl,hm⟩:=hpre
 have hl:a.1.length≤1000000:=hl
 refine ei (bC.inv { X:=Nat,up:=fun k=>[(5,.s (iA k))],uo:=fun k=>[],inv:=fun k=>k≤a.1.length∧(∀y∈a.1.take k,decide (y.1=a.2)=false),meas:=fun k=>a.1.length-k,x0:=0 }) ?_
 refine ai (ai (ai (by exact (a4 (ai rfl rfl))) (ai (by exact (ai (ai (fun _=>rfl) (iE (by simp only[zz,reduceCtorEq];rfl))) rfl)) (by exact trivial))) rfl) (ai (ai (adO _) ?_) ?_)
 ·exact fun y hy=>absurd hy (by simp)
 intro (k:Nat) ⟨hk,hall⟩
 refine ah (p:=k<a.1.length) (au (by omega)) (fun h1=>?_) (fun h1=>?_)
 ·refine ai (ai (aaN _) (iN (n:=a.1.length) (by omega))) (ai rfl ?_)
  refine ei _ (ai (agO) (ei (((a.1.getD k av).1,a.2)) (ei [] (ai (a4 (ai (fun _=>Or.inl rfl) (ai nof (Or.inl rfl)))) (ai (by exact (ai (ai rfl (fun _ _=>rfl)) (ai rfl (fun _ _=>rfl)))) (ai trivial (ai (hm _ (aa5 (bG av h1))) ?_)))))))
  refine aZ (b:=decide ((a.1.getD k av).1=a.2)) rfl (fun h2=>?_) (fun h2=>?_)
  ·refine ai (ai (fun _=>trivial) ?_) trivial
   show ak _ (bP (lK a.1 a.2))
   rw[show lK a.1 a.2=true from abZ (d:=av) h1 h2]
   exact rfl
  refine ei (k+1) (ai (ai rfl rfl) (ai (ai (ai rfl (ai (ai rfl rfl) (ai (ai rfl rfl) (ai (ai (ai (fun _=>rfl) (aO (by omega))) rfl) trivial)))) rfl) (ai (ai (iL (by omega)) ?_) (iM (by omega)))))
  intro y hy
  rw[aP av h1] at hy
  rcases ahT.1 hy with hy | hy
  ·exact hall y hy
  ·simp only[agp] at hy;subst hy;exact h2
 ·obtain rfl:k=a.1.length:=by omega
  rw[agn] at hall
  refine ai (ai (fun _=>trivial) ?_) trivial
  show ak _ (bP (lK a.1 a.2))
  rw[show lK a.1 a.2=false from ar4.2 (fun y hy=>by rw[hall y hy];decide)]
  exact rfl
def pF (x y:Int):Int:=if x<y then -1 else if y<x then 1 else 0
theorem afu:aK Tryz.prog 163 (bR (fun x:Int=>[iA x]) (fun _=>True) (fun _=>bP false)):=by
 refine aX (Tb:=tab) mixed aB Tryz.func163 rfl rfl ?_
 rintro (x:Int) hpre
 refine ai (ai rfl (ai rfl rfl)) ?_
 refine ai (ai (fun _=>trivial) ?_) trivial
 show ak _ (bP false)
 rw[show false=(x != x) by simp]
 exact rfl
theorem anZ:aK Tryz.prog 126 (bR (fun a:Int×Int=>[iA a.1,iA a.2]) (fun _=>True) (fun a=>iP (pF a.1 a.2))):=by
 refine aX (Tb:=tab) mixed aB Tryz.func126 rfl rfl ?_
 rintro (a:Int×Int) hpre
 refine ai (ai rfl (ai rfl rfl)) ?_
 refine ei _ (ai (afu) (ei (a.1) (ei [] (ai (a4 (ai (fun _=>Or.inl rfl) (ai nof (Or.inl rfl)))) (ai (by exact rfl) (ai trivial (ai (trivial) ?_)))))))
 refine ei _ (ai (afu) (ei (a.2) (ei [] (ai (a4 (ai (fun _=>Or.inl rfl) (ai nof (Or.inl rfl)))) (ai (by exact rfl) (ai trivial (ai (trivial) ?_)))))))
 refine ah (p:=a.1<a.2) (au (by omega)) (fun h1=>?_) (fun h1=>?_)
 ·refine ai (ai (fun _=>trivial) ?_) trivial
  show ak _ (iP (pF a.1 a.2))
  rw[pF,if_pos h1]
  exact rfl
 refine ah (p:=a.2<a.1) (au (by omega)) (fun h2=>?_) (fun h2=>?_)
 ·refine ai (ai (fun _=>trivial) ?_) trivial
  show ak _ (iP (pF a.1 a.2))
  rw[pF,if_neg h1,if_pos h2]
  exact rfl
 ·refine ai (ai (fun _=>trivial) ?_) trivial
  show ak _ (iP (pF a.1 a.2))
  rw[pF,if_neg h1,if_neg h2]
  exact rfl
def cmpL:List Int→List Int→Int
 | [],[]=>0
 | [],_ :: _=>-1
 | _ :: _,[]=>1
 | x :: a,y :: b=>if pF x y=0 then cmpL a b else pF x y
theorem akU {x y:Int} (h:pF x y=0):x=y:=by
 unfold pF at h
 split at h
 ·cases h
 ·split at h
  ·cases h
  ·omega
theorem adU {a b:List Int}:∀{k:Nat},k≤a.length→k≤b.length→a.take k=b.take k→cmpL a b=cmpL (a.drop k) (b.drop k)
 | 0,_,_,_=>rfl
 | k+1,hk,hk2,h=>by
  have h1:a.take k=b.take k:=by
   have:=congrArg (List.take k) h
   rwa [asn,asn,ar9 (by omega)] at this
  rw[adU (k:=k) (by omega) (by omega) h1]
  have ha:a.drop k=a.getD k 0 :: a.drop (k+1):=by
   rw[anq (by omega),aaK,aaL (by omega)];rfl
  have hb:b.drop k=b.getD k 0 :: b.drop (k+1):=by
   rw[anq (by omega),aaK,aaL (by omega)];rfl
  have e:a.getD k 0=b.getD k 0:=by
   have:=congrArg (fun l=>l.getD k 0) h
   simpa [aaK,aj8] using this
  rw[ha,hb,cmpL,if_pos (by rw[e];unfold pF;rw[if_neg (by omega),if_neg (by omega)])]
theorem aaB:aK Tryz.prog 64 (bR (fun a:List Int×List Int=>[isA a.1,isA a.2]) (fun a=>a.1.length≤1000000) (fun a=>iP (cmpL a.1 a.2))):=by
 refine aX (Tb:=tab) mixed aB Tryz.func64 rfl rfl ?_
 rintro (a:List Int×List Int) hpre
 refine ai (ai rfl (ai rfl rfl)) ?_
 have hl:a.1.length≤1000000:=hpre
 refine ei (bC.inv { X:=Nat,up:=fun k=>[(11,.s (iA k))],uo:=fun k=>[],inv:=fun k=>k≤a.1.length∧(k≤a.2.length∧a.1.take k=a.2.take k),meas:=fun k=>a.1.length-k,x0:=0 }) ?_
 refine ai (ai (ai (by exact (a4 (ai rfl rfl))) (ai (by exact (ai (ai (fun _=>rfl) (iE (by simp only[zz,reduceCtorEq];rfl))) rfl)) (by exact trivial))) rfl) (ai (ai (adO _) ?_) ?_)
 ·exact ⟨adO _,rfl⟩
 intro (k:Nat) ⟨hk,hk2,hall⟩
 have hD:=adU hk hk2 hall
 refine ah (p:=k<a.1.length) (au (by omega)) (fun h1=>?_) (fun h1=>?_)
 ·refine ai (ai (aaN _) (iN (n:=a.1.length) (by omega))) (ai rfl ?_)
  have ha:a.1.drop k=a.1.getD k 0 :: a.1.drop (k+1):=by
   rw[anq (by omega),aaK,aaL (by omega)];rfl
  refine ah (p:=a.2.length≤k) (bZ (by omega)) (fun h2=>?_) (fun h2=>?_)
  ·refine ai (ai (fun _=>trivial) ?_) trivial
   show ak _ (iP (cmpL a.1 a.2))
   rw[show cmpL a.1 a.2=1 by rw[hD,ha,ar1 h2];rfl]
   exact rfl
  have hb:a.2.drop k=a.2.getD k 0 :: a.2.drop (k+1):=by
   rw[anq (by omega),aaK,aaL (by omega)];rfl
  refine ai (ai (aaN _) (iN (n:=a.2.length) (by omega))) (ai rfl ?_)
  refine ei _ (ai (anZ) (ei ((a.1.getD k 0,a.2.getD k 0)) (ei [] (ai (a4 (ai (fun _=>Or.inl rfl) (ai nof (Or.inl rfl)))) (ai (by exact (ai (iE (by simp only[zz,reduceCtorEq])) (iE (by simp only[zz,reduceCtorEq])))) (ai trivial (ai (trivial) ?_)))))))
  refine bn (p:=pF (a.1.getD k 0) (a.2.getD k 0)=0) (bM (by dsimp only;omega)) (fun h3=>?_) (fun h3=>?_)
  ·refine ai (ai (fun _=>trivial) ?_) trivial
   show ak _ (iP (cmpL a.1 a.2))
   rw[show cmpL a.1 a.2=pF (a.1.getD k 0) (a.2.getD k 0) by rw[hD,ha,hb,cmpL,if_neg h3]]
   exact rfl
  refine ei (k+1) (ai (ai rfl rfl) (ai (ai (ai rfl (ai (ai rfl rfl) (ai (ai rfl rfl) (ai (ai (ai (fun _=>rfl) (aO (by omega))) rfl) trivial)))) rfl) (ai (ai (iL (by omega)) (ai ?_ ?_)) (iM (by omega)))))
  ·show k+1≤a.2.length;omega
  ·exact wu 0 h1 (by omega) hall (akU h3)
 ·obtain rfl:k=a.1.length:=by omega
  rw[ar1 (afK _)] at hD
  refine ah (p:=a.1.length<a.2.length) (au (by omega)) (fun h4=>?_) (fun h4=>?_)
  ·have hb:a.2.drop a.1.length=a.2.getD a.1.length 0 :: a.2.drop (a.1.length+1):=by
    rw[anq (by omega),aaK,aaL (by omega)];rfl
   refine ai (ai (fun _=>trivial) ?_) trivial
   show ak _ (iP (cmpL a.1 a.2))
   rw[show cmpL a.1 a.2=-1 by rw[hD,hb];rfl]
   exact rfl
  ·refine ai (ai (fun _=>trivial) ?_) trivial
   show ak _ (iP (cmpL a.1 a.2))
   rw[show cmpL a.1 a.2=0 by rw[hD,ar1 (by omega)];rfl]
   exact rfl
def oJ (c:aS) (i:Nat):jA:=c.trs.getD i aM
def aC (c:aS) (l:List Mk) (a i:Nat):Mk:=(mP (l.getD a av).1 (oJ c i),(l.getD a av).2++[(i:Int)])
def adds (c:aS) (l:List Mk) (a i:Nat):Bool:=allM (l.getD a av).1 (oJ c i).fr&&!lK l (aC c l a i).1
def iY (c:aS) (l:List Mk) (a i:Nat):List Mk:=if adds c l a i then l++[aC c l a i] else l
def dB (c:aS) (l:List Mk) (a:Nat):Nat→List Mk
 | 0=>l
 | k+1=>iY c (dB c l a k) a k
def oo (c:aS):Nat→List Mk→Nat→Option (List Mk)
 | 0,l,a=>some l
 | f+1,l,a=>if l.length≤a then some l else if 16384<(dB c l a c.trs.length).length then none else oo c f (dB c l a c.trs.length) (a+1)
def mk1 (c:aS):List Mk:=[(mQ c.sts.length,[])]
def lH (c:aS):Option (List Mk):=oo c 16385 (mk1 c) 0
theorem aev (c:aS) (l:List Mk) (a i:Nat):(∃t,iY c l a i=l++t)∧(iY c l a i).length≤l.length+1:=by
 unfold iY
 split
 ·exact ⟨⟨_,rfl⟩,by simp⟩
 ·exact ⟨⟨[],(aqg _).symm⟩,by omega⟩
theorem akA (c:aS) (l:List Mk) (a:Nat):∀{j k:Nat},j≤k→(dB c l a j).length≤(dB c l a k).length:=by
 intro j k h
 induction k with
 | zero=>
  have:j=0:=by omega
  subst this;exact afK _
 | succ k ih=>
  by_cases e:j=k+1
  ·subst e;exact afK _
  ·have h1:=ih (by omega)
   obtain ⟨⟨t,ht⟩,_⟩:=aev c (dB c l a k) a k
   have:(dB c l a (k+1)).length=(dB c l a k).length+t.length:=by
    show (iY c (dB c l a k) a k).length=_
    rw[ht,aaH]
   omega
theorem qc (c:aS) (l:List Mk) (a:Nat):∀k,∃t,dB c l a k=l++t
 | 0=>⟨[],(aqg _).symm⟩
 | k+1=>by
  obtain ⟨t,ht⟩:=qc c l a k
  obtain ⟨⟨t2,h2⟩,_⟩:=aev c (dB c l a k) a k
  exact ⟨t++t2,by show iY c (dB c l a k) a k=_;rw[h2,ht,arU]⟩
def mh (c:aS) (l:List Mk):Prop:=∀y∈l,y.1.length=c.sts.length∧gL c.trs.length y.2
theorem ake {c:aS} {l:List Mk} {a i:Nat} (h:mh c l) (ha:a<l.length) (hi:i<c.trs.length):mh c (l++[aC c l a i]):=by
 intro y hy
 rcases ahT.1 hy with hy | hy
 ·exact h y hy
 ·simp only[agp] at hy
  subst hy
  have hg:=h _ (aa5 (bG av ha))
  refine ⟨by show (mP _ _).length=_;unfold mP;rw[dV,dV];exact hg.1,fun x hx=>?_⟩
  rcases ahT.1 hx with hx | hx
  ·exact hg.2 x hx
  ·simp only[agp] at hx;subst hx;omega
theorem good_step {c:aS} {l:List Mk} {a i:Nat} (h:mh c l) (ha:a<l.length) (hi:i<c.trs.length):mh c (iY c l a i):=by
 unfold iY
 split
 ·exact ake h ha hi
 ·exact h
theorem good_row {c:aS} {l:List Mk} {a:Nat} (h:mh c l) (ha:a<l.length):∀{k:Nat},k≤c.trs.length→mh c (dB c l a k)
 | 0,_=>h
 | k+1,hk=>good_step (good_row h ha (by omega)) (by obtain ⟨t,ht⟩:=qc c l a k;rw[ht,aaH];omega) (by omega)
theorem abq (c:aS):mh c (mk1 c):=by
 intro y hy
 simp only[mk1,agp] at hy
 subst hy
 exact ⟨by show (mQ _).length=_;unfold mQ;rw[ar3,aq1],fun x hx=>by simp at hx⟩
theorem ae6 {c:aS} {f:Nat} {l:List Mk} {a:Nat} (h:l.length≤a):oo c f l a=some l:=by
 cases f with
 | zero=>rfl
 | succ f=>rw[oo,if_pos h]
theorem ae8 {c:aS} {f:Nat} {l:List Mk} {a k:Nat} (ha:a<l.length) (hk:k≤c.trs.length) (h:16384<(dB c l a k).length):oo c (f+1) l a=none:=by
 have:=akA c l a hk
 rw[oo,if_neg (by omega),if_pos (by omega)]
theorem af5 {c:aS} {f:Nat} {l:List Mk} {a:Nat} (ha:a<l.length) (h:(dB c l a c.trs.length).length≤16384):oo c (f+1) l a=oo c f (dB c l a c.trs.length) (a+1):=by
 rw[oo,if_neg (by omega),if_neg (by omega)]
def mwR (l:List Mk):LV:=.rws 129 2 l.length (fun k=>mwK (l.getD k av))
theorem yV {u u' v v':PV} (h1:gF u u') (h2:gF v v'):bJ [u,v] [u',v']:=by
 refine ⟨rfl,fun k s s' hs hs'=>?_⟩
 match k with
 | 0=>cases hs;cases hs';exact h1
 | 1=>cases hs;cases hs';exact h2
 | k+2=>simp at hs
theorem aoJ (a:List Mk) (x:Mk) {u v:PV} (hu:gF u (iX x.1)) (hv:gF v (lT x.2)):∀k,k<a.length+1→bJ (bL a.length (fun k=>mwK (a.getD k av)) (bg 2 [u,v]) k) (mwK ((a++[x]).getD k av)):=by
 intro k hk
 unfold bL
 by_cases h:k<a.length
 ·rw[if_pos h]
  refine bJ.of ?_
  show mwK (a.getD k av)=_
  rw[aaK,aaK,aeB h]
 ·obtain rfl:k=a.length:=by omega
  rw[if_neg h,aqV,aaK,aeD (afK _),aqV]
  exact yV hu hv
theorem ajk {n:Nat} {f:Nat→List PV} {l:List Int} (hn:n=l.length) (hf:∀k,k<n→f k=[iP (l.getD k 0)]):gF (.seq n f) (lT l):=by
 subst hn
 refine .seq _ _ _ (fun j hj=>by rw[hf j hj]) fun j k s s' hj hs hs'=>?_
 rw[hf j hj] at hs
 have hs':[iP (l.getD j 0)][k]?=some s':=hs'
 rw[hs] at hs';cases hs';exact .refl _
def aa7 (c:aS):PV:=match lH c with
 | some l=>.tup [ajz l,iP 0]
 | none=>.tup [ajz [],iP 12]
theorem ak0 (c:aS) (m:List Bool) (k:Nat):xW c m [(k:Int)]=mP m (oJ c k):=by
 show bO (bO m (c.trs.getD ((k:Int)).toNat aM).fr false) (c.trs.getD ((k:Int)).toNat aM).to true=_
 rw[ani];rfl
theorem jN {c:aS} {l:List Mk} {a:Nat} (ha:a<l.length) (k:Nat):(dB c l a k).getD a av=l.getD a av:=by
 obtain ⟨t,ht⟩:=qc c l a k
 rw[ht,aaK,aaK,aeB ha]
def uL (n:Nat) (l:List Mk):Prop:=∀y∈l,y.2.length≤n
theorem aao {c:aS} {l:List Mk} {a:Nat} (ha:a<l.length) (h:uL a l):∀k,uL (a+1) (dB c l a k)
 | 0=>fun y hy=>Nat.le_succ_of_le (h y hy)
 | k+1=>by
  have ih:=aao (c:=c) ha h k
  show uL (a+1) (iY c (dB c l a k) a k)
  unfold iY
  split
  ·intro y hy
   rcases ahT.1 hy with hy | hy
   ·exact ih y hy
   ·simp only[agp] at hy
    subst hy
    show (((dB c l a k).getD a av).2++[(k:Int)]).length≤a+1
    rw[jN ha,aaH]
    have:=h _ (aa5 (bG av ha))
    show (l.getD a av).2.length+1≤a+1
    omega
  ·exact ih
theorem ams {n k:Nat} (h:k<n):gL n [(k:Int)]:=fun x hx=>by
 simp only[agp] at hx;subst hx;omega
theorem aaI:aK Tryz.prog 65 (iC (fun c:aS=>[jy c]) (fun c=>bE c=0∧gD c) aa7):=by
 refine jo [3000061] ?_
 refine aX (Tb:=tab) mixed aB Tryz.func65 rfl rfl ?_
 rintro (c:aS) hpre
 refine ai (ai rfl (ai rfl rfl)) ?_
 obtain ⟨hc,ho⟩:=hpre
 have hc:bE c=0:=hc
 have ho:gD c:=ho
 obtain ⟨_,_,⟨b3,b4⟩,b5,_⟩:=gI hc
 refine ei _ (ai (amx) (ei (c) (ei [] (ai (a4 (ai (fun _=>Or.inl rfl) (ai nof (Or.inl rfl)))) (ai (by exact (ai rfl (ai (ai rfl (fun _ _=>rfl)) (ai (ai rfl (fun _ _=>rfl)) (ai rfl (fun _ _=>rfl)))))) (ai trivial (ai (⟨b3,b4⟩) ?_)))))))
 refine ei (bC.inv { X:=Nat×List Mk,up:=fun x=>[(5,.s (iA x.1)),(4,mwR x.2)],uo:=fun _=>[],inv:=fun x=>x.1≤x.2.length∧x.2.length≤16384∧(mh c x.2∧uL x.1 x.2)∧oo c (16385-x.1) x.2 x.1=lH c,meas:=fun x=>16385-x.1,x0:=(0,mk1 c) }) ?_
 refine ai (ai (ai (by exact (a4 (ai rfl rfl))) (ai ?_ ?_)) ?_) (ai ?_ ?_)
 ·refine (ai (ai (ai (fun _=>rfl) (iE (by simp only[zz,reduceCtorEq];rfl))) rfl) (ai rfl (ai rfl (ai rfl ?_))))
  intro k hk
  have hk:k<1:=hk
  obtain rfl:k=0:=by omega
  exact yV (.refl _) (.nil _)
 ·exact trivial
 ·rfl
 ·exact ⟨adO _,by show 1≤16384;decide,⟨abq c,fun y hy=>by simp only[mk1,agp] at hy;subst hy;exact adO _⟩,rfl⟩
 rintro ⟨a,l⟩ ⟨hal,hll,⟨hg,hwl⟩,hr⟩
 have hal:a≤l.length:=hal
 have hll:l.length≤16384:=hll
 have hg:mh c l:=hg
 have hwl:uL a l:=hwl
 have hr:oo c (16385-a) l a=lH c:=hr
 refine ah (p:=a<l.length) (au (by dsimp only;omega)) (fun h1=>?_) (fun h1=>?_)
 ·refine ei (bC.inv { X:=Nat,up:=fun k=>[(6,.s (iA k)),(4,mwR (dB c l a k))],uo:=fun k=>[],inv:=fun k=>k≤c.trs.length∧((dB c l a k).length≤16384),meas:=fun k=>c.trs.length-k,x0:=0 }) ?_
  refine ai (ai (ai (by exact (a4 (ai rfl rfl))) (ai ?_ ?_)) rfl) (ai (ai (adO _) ?_) ?_)
  ·refine (ai (ai (ai (fun _=>rfl) (iE (by simp only[zz,reduceCtorEq];rfl))) rfl) (ai rfl (ai rfl (ai rfl ?_))))
   exact fun k _=>bJ.rfl' _
  ·exact trivial
  ·exact hll
  intro (k:Nat) ⟨hk,hkl⟩
  have hgk:=good_row hg h1 hk
  have hways:=aao (c:=c) h1 hwl k
  obtain ⟨t,ht⟩:=qc c l a k
  have hak:a<(dB c l a k).length:=by rw[ht,aaH];omega
  refine ah (p:=k<c.trs.length) (au (by omega)) (fun h2=>?_) (fun h2=>?_)
  ·have hst:dB c l a (k+1)=iY c (dB c l a k) a k:=rfl
   have hrun:16384<(dB c l a (k+1)).length→lH c=none:=fun h=>by
    rw[←hr,show 16385-a=(16384-a)+1 by omega]
    exact ae8 h1 (show k+1≤c.trs.length from h2) h
   generalize dB c l a k=L at *
   have hga:=hgk _ (aa5 (bG av hak))
   obtain ⟨q1,q2,q3⟩:=kZ hc h2
   have hto:=pX ho h2
   refine ei (.seq [0,1,2,3,4,5,6,7,8,9,10,11]) (ai (by kernel_rfl) ?_)
   refine ai (ai (aaN _) (iN (n:=c.trs.length) (by omega))) (ai rfl ?_)
   refine ai (ai (aaN _) (by show (a:Int)<(L.length:Int);omega)) ?_
   refine ai (by show a<L.length;exact hak) ?_
   have hcan:gL (L.getD a av).1.length (oJ c k).fr:=by rw[hga.1];exact q1.2
   refine ei _ (ai (afE) (ei ((oJ c k,(L.getD a av).1)) (ei [] (ai (a4 (ai (fun _=>Or.inl rfl) (ai nof (Or.inl rfl)))) (ai (by exact (ai (ai (ai rfl (fun _ _=>rfl)) (ai (ai rfl (fun _ _=>rfl)) (ai (iE (by simp only[zz,reduceCtorEq];rfl)) (ai (iE (by simp only[zz,reduceCtorEq];rfl)) (ai rfl (fun _ _=>rfl)))))) (ai rfl (fun _ _=>rfl)))) (ai trivial (ai (⟨hcan,hto.1⟩) ?_)))))))
   have hnew:(aC c L a k).1=xW c (L.getD a av).1 [(k:Int)]:=(ak0 c (L.getD a av).1 k).symm
   have hup:∀y∈L,y.1.length≤1000000:=fun y hy=>by
    have:=(hgk y hy).1;omega
   refine aZ (b:=!allM (L.getD a av).1 (oJ c k).fr) rfl (fun h3=>?_) (fun h3=>?_)
   ·have h3:allM (L.getD a av).1 (oJ c k).fr=false:=by simpa using h3
    have e:dB c l a (k+1)=L:=by rw[hst];unfold iY adds;rw[h3];simp
    refine ei (k+1) (ai (ai rfl rfl) (ai (ai (ai rfl (ai (ai rfl rfl) (ai (ai rfl rfl) (ai (ai (ai (ai (fun _=>rfl) (aO (by omega))) rfl) (ai rfl (ai rfl (ai ?_ ?_)))) trivial)))) rfl) (ai (ai (iL (by omega)) ?_) (iM (by omega)))))
    ·rw[e]
    ·rw[e];exact fun k _=>bJ.rfl' _
    ·rw[e];exact hkl
   have h3:allM (L.getD a av).1 (oJ c k).fr=true:=by simpa using h3
   refine ei (.seq [0,1,2,3,4,5,6,7,8,9]) (ai (by kernel_rfl) ?_)
   refine ai (ai (aaN _) (by show (a:Int)<(L.length:Int);omega)) ?_
   refine ai (by show a<L.length;exact hak) ?_
   refine ei _ (ai (amH) (ei ((c,(L.getD a av).1,[(k:Int)])) (ei [] (ai (ai rfl (ai rfl (ai rfl (ai rfl (ai (fun _=>Or.inl rfl) (ai (fun _=>ai rfl rfl) (Or.inl rfl))))))) (ai ?_ (ai (by exact trivial) (ai (⟨hc,ho,hga.1,ams h2,agL rfl⟩) ?_)))))))
   ·refine (ai (ai rfl (ai (ai rfl (fun _ _=>rfl)) (ai (ai rfl (fun _ _=>rfl)) (ai rfl (fun _ _=>rfl))))) (ai (ai rfl (fun _ _=>rfl)) (ai rfl ?_)))
    (intro k hk;have hk:k<1:=hk;match k,hk with | 0,_=>rfl)
   refine ei _ (ai (al3) (ei ((L,xW c (L.getD a av).1 [(k:Int)])) (ei [] (ai (ai rfl (ai rfl (ai rfl (ai rfl (ai (fun _=>Or.inl rfl) (ai (fun _=>ai rfl rfl) (Or.inl rfl))))))) (ai (by exact (ai (ai rfl (fun _ _=>rfl)) (ai rfl (fun _ _=>rfl)))) (ai trivial (ai (⟨by show L.length≤1000000;omega,hup⟩) ?_)))))))
   refine aZ (b:=!lK L (xW c (L.getD a av).1 [(k:Int)])) rfl (fun h4=>?_) (fun h4=>?_)
   ·have hn:adds c L a k=true:=by unfold adds;rw[h3,hnew,h4];rfl
    have e:dB c l a (k+1)=L++[aC c L a k]:=by rw[hst];unfold iY;rw[if_pos hn]
    refine ai (ai (aaN _) (by show (a:Int)<(L.length:Int);omega)) ?_
    refine ai (by show a<L.length;exact hak) ?_
    have hw:=hways _ (aa5 (bG av hak))
    refine ai (mxL (n:=0+(L.getD a av).2.length) (by omega) (by decide)) (ai (fun _ _=>rfl) ?_)
    refine ai (mxL (n:=0+(L.getD a av).2.length+1) (by omega) (by decide)) (ai (aH 1 rfl) ?_)
    refine ai (mxL (n:=L.length+1) (by omega) (by decide)) (ai (lt1 rfl) ?_)
    refine ah (p:=16384<L.length+1) (au (by omega)) (fun h5=>?_) (fun h5=>?_)
    ·refine ai (ai (fun h=>absurd (show false=true from h) (by decide)) ?_) trivial
     show ak _ (aa7 c)
     rw[aa7,hrun (by rw[e,aaH];exact h5)]
     exact (ai rfl rfl)
    refine ei (k+1) (ai (ai rfl rfl) (ai (ai (ai rfl (ai (ai rfl rfl) (ai (ai rfl rfl) (ai (ai (ai (ai (fun _=>rfl) (aO (by omega))) rfl) (ai rfl (ai rfl (ai ?_ ?_)))) trivial)))) rfl) (ai (ai (iL (by omega)) ?_) (iM (by omega)))))
    ·rw[e,aaH];rfl
    ·rw[e]
     refine aoJ L (aC c L a k) (by rw[hnew];exact .refl _) (ajk ?_ ?_)
     ·show 0+(L.getD a av).2.length+1=((L.getD a av).2++[(k:Int)]).length
      rw[aaH];simp
     ·intro j hj
      have hj:j<0+(L.getD a av).2.length+1:=hj
      refine aal (a:=(L.getD a av).2) (b:=[(k:Int)]) (agW _) (fun j hj=>abM (n:=(L.getD a av).2.length) j (by omega)) (fun j hj=>?_) j (by rw[aaH];show j<(L.getD a av).2.length+1;omega)
      have hj:j<1:=hj
      obtain rfl:j=0:=by omega
      rfl
    ·rw[e,aaH];show L.length+1≤16384;omega
   ·have h4:lK L (xW c (L.getD a av).1 [(k:Int)])=true:=by simpa using h4
    refine ah (p:=16384<L.length) (au (by omega)) (fun h5=>?_) (fun h5=>?_)
    ·exact absurd h5 (by omega)
    have e:dB c l a (k+1)=L:=by rw[hst];unfold iY adds;rw[hnew,h4];simp
    refine ei (k+1) (ai (ai rfl rfl) (ai (ai (ai rfl (ai (ai rfl rfl) (ai (ai rfl rfl) (ai (ai (ai (ai (fun _=>rfl) (aO (by omega))) rfl) (ai rfl (ai rfl (ai ?_ ?_)))) trivial)))) rfl) (ai (ai (iL (by omega)) ?_) (iM (by omega)))))
    ·rw[e]
    ·rw[e];exact fun k _=>bJ.rfl' _
    ·rw[e];exact hkl
  ·obtain rfl:k=c.trs.length:=by omega
   refine ei ((a+1,dB c l a c.trs.length)) (ai (ai rfl rfl) (ai (ai ?_ rfl) (ai ?_ ?_)))
   ·refine (ai rfl (ai (ai rfl rfl) (ai (ai rfl rfl) (ai (ai (ai (ai (fun _=>rfl) (aO (by omega))) rfl) (ai rfl (ai rfl (ai rfl ?_)))) trivial))))
    exact fun k _=>bJ.rfl' _
   ·exact ⟨by show a+1≤(dB c l a c.trs.length).length;rw[ht,aaH];omega,hkl,⟨hgk,hways⟩,(af5 h1 hkl).symm.trans (by rw[←hr,show 16385-a=16385-(a+1)+1 by omega])⟩
   ·show 16385-(a+1)<16385-a;omega
 ·have e:lH c=some l:=by rw[←hr];exact ae6 (by omega)
  refine ai (ai (fun h=>absurd (show false=true from h) (by decide)) ?_) trivial
  show ak _ (aa7 c)
  rw[aa7,e]
  exact (ai (ai rfl (fun _ _=>rfl)) rfl)
def toC (x:Ex):C3:=(iP x.op,iP x.idx,if x.op=1 then .val (.slice none 0 0) else .seq x.args.length (fun k=>tF (x.args.getD k dQ).idx))
theorem aoa (n:Int):zx n=toC (uO n):=rfl
theorem ahH (l:List Sk):lC l=toC (afB l):=by
 match l with
 | [y]=>rfl
 | []=>
  show (iP 3,iP 0,PV.seq 0 (wW []))=(iP 3,iP 0,PV.seq 0 (fun k=>tF (([]:List Ex).getD k dQ).idx))
  exact congrArg (fun f:Nat→List PV=>((iP 3,iP 0,PV.seq 0 f):C3)) (funext fun k=>by cases k<;>rfl)
 | a :: b :: l=>
  show (iP 3,iP 0,PV.seq (a :: b :: l).length (wW (a :: b :: l)))=(iP 3,iP 0,PV.seq ((a :: b :: l).map fun y=>uO (mR y)).length (fun k=>tF (((a :: b :: l).map fun y=>uO (mR y)).getD k dQ).idx))
  rw[anb]
  refine congrArg (fun f:Nat→List PV=>((iP 3,iP 0,PV.seq (a :: b :: l).length f):C3)) (funext fun k=>?_)
  show tF (mR ((a :: b :: l).getD k bI))=_
  rw[aaK,aaK,aiL]
  cases (a :: b :: l)[k]?<;>rfl
def okX (x:Ex):Prop:=(x.op=1∧x.args=[])∨(x.op=3∧∀y∈x.args,y.op=1∧y.args=[])
theorem aiw (n:Int):okX (uO n):=.inl ⟨rfl,rfl⟩
theorem aiC (l:List Sk):okX (afB l):=by
 match l with
 | [y]=>exact .inl ⟨rfl,rfl⟩
 | []=>exact .inr ⟨rfl,fun y hy=>by simp[afB] at hy⟩
 | a :: b :: l=>
  refine .inr ⟨rfl,fun y hy=>?_⟩
  obtain ⟨z,_,rfl⟩:=aq0.1 hy
  exact ⟨rfl,rfl⟩
abbrev SX := Stp × Ex
def sx0:SX:=(st0,uO 0)
def agf (act:Int) (p:List SX) (x:Stp):List SX:=
 if 0<x.wt then (p++[(⟨x.st,0⟩,afB x.st)])++[(⟨[],x.wt⟩,uO (2*act+1+((p.length+1:Nat):Int)))] else p++[(⟨x.st,0⟩,afB x.st)]
def amf (s:mq):List SX:=s.sts.foldl (agf s.act) [(⟨[],0⟩,uO (2*s.act))]
def adg (q:SX):SC:=(q.1,toC q.2)
theorem alG (s:mq):dF s s.sts.length=(amf s).map adg:=by
 have key:∀(l:List Stp) (p:List SX),l.foldl (sM s.act) (p.map adg)=(l.foldl (agf s.act) p).map adg:=by
  intro l
  induction l with
  | nil=>intro p;rfl
  | cons x l ih=>
   intro p
   rw[ash,ash,←ih]
   congr 1
   unfold sM agf
   rw[anb]
   split
   ·rw[aq2,aq2,ahH,aoa];rfl
   ·rw[aq2,ahH];rfl
 have:=key s.sts [(⟨[],0⟩,uO (2*s.act))]
 unfold dF
 rw[agn]
 exact this
theorem an7 (s:mq):∀q∈amf s,okX q.2:=by
 have key:∀(l:List Stp) (p:List SX),(∀q∈p,okX q.2)→∀q∈l.foldl (agf s.act) p,okX q.2:=by
  intro l
  induction l with
  | nil=>intro p h;exact h
  | cons x l ih=>
   intro p h
   rw[ash]
   refine ih _ fun q hq=>?_
   unfold agf at hq
   split at hq
   ·rcases ahT.1 hq with hq | hq
    ·rcases ahT.1 hq with hq | hq
     ·exact h q hq
     ·simp only[agp] at hq;subst hq;exact aiC _
    ·simp only[agp] at hq;subst hq;exact aiw _
   ·rcases ahT.1 hq with hq | hq
    ·exact h q hq
    ·simp only[agp] at hq;subst hq;exact aiC _
 exact key s.sts _ fun q hq=>by simp only[agp] at hq;subst hq;exact aiw _
def ak4:List UInt8:=[115,116,97,114,116]
def agR (p:List SX) (k:Nat):jA:=⟨[(k:Int)],[toN k p.length],(p.getD k sx0).2⟩
def chX (act:Int) (p:List SX):aS:=⟨act,[ak4],p.map (·.1),(List.range p.length).map (agR p)⟩
def ofC (s:mq):aS:=if vC s=0 then chX s.act (amf s) else ⟨0,[],[],[]⟩
theorem bH {a b:PV} {l m:List PV} (h:gF a b) (hl:bJ l m):bJ (a :: l) (b :: m):=by
 refine ⟨by simp[hl.1],fun k s s' hs hs'=>?_⟩
 match k with
 | 0=>cases hs;cases hs';exact h
 | k+1=>exact hl.2 k s s' (by simpa using hs) (by simpa using hs')
theorem mW:bJ [] []:=⟨rfl,fun k s s' hs _=>by simp at hs⟩
theorem gG {n:Nat} {f g:Nat→List PV} (h:∀k,k<n→bJ (f k) (g k)):gF (.seq n f) (.seq n g):=
 .seq n f g (fun j hj=>(h j hj).1) fun j k s s' hj hs hs'=>(h j hj).2 k s s' hs hs'
theorem vD {l m:List PV} (h:bJ l m):gF (.agg l) (.agg m):=.agg l m h.1 h.2
theorem ahN {l m:List PV} (h:bJ l m):gF (.tup l) (.tup m):=.tup l m h.1 h.2
theorem akY (x:Int):gF (.seq 1 (bg 1 [iP x])) (lT [x]):=ajk rfl fun j hj=>by
 obtain rfl:j=0:=by omega
 rfl
theorem aqm {x:Ex} (h:okX x):bJ (xA (toC x)) (xK x):=by
 refine bH (.refl _) (bH (.refl _) (bH ?_ mW))
 show gF (if x.op=1 then .val (.slice none 0 0) else .seq x.args.length (fun k=>tF (x.args.getD k dQ).idx)) (.seq x.args.length (exF x.args))
 rcases h with ⟨h1,h2⟩ | ⟨h1,h2⟩
 ·rw[if_pos h1,h2];exact .nil _
 ·rw[if_neg (by rw[h1];decide)]
  refine gG fun k hk=>?_
  have hy:=h2 _ (aa5 (bG dQ hk))
  show bJ (tF (x.args.getD k dQ).idx) (exF x.args k)
  unfold exF tF
  rw[hy.1,hy.2]
  exact bH (.refl _) (bH (.refl _) (bH (.nil _) mW))
theorem ao4:gF abo (ssP [ak4]):=gG fun k hk=>by
 obtain rfl:k=0:=by omega
 exact bJ.rfl' _
theorem aqf (x:Stp):bJ (tK x) (stK x):=by
 refine bH ?_ (bH (.refl _) mW)
 split
 ·rename_i h;rw[h];exact .nil _
 ·exact .refl _
theorem agK (p:List SX) {k:Nat} (hk:k<p.length):(p.map adg).getD k oH=adg (p.getD k sx0):=by
 rw[aaK,aaK,aiL,aaL hk];rfl
theorem amK (act:Int) {p:List SX} (h:∀q∈p,okX q.2):gF (aeR act (p.map adg)) (uJ (chX act p)):=by
 unfold aeR uJ chK chX
 rw[anb]
 refine vD (bH (.refl _) (bH ao4 (bH ?_ (bH ?_ mW))))
 ·show gF _ (.seq (p.map (·.1)).length (fun k=>stK ((p.map (·.1)).getD k st0)))
  rw[anb]
  refine gG fun k hk=>?_
  rw[agK p hk]
  have:(p.map (·.1)).getD k st0=(p.getD k sx0).1:=by
   rw[aaK,aaK,aiL,aaL hk];rfl
  rw[this]
  exact aqf _
 ·show gF _ (.seq ((List.range p.length).map (agR p)).length (fun k=>trK (((List.range p.length).map (agR p)).getD k aM)))
  rw[anb,List.length_range]
  refine gG fun k hk=>?_
  have e1:((List.range p.length).map (agR p)).getD k aM=agR p k:=by
   rw[aaK,aiL,asf hk];rfl
  rw[e1]
  unfold aax
  rw[agK p hk,anb]
  have h3:=aqm (h _ (aa5 (bG sx0 hk)))
  exact bH (akY _) (bH (akY _) h3)
theorem amN (s:mq):gF (ofRaw s) (.tup [uJ (ofC s),iP (vC s)]):=by
 unfold ofRaw ofC
 by_cases h:vC s=0
 ·rw[if_pos h,if_pos h,h,alG]
  exact ahN (bH (amK _ (an7 s)) (bH (.refl _) mW))
 ·rw[if_neg h,if_neg h]
  refine ahN (bH ?_ (bH (.refl _) mW))
  exact vD (bH (.refl _) (bH (.nil _) (bH (.nil _) (bH (.nil _) mW))))
def ofP (s:mq):PV:=.tup [uJ (ofC s),iP (vC s)]
theorem aeL:aK Tryz.prog 18 (iC (fun s:mq=>[sqA s]) (fun _=>True) ofP):=ade ahg fun s _=>amN s
theorem aau (m:List Bool):fT (cu m)=fT m:=funext fun k=>by unfold fT;rw[sV]
theorem aoL (m:List Bool) {k:Nat} (hk:k<m.length) (b:Bool):(cu m).set k b=cu (m.set k b):=by
 unfold cu
 rw[List.set_append_left _ _ hk,ar3]
theorem abj (b:Bool):∀{l:List Int} {m:List Bool},gL m.length l→bO (cu m) l b=cu (bO m l b)
 | [],_,_=>rfl
 | k :: l,m,h=>by
  show bO ((cu m).set k.toNat b) l b=cu (bO (m.set k.toNat b) l b)
  have hk:=h k (anl ..)
  rw[aoL m (by omega) b]
  exact abj b fun x hx=>by rw[ar3];exact h x (anp _ hx)
theorem aki {m:List Bool} {t:jA} (h1:gL m.length t.fr) (h2:gL m.length t.to):mP (cu m) t=cu (mP m t):=by
 unfold mP
 rw[abj false h1,abj true (by rw[dV];exact h2)]
def uN (c:aS) (m:List Bool) (i:Nat):PV:=.tup [sZ (bf c m i).1,bP (bf c m i).2]
theorem vo:aK Tryz.prog 61 (iC (fun a:aS×List Bool×Nat=>[jy a.1,sJ a.2.1,iA a.2.2]) (fun a=>bE a.1=0∧gD a.1∧a.2.1.length=a.1.sts.length∧a.2.2<a.1.trs.length) (fun a=>uN a.1 a.2.1 a.2.2)):=by
 refine ⟨aj0.1,fun ⟨c,m,i⟩ hp E vs w hg hh hA=>?_⟩
 obtain ⟨hc,ho,hm,hi⟩:=hp
 have hc:bE c=0:=hc
 have hm:m.length=c.sts.length:=hm
 have hi:i<c.trs.length:=hi
 obtain ⟨g1,g2,g3⟩:=kZ hc hi
 have h24:=(gI hc).2.2.1.2
 have e1:sJ (cu m)=sJ m:=by unfold sJ sZ;rw[aau]
 have e2:sZ (bf c (cu m) i).1=sZ (bf c m i).1∧(bf c (cu m) i).2=(bf c m i).2:=by
  unfold bf
  rw[amg]
  split
  ·refine ⟨?_,rfl⟩
   rw[aki (by rw[hm];exact g1.2) (by rw[hm];exact g2.2)]
   unfold sZ;rw[aau]
  ·exact ⟨by unfold sZ;rw[aau],rfl⟩
 have key:=aj0.2 (c,cu m,i) ⟨hc,ho,nX (by omega),hi⟩ E vs w hg hh (by
  show jX E vs [jy c,sJ (cu m),iA i]
  rw[e1];exact hA)
 refine key.mono fun e w' ⟨v,E',h1,h2,h3⟩=>⟨v,E',h1,?_,h3⟩
 have:PV.tup [sZ (bf c (cu m) i).1,bP (bf c (cu m) i).2]=uN c m i:=by unfold uN;rw[e2.1,e2.2]
 show aN _ v (uN c m i)
 rw[←this];exact h2
def dD (m:List Bool):List PV:=dX 24 (fT m)
def apy (l:List Mk):LV:=.rw 117 24 l.length (fun k=>dD (l.getD k av).1)
def ant (l:List Mk):LV:=.rws 29 1 l.length (fun k=>[lT (l.getD k av).2])
def xO (l:List Mk):MK→Option PV
 | .bools b=>if l.any (fun y=>decide (cu y.1=b)) then some (bP true) else none
 | _=>none
def knO (l:List Mk):Ob:=.map (.bools 24) l.length (xO l)
theorem amr {a b:List Bool} (hl:a.length=b.length) (h:cu a=cu b):a=b:=by
 unfold cu at h
 rw[hl] at h
 exact (List.append_inj' h rfl).1
theorem adn {l:List Mk} {m:List Bool} (hl:∀y∈l,y.1.length=m.length):xO l (.bools (cu m))=if lK l m then some (bP true) else none:=by
 unfold xO lK
 have:(l.any fun y=>decide (cu y.1=cu m))=l.any fun y=>decide (y.1=m):=by
  refine aqX.2 ?_
  simp only[ar7,decide_eq_true_eq]
  exact ⟨fun ⟨y,hy,h⟩=>⟨y,hy,amr (hl y hy) h⟩,fun ⟨y,hy,h⟩=>⟨y,hy,by rw[h]⟩⟩
 show (if (l.any fun y=>decide (cu y.1=cu m))=true then some (bP true) else none)=_
 rw[this]
theorem aU (l:List Mk) (x:Mk) (k:MK):qM (xO l) (.bools (cu x.1)) (bP true) k=xO (l++[x]) k:=by
 classical
 unfold qM
 split
 ·rename_i h;subst h
  show some (bP true)=if ((l++[x]).any fun y=>decide (cu y.1=cu x.1))=true then some (bP true) else none
  rw[if_pos (by simp)]
 ·rename_i h
  cases k with
  | bools b=>
   unfold xO
   have:decide (cu x.1=b)=false:=decide_eq_false fun e=>h (by rw[e])
   simp only[List.any_append,asx,List.any_nil,this,asw]
  | int a=>rfl
  | str a=>rfl
def af8 (l:List Mk):PV:=.seq l.length (fun k=>dD (l.getD k av).1)
def amX (l:List Mk):PV:=.seq l.length (fun k=>[lT (l.getD k av).2])
def wG (c:aS):PV:=match lH c with
 | some l=>.tup [af8 l,amX l,iP 0]
 | none=>.tup [af8 [],amX [],iP 12]
theorem ah7 {n:Nat} (h:0<n) (k:Nat):(mQ n).getD k false=(k==0):=by
 unfold mQ
 rw[aaK,asa]
 by_cases e:k=0
 ·subst e;rw[if_pos rfl,if_pos (by rw[aq1];exact h)];rfl
 ·rw[if_neg (fun h=>e h.symm),arX,show (k==0)=false by simpa using e]
  split<;>rfl
theorem aiJ {n:Nat} (h:0<n):fT (mQ n)=fT (mQ 1):=funext fun k=>by unfold fT;rw[ah7 h,ah7 (by decide)]
theorem abJ (m:List Bool):takeN 24 (dH 0 (dD m))=some (dX 24 (fT m)):=wo 24 (fT m)
theorem aV (a:List Mk) (x:Mk) {g:Nat→List PV} (hg:g 0=dD x.1):∀k,k<a.length+1→bL a.length (fun k=>dD (a.getD k av).1) g k=dD ((a++[x]).getD k av).1:=by
 intro k hk
 unfold bL
 by_cases h:k<a.length
 ·rw[if_pos h]
  show dD (a.getD k av).1=_
  rw[aaK,aaK,aeB h]
 ·obtain rfl:k=a.length:=by omega
  rw[if_neg h,aqV,hg,aaK,aeD (afK _),aqV];rfl
theorem abC {u u':PV} (h:gF u u'):bJ [u] [u']:=by
 refine ⟨rfl,fun k s s' hs hs'=>?_⟩
 match k with
 | 0=>cases hs;cases hs';exact h
 | k+1=>simp at hs
theorem aW (a:List Mk) (x:Mk) {v:PV} (hv:gF v (lT x.2)):∀k,k<a.length+1→bJ (bL a.length (fun k=>[lT (a.getD k av).2]) (bg 1 [v]) k) [lT ((a++[x]).getD k av).2]:=by
 intro k hk
 unfold bL
 by_cases h:k<a.length
 ·rw[if_pos h]
  refine bJ.of ?_
  show [lT (a.getD k av).2]=_
  rw[aaK,aaK,aeB h]
 ·obtain rfl:k=a.length:=by omega
  rw[if_neg h,aqV,aaK,aeD (afK _),aqV]
  exact abC hv
theorem dA {l:List Int} (h:l.length=0) (k:Nat):gF (.seq 1 (bg 1 [iP (k:Int)])) (lT (l++[(k:Int)])):=by
 obtain rfl:=ape.1 h
 exact ajk rfl fun j hj=>by
  obtain rfl:j=0:=by omega
  rfl
theorem bV (l:List Int) (k:Nat):gF (.seq (0+l.length+1) (bL (0+l.length) (bL 0 (bg 1 []) (fun j=>[iP (l.getD j 0)])) (bg 1 [iP (k:Int)]))) (lT (l++[(k:Int)])):=by
 refine ajk (by rw[aaH];simp) fun j hj=>aal (a:=l) (b:=[(k:Int)]) (agW _) (fun j hj=>abM (n:=l.length) j (by omega)) (fun j hj=>?_) j (by rw[aaH];show j<l.length+1;omega)
 have hj:j<1:=hj
 obtain rfl:j=0:=by omega
 rfl
theorem anH:xO []=fun _=>none:=funext fun k=>by cases k<;>rfl
theorem afm {l:List Mk} {x:Mk} (hl:∀y∈l,y.1.length=x.1.length) (h:lK l x.1=false):xO l (.bools (cu x.1))=none:=by
 rw[adn hl,if_neg (by rw[h];decide)]
end Go.Sx.Pe
