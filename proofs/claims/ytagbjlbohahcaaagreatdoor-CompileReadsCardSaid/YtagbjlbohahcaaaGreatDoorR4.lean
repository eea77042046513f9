/- CompileReads, part 4 of its proof: declarations that the last part uses. -/
import Derived.Test.YtagbjlbohahcaaaGreatDoorR3
set_option maxHeartbeats 1000000
set_option maxRecDepth 4000
set_option linter.unusedSimpArgs false
set_option linter.unusedVariables false
set_option linter.unusedSectionVars false
namespace Go.Sx.Pe
open Go Go.Proofs Go.Sx.Pn
theorem ajp:∀n,akx Tryz.prog 263 (ai9 n)
 | 0=>by
  refine apC [] (Tb:=tab) mixed fQ Tryz.func263 rfl rfl ?_
  rintro ⟨x,d⟩ ⟨h1,_⟩ L
  have:=size_pos x
  exact absurd h1 (by show ¬x.size≤0;omega)
 | n+1=>by
  have ih:=ajp n
  refine apC [2000000+263] (Tb:=tab) mixed fQ Tryz.func263 rfl rfl ?_
  rintro ⟨x,d⟩ ⟨h1,h2,h3⟩ L
  have hsz:sizes x.args+1≤n+1∧sizes x.args+1≤1000000:=by rw[←x.size_eq];exact ⟨h1,h3⟩
  have hd:d≤17:=h2
  refine ai rfl ?_
  refine ai rfl (ei (yP (d,x)) (ai (apF d x) (ai ?_ (ai ?_ ?_))))
  ·exact (ai (ai trivial rfl) (ai trivial (ai rfl (ai rfl (ai rfl (fun _ _=>rfl))))))
  ·have hlen:=pK x.args
   refine ei (mK.inv { X:=Nat,up:=fun k=>[(17,.s (iA k))],uo:=fun _=>[],inv:=fun k=>k≤x.args.length,meas:=fun k=>x.args.length-k,x0:=0,cnt:=fun k=>some (1+(jh d (x.args.take k)).length) }) ?_
   refine ai (ai (ai (by exact (a4 (ai rfl rfl))) (ai ?_ ?_)) ?_) (ai ?_ ?_)
   ·exact (ai (ai (fun _=>rfl) rfl) rfl)
   ·exact trivial
   ·show some (0+1)=some (1+(jh d (x.args.take 0)).length)
    unfold jh;split<;>simp[iK]
   ·exact alr _
   intro (k:Nat) (hk:k≤x.args.length)
   refine ah (p:=k<x.args.length) (aA (by dsimp only;omega)) (fun hkl=>?_) (fun hkl=>?_)
   ·refine ai (ai (abw _) (by show (k:Int)<(x.args.length:Int);omega)) (ai rfl ?_)
    refine bG (d≤16) (fun hdd=>?_) fun hdd=>?_
    ·have hget:=acu hkl
     have hy:=jy (abu hget)
     refine ei (ai9 n) (ai ih (ei (x.args.getD k bK,d+1) (ei [0,1] (ai (ai rfl (ai rfl rfl)) (ai ?_ (ai ?_ (ai ?_ (ai ?_ (ai ?_ ?_)))))))))
     ·exact (ai (ai (iE (by simp only[zz,reduceCtorEq])) (ai (iE (by simp only[zz,reduceCtorEq])) (ai rfl (xX _)))) (ai (aG (by omega)) (ai (ai rfl rfl) (ai rfl rfl))))
     ·exact (ai (ai rfl rfl) (ai rfl (ai rfl (ai (ai rfl rfl) (ai rfl rfl)))))
     ·exact ⟨by show (x.args.getD k bK).size≤n;omega,by show d+1≤17;omega,by show (x.args.getD k bK).size≤1000000;omega⟩
     ·exact fun i vs hi=>aqV hdd hkl hi
     ·refine ei ((k+1)) (ai (ai rfl rfl) (ai (ai ?_ ?_) (ai ?_ ?_)))
      ·exact (ai rfl (ai (ai rfl rfl) (ai (ai rfl rfl) (ai (ai (ai (fun _=>rfl) (aG (by omega))) rfl) trivial))))
      ·show some (1+(jh d (x.args.take k)).length+((dQ (d+1) (x.args.getD k bK)).map yP).length)=some (1+(jh d (x.args.take (k+1))).length)
       rw[aiq hdd hget,ai1,aaJ,axA]
      ·show k+1≤x.args.length;omega
      ·show x.args.length-(k+1)<x.args.length-k;omega
     ·exact rfl
    ·refine ei ((k+1)) (ai (ai rfl rfl) (ai (ai ?_ ?_) (ai ?_ ?_)))
     ·exact (ai rfl (ai (ai rfl rfl) (ai (ai rfl rfl) (ai (ai (ai (fun _=>rfl) (aG (by omega))) rfl) trivial))))
     ·show some (1+(jh d (x.args.take k)).length)=some (1+(jh d (x.args.take (k+1))).length)
      unfold jh;rw[if_neg hdd,if_neg hdd]
     ·show k+1≤x.args.length;omega
     ·show x.args.length-(k+1)<x.args.length-k;omega
   ·obtain rfl:k=x.args.length:=by omega
    refine ai rfl ?_
    show 1+(jh d (x.args.take x.args.length)).length=((dQ d x).map yP).length
    rw[acS,afj,axk,arJ,ai1,Nat.add_comm]
  ·exact rfl
def preS:uQ:={ A:=Ex,capt:=fun x=>[.pt (kN x) 0],pre:=fun x=>x.size≤1000000,xs:=fun x=>(dQ 1 x).map yP }
theorem ajG:agl Tryz.prog 262 preS:=by
 refine apI [2000000+263] (Tb:=tab) mixed fQ Tryz.func262 rfl rfl ?_
 intro (x:Ex) hpre
 refine ai rfl ?_
 intro L
 refine ei (ai9 x.size) (ai (ajp x.size) (ei (x,1) (ei [0,1] (ai (ai rfl (ai rfl rfl)) (ai ?_ (ai ?_ (ai ?_ (ai ?_ (ai ?_ ?_)))))))))
 ·exact (ai (ai rfl (ai rfl (ai rfl (fun _ _=>rfl)))) (ai (iE (by simp only[zz,reduceCtorEq];rfl)) (ai (ai rfl rfl) (ai rfl rfl))))
 ·exact (ai (ai rfl rfl) (ai rfl (ai rfl (ai (ai rfl rfl) (ai rfl rfl)))))
 ·exact ⟨acM _,by show 1≤17;omega,hpre⟩
 ·intro i vs hi
  show ((dQ 1 x).map yP)[0+i]?=some vs
  rw[ahv];exact hi
 ·refine ai trivial ?_
  show 0+((dQ 1 x).map yP).length=((dQ 1 x).map yP).length
  rw[ahv]
 ·exact ai trivial trivial
def avU:Spec:=bO (fun x:Ex=>[jK x]) (fun _=>True) (fun x=>.fn 262 [.pt (kN x) 0])
theorem aof:av Tryz.prog 226 avU:=by
 refine vF Tryz.func226 ?_
 rintro (x:Ex) hpre
 refine ai (ai nof ?_) trivial
 exact (ai rfl rfl)
def yh (x:Ex):Option (Nat×Nat):=if x.size≤256∧x.deep≤16 then some (x.size,x.deep) else none
def nU (x:Ex):PV:=match yh x with
 | some (n,d)=>.tup [iP n,iP d,bP true]
 | none=>.tup [iP 0,iP 0,bP false]
def maxD (l:List (Nat×Ex)):Nat:=l.foldl (fun m y=>max m y.1) 0
theorem aov (l:List (Nat×Ex)) (y:Nat×Ex):maxD (l++[y])=max (maxD l) y.1:=by unfold maxD;rw[awy];rfl
mutual
theorem agQ:∀(x:Ex) (d:Nat),x.deep+d≤17→(dQ d x).length=x.size
 | .node o i l,d,h=>by
  have h1:iy l+1+d≤17:=by rw[Ex.y7] at h;exact h
  rw[wo,arJ,Ex.size]
  unfold jh
  rw[if_pos (by omega),ai2 l (d+1) (by omega)]
theorem ai2:∀(l:List Ex) (d:Nat),iy l+d≤17→(iK d l).length=sizes l
 | [],d,h=>by rw[iK,sizes];rfl
 | x :: l,d,h=>by
  rw[iy] at h
  rw[iK,sizes,aaJ,agQ x d (by omega),ai2 l d (by omega)]
end
theorem foldl_max (l:List (Nat×Ex)):∀m,(∀y∈l,y.1≤l.foldl (fun m y=>max m y.1) m)∧m≤l.foldl (fun m y=>max m y.1) m∧(∀M,m≤M→(∀y∈l,y.1≤M)→l.foldl (fun m y=>max m y.1) m≤M):=by
 induction l with
 | nil=>intro m;simp
 | cons x l ih=>
  intro m
  obtain ⟨h1,h2,h3⟩:=ih (max m x.1)
  refine ⟨fun y hy=>?_,?_,fun M hm hM=>?_⟩
  ·rcases ajI.1 hy with rfl | hy
   ·show y.1≤l.foldl _ (max m y.1)
    exact akF (Nat.le_max_right _ _) h2
   ·exact h1 y hy
  ·exact akF (Nat.le_max_left _ _) h2
  ·exact h3 M (by have:=hM x (by simp);omega) fun y hy=>hM y (by simp[hy])
theorem maxD_eq {l:List (Nat×Ex)} {M:Nat} (h1:∀z∈l,z.1≤M) (h2:∃z∈l,z.1=M):maxD l=M:=by
 obtain ⟨g1,g2,g3⟩:=foldl_max l 0
 obtain ⟨z,hz,rfl⟩:=h2
 exact Nat.le_antisymm (g3 _ (alr _) h1) (g1 z hz)
mutual
theorem akr:∀(x:Ex) (d:Nat) (z:Nat×Ex),z∈dQ d x→z.1+1≤x.deep+d
 | .node o i l,d,z,h=>by
  rw[wo] at h
  rw[Ex.deep]
  rcases ajI.1 h with rfl | h
  ·show d+1≤_;omega
  ·unfold jh at h
   split at h
   ·have:=alY l (d+1) z h;omega
   ·simp at h
theorem alY:∀(l:List Ex) (d:Nat) (z:Nat×Ex),z∈iK d l→z.1+1≤iy l+d
 | [],d,z,h=>by rw[iK] at h;simp at h
 | x :: l,d,z,h=>by
  rw[iK] at h
  rw[iy]
  rcases acT.1 h with h | h
  ·have:=akr x d z h;omega
  ·have:=alY l d z h;omega
end
mutual
theorem ajz:∀(x:Ex) (d e:Nat),d≤e→e≤17→e+1≤x.deep+d→∃z∈dQ d x,z.1=e
 | .node o i l,d,e,h1,h2,h3=>by
  rw[Ex.deep] at h3
  rw[wo]
  by_cases he:d=e
  ·exact ⟨_,auQ,he⟩
  ·obtain ⟨z,hz,hz2⟩:=amd l (d+1) e (by omega) h2 (by omega)
   refine ⟨z,asb _ ?_,hz2⟩
   unfold jh;rw[if_pos (by omega)];exact hz
theorem amd:∀(l:List Ex) (d e:Nat),d≤e→e≤17→e+1≤iy l+d→∃z∈iK d l,z.1=e
 | [],d,e,h1,h2,h3=>by rw[iy] at h3;omega
 | x :: l,d,e,h1,h2,h3=>by
  rw[iy] at h3
  rw[iK]
  by_cases hx:e+1≤x.deep+d
  ·obtain ⟨z,hz,hz2⟩:=ajz x d e h1 h2 hx
   exact ⟨z,axV _ hz,hz2⟩
  ·obtain ⟨z,hz,hz2⟩:=amd l d e h1 h2 (by omega)
   exact ⟨z,axO _ hz,hz2⟩
end
theorem ajc (x:Ex):(∀z∈dQ 1 x,z.1≤16)↔x.deep≤16:=by
 constructor
 ·intro h
  refine Classical.byContradiction fun hn=>?_
  obtain ⟨z,hz,he⟩:=ajz x 1 17 (by omega) (by omega) (by omega)
  have:=h z hz;omega
 ·intro h z hz
  have:=akr x 1 z hz;omega
theorem ah8 {x:Ex} (h1:(dQ 1 x).length≤256) (h2:∀z∈dQ 1 x,z.1≤16):yh x=some ((dQ 1 x).length,maxD (dQ 1 x)):=by
 have hd:=(ajc x).1 h2
 have hl:=agQ x 1 (by omega)
 have hm:maxD (dQ 1 x)=x.deep:=maxD_eq (fun z hz=>by have:=akr x 1 z hz;omega) (ajz x 1 x.deep (ajV x) (by omega) (by omega))
 unfold yh
 rw[if_pos ⟨by omega,hd⟩,hl,hm]
theorem aic {x:Ex} (h:256<(dQ 1 x).length∨∃z∈dQ 1 x,16<z.1):yh x=none:=by
 unfold yh
 rw[if_neg]
 rintro ⟨h1,h2⟩
 rcases h with h | ⟨z,hz,h⟩
 ·have:=agQ x 1 (by omega);omega
 ·have:=(ajc x).2 h2 z hz;omega
theorem aoH {l:List (Nat×Ex)} {k:Nat} {vs:List PV} (h:(l.map yP)[k]?=some vs):∃d x,l[k]?=some (d,x)∧vs=[iP d,qM x]:=by
 rw[alW] at h
 cases hc:l[k]? with
 | none=>rw[hc] at h;cases h
 | some y=>
  rw[hc] at h
  simp only[arL,Option.some.injEq] at h
  exact ⟨y.1,y.2,rfl,h.symm⟩
theorem aob {l:List (Nat×Ex)}:∀v∈l.map yP,v.length=2:=fun v hv=>by
 obtain ⟨y,_,rfl⟩:=auA.1 hv;rfl
def measS:Spec:=bC (fun x:Ex=>[jK x]) (fun x=>x.size≤1000000) nU
theorem aec:av Tryz.prog 225 measS:=by
 refine vF Tryz.func225 ?_
 rintro (x:Ex) hpre
 refine cK (aof) (x) (by exact (ai rfl (ai rfl (ai rfl (fun _ _=>rfl))))) (trivial) ?_
 refine ai (ai rfl rfl) (ei preS (ai ajG (ei x (ai ?_ (ai hpre (ai aob (ei { X:=Nat,uo:=fun k=>[⟨4,3,[.s (iA k)]⟩,⟨5,3,[.s (iA (maxD ((dQ 1 x).take k):Nat))]⟩],inv:=fun k y=>y=k∧k≤256∧∀z∈(dQ 1 x).take k,z.1≤16,x0:=0 } (ai ?_ (ai ?_ (ai ?_ (ai ?_ ?_)))))))))))
 ·exact (ai rfl rfl)
 ·exact (ai rfl (ai rfl (ai rfl rfl)))
 ·exact (ai (ai (ai (fun _=>rfl) rfl) rfl) (ai (ai (ai (fun _=>rfl) rfl) rfl) trivial))
 ·exact ⟨rfl,alr _,by simp⟩
 ·rintro k (y:Nat) vs ⟨hy,hk,hall⟩ hvs
  subst hy
  obtain ⟨d,z,hg,rfl⟩:=aoH hvs
  have hs:(dQ 1 x).take (y+1)=(dQ 1 x).take y++[(d,z)]:=by rw[axC,hg];rfl
  have hyl:y<(dQ 1 x).length:=(ar0.1 hg).1
  have hw:IntKind.i64.wrap ((y:Int)+1)=((y+1:Nat):Int):=aG (by omega)
  refine ah (p:=256<y+1) (by exact aA (by rw[hw];omega)) (fun h1=>?_) (fun h1=>?_)
  ·refine eN (nU x) ?_
   rw[nU,aic (.inl (by omega))]
   exact (ai rfl (ai rfl rfl))
  refine bL (16<d) (fun h2=>?_) fun h2=>?_
  ·refine eN (nU x) ?_
   rw[nU,aic (.inr ⟨_,abu hg,h2⟩)]
   exact (ai rfl (ai rfl rfl))
  refine ei (y+1) (ai rfl (ai (ai (ai rfl rfl) (ai (ai rfl rfl) ?_)) ?_))
  ·refine ai ?_ (ai ?_ trivial)
   ·exact (ai (ai (fun _=>rfl) (aG (by omega))) rfl)
   ·refine ai (ai nof ?_) rfl
    show (if (d:Int)>_ then (d:Int) else _)=((maxD ((dQ 1 x).take (y+1)):Nat):Int)
    rw[hs,aov]
    show (if (d:Int)>((maxD ((dQ 1 x).take y):Nat):Int) then (d:Int) else _)=((max _ d:Nat):Int)
    split<;>omega
  ·refine ⟨rfl,by omega,fun w hw=>?_⟩
   rw[hs] at hw
   rcases acT.1 hw with hw | hw
   ·exact hall w hw
   ·simp at hw;subst hw;show d≤16;omega
 ·rintro (y:Nat) ⟨hy,hk,hall⟩
  have hl:(preS.xs x).length=(dQ 1 x).length:=ai1 _
  rw[hl] at hy hk hall
  subst hy
  rw[acS] at hall
  refine dR (.one 0 (.alt 1 (.one 2 (.one 3 (.one 4 .done))) (.alt 2 (.one 1 (.one 3 (.one 4 .done))) .stop))) ?_
  refine ai ?_ (ai ?_ trivial)
  ·refine eN (nU x) ?_
   rw[nU,ah8 hk hall]
   refine (ai rfl (ai ?_ rfl))
   ·show ((maxD ((dQ 1 x).take (dQ 1 x).length):Nat):Int)=_
    rw[acS]
  ·refine eN (nU x) ?_
   rw[nU,ah8 hk hall]
   refine (ai rfl (ai ?_ rfl))
   ·show ((maxD ((dQ 1 x).take (dQ 1 x).length):Nat):Int)=_
    rw[acS]
def zw (o:Int):Nat:=if o=2 then 1 else if o=3∨o=4 then 2 else 0
def acL (o:Int):Nat:=if o=2 then 1 else if o=3∨o=4 then 256 else 0
def vJ (o n:Int):Int:=if o=0 then 1 else if o=1 then n-1 else 0
def aK (x:Ex) (n:Int):Int:=
 if x.op<0∨5≤x.op then 1 else if x.args.length<zw x.op∨acL x.op<x.args.length then 3 else if x.idx<0∨vJ x.op n<x.idx then 2 else 0
def evC (v:Bool):PV:=.fn 282 [.pt [bP v] 0]
def shC:List PV:=[iP 0,iP 0,.val .nilFunc,iP 0,iP 0,.val .nilFunc,iP 1,iP 1,evC false,iP 2,iP 256,evC true,iP 2,iP 256,.fn 265 []]
def auT:Spec:=bC (fun v:Bool=>[bA v]) (fun _=>True) (fun v=>evC v)
theorem aeS:av Tryz.prog 264 auT:=by
 refine vF Tryz.func264 ?_
 rintro (v:Bool) hpre
 refine ai (ai (fun _=>trivial) ?_) trivial
 exact (ai rfl rfl)
def asw:Spec:=bC (fun _:Unit=>[]) (fun _=>True) (fun _=>.agg shC)
theorem jV:av Tryz.prog 228 asw:=by
 refine vF Tryz.func228 ?_
 rintro ⟨⟩ hpre
 refine cK (aeS) (false) (by exact rfl) (trivial) ?_
 refine cK (aeS) (true) (by exact rfl) (trivial) ?_
 refine ai (ai (fun _=>(by exact (ai trivial (ai trivial (ai trivial (ai trivial (ai trivial (ai trivial (ai trivial (ai trivial (ai trivial (ai trivial (ai trivial (ai trivial (ai trivial (ai trivial trivial)))))))))))))))) ?_) trivial
 exact (ai rfl (ai rfl (ai rfl (ai rfl (ai rfl (ai rfl (ai rfl (ai rfl (ai (ai rfl rfl) (ai rfl (ai rfl (ai (ai rfl rfl) (ai rfl (ai rfl (ai rfl rfl)))))))))))))))
def awn:Spec:=bC (fun y:Ex×Int=>[jK y.1,iA y.2]) (fun y=>y.1.args.length≤1000000∧0≤y.2∧y.2≤256) (fun y=>iP (aK y.1 y.2))
theorem asA:av Tryz.prog 227 awn:=by
 refine vF Tryz.func227 ?_
 rintro ⟨⟨o,i,l⟩,n⟩ hpre
 obtain ⟨hl,hn1,hn2⟩:=hpre
 have hl:l.length≤1000000:=hl
 have hn1:0≤n:=hn1
 have hn2:n≤256:=hn2
 refine ah (p:=o<0) (aA Iff.rfl) (fun h1=>?_) (fun h1=>?_)
 ·refine eN (iP (aK (.node o i l) n)) ?_
  rw[aK,if_pos (.inl h1)]
  exact rfl
 refine ah (p:=5≤o) (fH Iff.rfl) (fun h2=>?_) (fun h2=>?_)
 ·refine eN (iP (aK (.node o i l) n)) ?_
  rw[aK,if_pos (.inr h2)]
  exact rfl
 have hA:aK (.node o i l) n=if l.length<zw o∨acL o<l.length then 3 else if i<0∨vJ o n<i then 2 else 0:=by
  unfold aK
  rw[if_neg (by show ¬(o<0∨5≤o);omega)]
 have ho:o=0∨o=1∨o=2∨o=3∨o=4:=by omega
 rcases ho with rfl | rfl | rfl | rfl | rfl
 ·refine dR (.one 1 (.one 2 (.alt 0 (.one 3 (.one 4 (.one 5 .done))) (.alt 4 (.one 0 (.one 3 (.one 5 .done))) .stop)))) ?_
  refine ai ?_ (ai ?_ trivial)
  ·refine cK (jV) (()) (by exact trivial) (trivial) ?_
   refine ai (ai (by show (0:Int)≤0;decide) (by show (0:Int)<5;decide)) ?_
   have hA:aK (.node 0 i l) n=if l.length<0∨0<l.length then 3 else if i<0∨1<i then 2 else 0:=hA
   refine ah (p:=0<l.length) (aA (by dsimp only;omega)) (fun h4=>?_) (fun h4=>?_)
   ·refine eN (iP (aK (.node 0 i l) n)) ?_
    rw[hA,if_pos (.inr h4)]
    exact rfl
   rw[if_neg (fun h=>h.elim (aeH _) h4)] at hA
   refine ah (p:=i<0) (aA Iff.rfl) (fun h5=>?_) (fun h5=>?_)
   ·refine eN (iP (aK (.node 0 i l) n)) ?_
    rw[hA,if_pos (.inl h5)]
    exact rfl
   refine ah (p:=1<i) (by first | exact aA Iff.rfl | exact aA (by rw[kJ (n:=n-1) (by omega) (by omega)])) (fun h6=>?_) (fun h6=>?_)
   ·refine eN (iP (aK (.node 0 i l) n)) ?_
    rw[hA,if_pos (.inr h6)]
    exact rfl
   ·refine eN (iP (aK (.node 0 i l) n)) ?_
    rw[hA,if_neg (fun h=>h.elim h5 h6)]
    exact rfl
  ·refine cK (jV) (()) (by exact trivial) (trivial) ?_
   refine ai (ai (by show (0:Int)≤0;decide) (by show (0:Int)<5;decide)) ?_
   have hA:aK (.node 0 i l) n=if l.length<0∨0<l.length then 3 else if i<0∨1<i then 2 else 0:=hA
   refine ah (p:=0<l.length) (aA (by dsimp only;omega)) (fun h4=>?_) (fun h4=>?_)
   ·refine eN (iP (aK (.node 0 i l) n)) ?_
    rw[hA,if_pos (.inr h4)]
    exact rfl
   rw[if_neg (fun h=>h.elim (aeH _) h4)] at hA
   refine ah (p:=i<0) (aA Iff.rfl) (fun h5=>?_) (fun h5=>?_)
   ·refine eN (iP (aK (.node 0 i l) n)) ?_
    rw[hA,if_pos (.inl h5)]
    exact rfl
   refine ah (p:=1<i) (by first | exact aA Iff.rfl | exact aA (by rw[kJ (n:=n-1) (by omega) (by omega)])) (fun h6=>?_) (fun h6=>?_)
   ·refine eN (iP (aK (.node 0 i l) n)) ?_
    rw[hA,if_pos (.inr h6)]
    exact rfl
   ·refine eN (iP (aK (.node 0 i l) n)) ?_
    rw[hA,if_neg (fun h=>h.elim h5 h6)]
    exact rfl
 ·refine dR (.one 1 (.one 2 (.alt 0 (.one 3 (.one 4 (.one 5 .done))) (.alt 4 (.one 0 (.one 3 (.one 5 .done))) .stop)))) ?_
  refine ai ?_ (ai ?_ trivial)
  ·refine cK (jV) (()) (by exact trivial) (trivial) ?_
   refine ai (ai (by show (0:Int)≤1;decide) (by show (1:Int)<5;decide)) ?_
   have hA:aK (.node 1 i l) n=if l.length<0∨0<l.length then 3 else if i<0∨(n-1)<i then 2 else 0:=hA
   refine ah (p:=0<l.length) (aA (by dsimp only;omega)) (fun h4=>?_) (fun h4=>?_)
   ·refine eN (iP (aK (.node 1 i l) n)) ?_
    rw[hA,if_pos (.inr h4)]
    exact rfl
   rw[if_neg (fun h=>h.elim (aeH _) h4)] at hA
   refine ah (p:=i<0) (aA Iff.rfl) (fun h5=>?_) (fun h5=>?_)
   ·refine eN (iP (aK (.node 1 i l) n)) ?_
    rw[hA,if_pos (.inl h5)]
    exact rfl
   refine ah (p:=(n-1)<i) (by first | exact aA Iff.rfl | exact aA (by rw[kJ (n:=n-1) (by omega) (by omega)])) (fun h6=>?_) (fun h6=>?_)
   ·refine eN (iP (aK (.node 1 i l) n)) ?_
    rw[hA,if_pos (.inr h6)]
    exact rfl
   ·refine eN (iP (aK (.node 1 i l) n)) ?_
    rw[hA,if_neg (fun h=>h.elim h5 h6)]
    exact rfl
  ·refine cK (jV) (()) (by exact trivial) (trivial) ?_
   refine ai (ai (by show (0:Int)≤1;decide) (by show (1:Int)<5;decide)) ?_
   have hA:aK (.node 1 i l) n=if l.length<0∨0<l.length then 3 else if i<0∨(n-1)<i then 2 else 0:=hA
   refine ah (p:=0<l.length) (aA (by dsimp only;omega)) (fun h4=>?_) (fun h4=>?_)
   ·refine eN (iP (aK (.node 1 i l) n)) ?_
    rw[hA,if_pos (.inr h4)]
    exact rfl
   rw[if_neg (fun h=>h.elim (aeH _) h4)] at hA
   refine ah (p:=i<0) (aA Iff.rfl) (fun h5=>?_) (fun h5=>?_)
   ·refine eN (iP (aK (.node 1 i l) n)) ?_
    rw[hA,if_pos (.inl h5)]
    exact rfl
   refine ah (p:=(n-1)<i) (by first | exact aA Iff.rfl | exact aA (by rw[kJ (n:=n-1) (by omega) (by omega)])) (fun h6=>?_) (fun h6=>?_)
   ·refine eN (iP (aK (.node 1 i l) n)) ?_
    rw[hA,if_pos (.inr h6)]
    exact rfl
   ·refine eN (iP (aK (.node 1 i l) n)) ?_
    rw[hA,if_neg (fun h=>h.elim h5 h6)]
    exact rfl
 ·refine dR (.one 1 (.one 2 (.alt 0 (.one 3 (.one 4 (.one 5 .done))) (.alt 4 (.one 0 (.one 3 (.one 5 .done))) .stop)))) ?_
  refine ai ?_ (ai ?_ trivial)
  ·refine cK (jV) (()) (by exact trivial) (trivial) ?_
   refine ai (ai (by show (0:Int)≤2;decide) (by show (2:Int)<5;decide)) ?_
   have hA:aK (.node 2 i l) n=if l.length<1∨1<l.length then 3 else if i<0∨0<i then 2 else 0:=hA
   refine ah (p:=l.length<1) (aA (by dsimp only;omega)) (fun h3=>?_) (fun h3=>?_)
   ·refine eN (iP (aK (.node 2 i l) n)) ?_
    rw[hA,if_pos (.inl h3)]
    exact rfl
   refine ah (p:=1<l.length) (aA (by dsimp only;omega)) (fun h4=>?_) (fun h4=>?_)
   ·refine eN (iP (aK (.node 2 i l) n)) ?_
    rw[hA,if_pos (.inr h4)]
    exact rfl
   rw[if_neg (fun h=>h.elim h3 h4)] at hA
   refine ah (p:=i<0) (aA Iff.rfl) (fun h5=>?_) (fun h5=>?_)
   ·refine eN (iP (aK (.node 2 i l) n)) ?_
    rw[hA,if_pos (.inl h5)]
    exact rfl
   skip
   refine ah (p:=0<i) (aA Iff.rfl) (fun h6=>?_) (fun h6=>?_)
   ·refine eN (iP (aK (.node 2 i l) n)) ?_
    rw[hA,if_pos (.inr h6)]
    exact rfl
   ·refine eN (iP (aK (.node 2 i l) n)) ?_
    rw[hA,if_neg (fun h=>h.elim h5 h6)]
    exact rfl
  ·refine cK (jV) (()) (by exact trivial) (trivial) ?_
   refine ai (ai (by show (0:Int)≤2;decide) (by show (2:Int)<5;decide)) ?_
   have hA:aK (.node 2 i l) n=if l.length<1∨1<l.length then 3 else if i<0∨0<i then 2 else 0:=hA
   refine ah (p:=l.length<1) (aA (by dsimp only;omega)) (fun h3=>?_) (fun h3=>?_)
   ·refine eN (iP (aK (.node 2 i l) n)) ?_
    rw[hA,if_pos (.inl h3)]
    exact rfl
   refine ah (p:=1<l.length) (aA (by dsimp only;omega)) (fun h4=>?_) (fun h4=>?_)
   ·refine eN (iP (aK (.node 2 i l) n)) ?_
    rw[hA,if_pos (.inr h4)]
    exact rfl
   rw[if_neg (fun h=>h.elim h3 h4)] at hA
   refine ah (p:=i<0) (aA Iff.rfl) (fun h5=>?_) (fun h5=>?_)
   ·refine eN (iP (aK (.node 2 i l) n)) ?_
    rw[hA,if_pos (.inl h5)]
    exact rfl
   skip
   refine ah (p:=0<i) (aA Iff.rfl) (fun h6=>?_) (fun h6=>?_)
   ·refine eN (iP (aK (.node 2 i l) n)) ?_
    rw[hA,if_pos (.inr h6)]
    exact rfl
   ·refine eN (iP (aK (.node 2 i l) n)) ?_
    rw[hA,if_neg (fun h=>h.elim h5 h6)]
    exact rfl
 ·refine dR (.one 1 (.one 2 (.alt 0 (.one 3 (.one 4 (.one 5 .done))) (.alt 4 (.one 0 (.one 3 (.one 5 .done))) .stop)))) ?_
  refine ai ?_ (ai ?_ trivial)
  ·refine cK (jV) (()) (by exact trivial) (trivial) ?_
   refine ai (ai (by show (0:Int)≤3;decide) (by show (3:Int)<5;decide)) ?_
   have hA:aK (.node 3 i l) n=if l.length<2∨256<l.length then 3 else if i<0∨0<i then 2 else 0:=hA
   refine ah (p:=l.length<2) (aA (by dsimp only;omega)) (fun h3=>?_) (fun h3=>?_)
   ·refine eN (iP (aK (.node 3 i l) n)) ?_
    rw[hA,if_pos (.inl h3)]
    exact rfl
   refine ah (p:=256<l.length) (aA (by dsimp only;omega)) (fun h4=>?_) (fun h4=>?_)
   ·refine eN (iP (aK (.node 3 i l) n)) ?_
    rw[hA,if_pos (.inr h4)]
    exact rfl
   rw[if_neg (fun h=>h.elim h3 h4)] at hA
   refine ah (p:=i<0) (aA Iff.rfl) (fun h5=>?_) (fun h5=>?_)
   ·refine eN (iP (aK (.node 3 i l) n)) ?_
    rw[hA,if_pos (.inl h5)]
    exact rfl
   skip
   refine ah (p:=0<i) (aA Iff.rfl) (fun h6=>?_) (fun h6=>?_)
   ·refine eN (iP (aK (.node 3 i l) n)) ?_
    rw[hA,if_pos (.inr h6)]
    exact rfl
   ·refine eN (iP (aK (.node 3 i l) n)) ?_
    rw[hA,if_neg (fun h=>h.elim h5 h6)]
    exact rfl
  ·refine cK (jV) (()) (by exact trivial) (trivial) ?_
   refine ai (ai (by show (0:Int)≤3;decide) (by show (3:Int)<5;decide)) ?_
   have hA:aK (.node 3 i l) n=if l.length<2∨256<l.length then 3 else if i<0∨0<i then 2 else 0:=hA
   refine ah (p:=l.length<2) (aA (by dsimp only;omega)) (fun h3=>?_) (fun h3=>?_)
   ·refine eN (iP (aK (.node 3 i l) n)) ?_
    rw[hA,if_pos (.inl h3)]
    exact rfl
   refine ah (p:=256<l.length) (aA (by dsimp only;omega)) (fun h4=>?_) (fun h4=>?_)
   ·refine eN (iP (aK (.node 3 i l) n)) ?_
    rw[hA,if_pos (.inr h4)]
    exact rfl
   rw[if_neg (fun h=>h.elim h3 h4)] at hA
   refine ah (p:=i<0) (aA Iff.rfl) (fun h5=>?_) (fun h5=>?_)
   ·refine eN (iP (aK (.node 3 i l) n)) ?_
    rw[hA,if_pos (.inl h5)]
    exact rfl
   skip
   refine ah (p:=0<i) (aA Iff.rfl) (fun h6=>?_) (fun h6=>?_)
   ·refine eN (iP (aK (.node 3 i l) n)) ?_
    rw[hA,if_pos (.inr h6)]
    exact rfl
   ·refine eN (iP (aK (.node 3 i l) n)) ?_
    rw[hA,if_neg (fun h=>h.elim h5 h6)]
    exact rfl
 ·refine dR (.one 1 (.one 2 (.alt 0 (.one 3 (.one 4 (.one 5 .done))) (.alt 4 (.one 0 (.one 3 (.one 5 .done))) .stop)))) ?_
  refine ai ?_ (ai ?_ trivial)
  ·refine cK (jV) (()) (by exact trivial) (trivial) ?_
   refine ai (ai (by show (0:Int)≤4;decide) (by show (4:Int)<5;decide)) ?_
   have hA:aK (.node 4 i l) n=if l.length<2∨256<l.length then 3 else if i<0∨0<i then 2 else 0:=hA
   refine ah (p:=l.length<2) (aA (by dsimp only;omega)) (fun h3=>?_) (fun h3=>?_)
   ·refine eN (iP (aK (.node 4 i l) n)) ?_
    rw[hA,if_pos (.inl h3)]
    exact rfl
   refine ah (p:=256<l.length) (aA (by dsimp only;omega)) (fun h4=>?_) (fun h4=>?_)
   ·refine eN (iP (aK (.node 4 i l) n)) ?_
    rw[hA,if_pos (.inr h4)]
    exact rfl
   rw[if_neg (fun h=>h.elim h3 h4)] at hA
   refine ah (p:=i<0) (aA Iff.rfl) (fun h5=>?_) (fun h5=>?_)
   ·refine eN (iP (aK (.node 4 i l) n)) ?_
    rw[hA,if_pos (.inl h5)]
    exact rfl
   skip
   refine ah (p:=0<i) (aA Iff.rfl) (fun h6=>?_) (fun h6=>?_)
   ·refine eN (iP (aK (.node 4 i l) n)) ?_
    rw[hA,if_pos (.inr h6)]
    exact rfl
   ·refine eN (iP (aK (.node 4 i l) n)) ?_
    rw[hA,if_neg (fun h=>h.elim h5 h6)]
    exact rfl
  ·refine cK (jV) (()) (by exact trivial) (trivial) ?_
   refine ai (ai (by show (0:Int)≤4;decide) (by show (4:Int)<5;decide)) ?_
   have hA:aK (.node 4 i l) n=if l.length<2∨256<l.length then 3 else if i<0∨0<i then 2 else 0:=hA
   refine ah (p:=l.length<2) (aA (by dsimp only;omega)) (fun h3=>?_) (fun h3=>?_)
   ·refine eN (iP (aK (.node 4 i l) n)) ?_
    rw[hA,if_pos (.inl h3)]
    exact rfl
   refine ah (p:=256<l.length) (aA (by dsimp only;omega)) (fun h4=>?_) (fun h4=>?_)
   ·refine eN (iP (aK (.node 4 i l) n)) ?_
    rw[hA,if_pos (.inr h4)]
    exact rfl
   rw[if_neg (fun h=>h.elim h3 h4)] at hA
   refine ah (p:=i<0) (aA Iff.rfl) (fun h5=>?_) (fun h5=>?_)
   ·refine eN (iP (aK (.node 4 i l) n)) ?_
    rw[hA,if_pos (.inl h5)]
    exact rfl
   skip
   refine ah (p:=0<i) (aA Iff.rfl) (fun h6=>?_) (fun h6=>?_)
   ·refine eN (iP (aK (.node 4 i l) n)) ?_
    rw[hA,if_pos (.inr h6)]
    exact rfl
   ·refine eN (iP (aK (.node 4 i l) n)) ?_
    rw[hA,if_neg (fun h=>h.elim h5 h6)]
    exact rfl
def fF (l:List (Nat×Ex)) (n:Int):Int:=((l.map fun y=>aK y.2 n).find? (fun e=>e != 0)).getD 0
def bg (x:Ex) (n:Int):Int:=if n<0∨256<n then 2 else if x.size≤256∧x.deep≤16 then fF (dQ 1 x) n else 5
theorem ahp {α:Type} {p:α→Bool}:∀{l:List α} {k:Nat},(∀j,j<k→∀y,l[j]?=some y→p y=false)→∀{y:α},l[k]?=some y→p y=true→l.find? p=some y
 | [],k,_,y,h,_=>by simp at h
 | z :: l,0,_,y,h,hp=>by simp at h;subst h;simp[hp]
 | z :: l,k+1,hs,y,h,hp=>by
  have h0:=hs 0 (by omega) z rfl
  rw[List.find?_cons,h0]
  exact ahp (k:=k) (fun j hj y hy=>hs (j+1) (by omega) y (by simpa using hy)) (by simpa using h) hp
theorem ahE {l:List (Nat×Ex)} {n:Int} {k d:Nat} {x:Ex} (h0:∀z∈l.take k,aK z.2 n=0) (h:l[k]?=some (d,x)) (hn:aK x n≠0):fF l n=aK x n:=by
 unfold fF
 rw[ahp (k:=k) (y:=aK x n)]
 ·rfl
 ·intro j hj y hy
  rw[alW] at hy
  cases hc:l[j]? with
  | none=>rw[hc] at hy;simp at hy
  | some z=>
   rw[hc] at hy;simp at hy;subst hy
   have:z∈l.take k:=by
    have:(l.take k)[j]?=some z:=by rw[ar8];simp[hj,hc]
    exact abu this
   simp[h0 z this]
 ·rw[alW,h];rfl
 ·simpa using hn
theorem aa8 {l:List (Nat×Ex)} {n:Int} (h0:∀z∈l,aK z.2 n=0):fF l n=0:=by
 unfold fF
 rw[ax1.2]
 ·rfl
 ·intro y hy
  obtain ⟨z,hz,rfl⟩:=auA.1 hy
  simp[h0 z hz]
theorem afA {l:List (Nat×Ex)} {n:Int}:fF l n=0↔∀z∈l,aK z.2 n=0:=by
 constructor
 ·intro h z hz
  refine Classical.byContradiction fun hne=>?_
  unfold fF at h
  cases hf:(l.map fun y=>aK y.2 n).find? (fun e=>e != 0) with
  | none=>
   have:=ax1.1 hf (aK z.2 n) (List.mem_map_of_mem hz)
   simp at this;exact hne this
  | some e=>
   rw[hf] at h
   have:=List.find?_some hf
   simp at h;simp[h] at this
 ·exact aa8
mutual
theorem akH:∀(x:Ex) (d:Nat) (z:Nat×Ex),z∈dQ d x→z.2.size≤x.size
 | .node o i l,d,z,h=>by
  rw[wo] at h
  rcases ajI.1 h with rfl | h
  ·exact acM _
  ·unfold jh at h
   rw[Ex.size]
   split at h
   ·have:=ahM l (d+1) z h;omega
   ·simp at h
theorem ahM:∀(l:List Ex) (d:Nat) (z:Nat×Ex),z∈iK d l→z.2.size≤sizes l
 | [],d,z,h=>by rw[iK] at h;simp at h
 | x :: l,d,z,h=>by
  rw[iK] at h
  rw[sizes]
  rcases acT.1 h with h | h
  ·have:=akH x d z h;omega
  ·have:=ahM l d z h;omega
end
theorem abE (x:Ex):x.args.length<x.size:=by rw[x.size_eq];have:=pK x.args;omega
def at7:Spec:=bC (fun y:Ex×Int=>[jK y.1,iA y.2]) (fun y=>y.1.size≤1000000) (fun y=>iP (bg y.1 y.2))
theorem qX:av Tryz.prog 179 at7:=by
 refine vF Tryz.func179 ?_
 rintro ⟨x,n⟩ hpre
 have hpre:x.size≤1000000:=hpre
 refine bL (n<0) (fun h1=>?_) fun h1=>?_
 ·refine eN (iP (bg x n)) ?_
  rw[bg,if_pos (.inl h1)]
  exact rfl
 refine bL (256<n) (fun h2=>?_) fun h2=>?_
 ·refine eN (iP (bg x n)) ?_
  rw[bg,if_pos (.inr h2)]
  exact rfl
 have hA:bg x n=if x.size≤256∧x.deep≤16 then fF (dQ 1 x) n else 5:=by
  unfold bg;rw[if_neg (fun h=>h.elim h1 h2)]
 by_cases hm:x.size≤256∧x.deep≤16
 ·have e1:nU x=.tup [iP x.size,iP x.deep,bP true]:=by unfold nU yh;rw[if_pos hm]
  rw[if_pos hm] at hA
  refine cK ((vk aec x hpre e1)) (()) (by exact (ai rfl (ai rfl (ai rfl (fun _ _=>rfl))))) (trivial) ?_
  refine cK (aof) (x) (by exact (ai rfl (ai rfl (ai rfl (fun _ _=>rfl))))) (trivial) ?_
  refine ai (ai rfl rfl) (ei preS (ai ajG (ei x (ai ?_ (ai hpre (ai aob (ei { X:=Nat,uo:=fun k=>[],inv:=fun k y=>y=k∧∀z∈(dQ 1 x).take k,aK z.2 n=0,x0:=0 } (ai ?_ (ai ?_ (ai ?_ (ai ?_ ?_)))))))))))
  ·exact (ai rfl rfl)
  ·exact (ai rfl (ai rfl (ai rfl rfl)))
  ·exact trivial
  ·exact ⟨rfl,by simp⟩
  ·rintro k (y:Nat) vs ⟨hy,hall⟩ hvs
   subst hy
   obtain ⟨d,z,hg,rfl⟩:=aoH hvs
   have hz:=abu hg
   have hzs:z.size≤x.size:=akH x 1 _ hz
   have hza:=abE z
   refine cK (asA) ((z,n)) (by exact (ai (ai rfl (ai rfl (ai rfl (fun _ _=>rfl)))) rfl)) (⟨by show z.args.length≤1000000;omega,by show 0≤n;omega,by show n≤256;omega⟩) ?_
   refine aW (p:=aK z n=0) (bn (by dsimp only;omega)) (fun h3=>?_) (fun h3=>?_)
   ·refine eN (iP (bg x n)) ?_
    rw[hA,ahE hall hg h3]
    exact rfl
   refine ei (y+1) (ai rfl (ai (ai (ai rfl rfl) (ai (ai rfl rfl) ?_)) ⟨rfl,?_⟩))
   ·exact trivial
   ·intro w hw
    have hs:(dQ 1 x).take (y+1)=(dQ 1 x).take y++[(d,z)]:=by rw[axC,hg];rfl
    rw[hs] at hw
    rcases acT.1 hw with hw | hw
    ·exact hall w hw
    ·simp at hw;subst hw;exact h3
  ·rintro (y:Nat) ⟨hy,hall⟩
   have hl:(preS.xs x).length=(dQ 1 x).length:=ai1 _
   rw[hl] at hy hall
   subst hy
   rw[acS] at hall
   refine eN (iP (bg x n)) ?_
   rw[hA,aa8 hall]
   exact rfl
 ·have e1:nU x=.tup [iP 0,iP 0,bP false]:=by unfold nU yh;rw[if_neg hm]
  rw[if_neg hm] at hA
  refine cK ((vk aec x hpre e1)) (()) (by exact (ai rfl (ai rfl (ai rfl (fun _ _=>rfl))))) (trivial) ?_
  refine eN (iP (bg x n)) ?_
  rw[hA]
  exact rfl
mutual
def gK (vs:List Bool):Ex→Bool
 | .node o i l=>if o=0 then decide (i=1) else if o=1 then vs.getD i.toNat false else if o=2 then (acI vs l).all (·==false) else if o=3 then (acI vs l).all (·==true) else !(acI vs l).all (·==false)
def acI (vs:List Bool):List Ex→List Bool
 | []=>[]
 | x :: l=>gK vs x :: acI vs l
end
theorem ah1 (vs:List Bool):∀l:List Ex,acI vs l=l.map (gK vs)
 | []=>by rw[acI];rfl
 | x :: l=>by rw[acI,ah1 vs l];rfl
theorem asN (vs:List Bool) (o i:Int) (l:List Ex):gK vs (.node o i l)=if o=0 then decide (i=1) else if o=1 then vs.getD i.toNat false else if o=2 then (l.map (gK vs)).all (·==false) else if o=3 then (l.map (gK vs)).all (·==true) else !(l.map (gK vs)).all (·==false):=by
 rw[gK,ah1]
mutual
def kD (n:Int):Ex→Prop
 | .node o i l=>aK (.node o i l) n=0∧w9 n l
def w9 (n:Int):List Ex→Prop
 | []=>True
 | x :: l=>kD n x∧w9 n l
end
theorem af3 (n:Int):∀l:List Ex,w9 n l↔∀x∈l,kD n x
 | []=>by rw[w9];simp
 | x :: l=>by rw[w9,af3 n l];simp
theorem rz (n:Int) (x:Ex):kD n x↔aK x n=0∧∀y∈x.args,kD n y:=by
 cases x;rw[kD,af3]
mutual
theorem aiT (n:Int):∀(x:Ex) (d:Nat),x.deep+d≤17→((∀z∈dQ d x,aK z.2 n=0)↔kD n x)
 | .node o i l,d,h=>by
  rw[Ex.deep] at h
  rw[wo,kD]
  unfold jh
  rw[if_pos (by omega),←ahC n l (d+1) (by omega)]
  constructor
  ·exact fun h=>⟨h _ auQ,fun z hz=>h z (asb _ hz)⟩
  ·rintro ⟨h1,h2⟩ z hz
   rcases ajI.1 hz with rfl | hz
   ·exact h1
   ·exact h2 z hz
theorem ahC (n:Int):∀(l:List Ex) (d:Nat),iy l+d≤17→((∀z∈iK d l,aK z.2 n=0)↔w9 n l)
 | [],d,h=>by rw[iK,w9];simp
 | x :: l,d,h=>by
  rw[iy] at h
  rw[iK,w9,←aiT n x d (by omega),←ahC n l d (by omega)]
  constructor
  ·exact fun h=>⟨fun z hz=>h z (axV _ hz),fun z hz=>h z (axO _ hz)⟩
  ·rintro ⟨h1,h2⟩ z hz
   rcases acT.1 hz with hz | hz
   ·exact h1 z hz
   ·exact h2 z hz
end
theorem gN {x:Ex} {n:Int}:bg x n=0↔(0≤n∧n≤256)∧(x.size≤256∧x.deep≤16)∧kD n x:=by
 unfold bg
 by_cases h1:n<0∨256<n
 ·rw[if_pos h1]
  constructor
  ·intro h;exact absurd h (by decide)
  ·rintro ⟨h,_⟩;omega
 ·rw[if_neg h1]
  by_cases h2:x.size≤256∧x.deep≤16
  ·rw[if_pos h2,afA,aiT n x 1 (by omega)]
   exact ⟨fun h=>⟨by omega,h2,h⟩,fun h=>h.2.2⟩
  ·rw[if_neg h2]
   constructor
   ·intro h;exact absurd h (by decide)
   ·rintro ⟨_,h,_⟩;exact absurd h h2
def aiB (a:Ex×List Bool):Prop:=kD a.2.length a.1∧a.1.size≤256∧a.2.length≤256
def evS:Spec:=bC (fun a:Ex×List Bool=>[jK a.1,qh a.2]) aiB (fun a=>bP (gK a.2 a.1))
def evN (n:Nat):Spec:={ evS with pre:=fun a=>evS.pre a∧a.1.size≤n }
def ar1 (a:Ex×List Bool):PV:=.fn 229 [.pt (kN a.1) 0,.pt [iR a.2] 0]
def af9 (n:Nat):uQ:={ A:=Ex×List Bool,capt:=fun a=>[.pt (kN a.1) 0,.pt [iR a.2] 0],pre:=fun a=>aiB a∧a.1.size≤n+1,xs:=fun a=>a.1.args.map fun y=>[bP (gK a.2 y)] }
theorem apL (n:Nat) (ih:av Tryz.prog 180 (evN n)):agl Tryz.prog 229 (af9 n):=by
 refine avO (Tb:=tab) mixed fQ Tryz.func229 rfl rfl ?_
 rintro (a:Ex×List Bool) hpre
 refine ai rfl ?_
 obtain ⟨⟨hg,hs,hv⟩,hn⟩:=hpre
 have hn:a.1.size≤n+1:=hn
 have hal:=abE a.1
 intro l
 refine ei (mK.inv { X:=Nat,up:=fun k=>[(9,.s (iA k))],uo:=fun _=>[],inv:=fun k=>k≤a.1.args.length,meas:=fun k=>a.1.args.length-k,x0:=0,cnt:=fun k=>some k }) ?_
 refine ai (ai (ai (by exact (a4 (ai rfl rfl))) (by exact (ai (ai (ai (fun _=>rfl) rfl) rfl) trivial))) rfl) (ai ?_ ?_)
 ·exact alr _
 intro (k:Nat) (hk:k≤a.1.args.length)
 refine bL (k<a.1.args.length) (fun h1=>?_) fun h1=>?_
 ·refine ai (ai (abw _) (by show (k:Int)<(a.1.args.length:Int);omega)) ?_
  have hy:a.1.args.getD k bK∈a.1.args:=abu (acu h1)
  have hys:(a.1.args.getD k bK).size≤n:=by have:=jy hy;have:=a.1.size_eq;omega
  refine ai rfl ?_
  refine cK (ih) ((a.1.args.getD k bK,a.2)) (by exact (ai (ai (iE (by simp only[zz,reduceCtorEq])) (ai (iE (by simp only[zz,reduceCtorEq])) (ai rfl (xX _)))) (ai rfl (fun _ _=>rfl)))) (ai ⟨((rz _ _).1 hg).2 _ hy,by show (a.1.args.getD k bK).size≤256;have:=jy hy;have:=a.1.size_eq;omega,hv⟩ hys) ?_
  refine ai rfl (ei [bP (gK a.2 (a.1.args.getD k bK))] (ai ?_ (ai ?_ (ai ?_ ?_))))
  ·show (a.1.args.map fun y=>[bP (gK a.2 y)])[k]?=_
   rw[alW,acu h1];rfl
  ·exact (ai trivial rfl)
  ·refine ei (k+1) (ai (ai rfl rfl) (ai (ai ?_ ?_) (ai ?_ ?_)))
   ·exact (ai rfl (ai (ai rfl rfl) (ai (ai rfl rfl) (ai (ai (ai (fun _=>rfl) (aG (by omega))) rfl) trivial))))
   ·rfl
   ·show k+1≤a.1.args.length;omega
   ·show a.1.args.length-(k+1)<a.1.args.length-k;omega
  ·exact ai trivial trivial
 ·obtain rfl:k=a.1.args.length:=by omega
  refine ai trivial ?_
  show a.1.args.length=(a.1.args.map fun y=>[bP (gK a.2 y)]).length
  simp
def asJ (n:Nat):Spec:=bC (fun b:(Ex×List Bool)×Bool=>[.p false (ar1 b.1),.p false (.pt [bP b.2] 0)]) (fun b=>aiB b.1∧b.1.1.size≤n+1) (fun b=>bP ((b.1.1.args.map (gK b.1.2)).all (·==b.2)))
theorem asZ {l:List Bool} {v x:Bool} {k:Nat} (h:l[k]?=some x) (hx:x≠v):l.all (·==v)=false:=by
 rw[auy]
 exact ⟨x,abu h,by simpa using hx⟩
theorem adh (n:Nat) (ih:av Tryz.prog 180 (evN n)):av Tryz.prog 282 (asJ n):=by
 refine vF Tryz.func282 ?_
 rintro (b:(Ex×List Bool)×Bool) hpre
 have hlen:∀w∈(af9 n).xs b.1,w.length=1:=fun w hw=>by obtain ⟨y,_,rfl⟩:=auA.1 hw;rfl
 refine ai (ai rfl rfl) (ei (af9 n) (ai (apL n ih) (ei b.1 (ai ?_ (ai hpre (ai hlen (ei { X:=Nat,uo:=fun k=>[],inv:=fun k y=>y=k∧∀z∈(b.1.1.args.map (gK b.1.2)).take k,z=b.2,x0:=0 } (ai ?_ (ai ?_ (ai ?_ (ai ?_ ?_)))))))))))
 ·exact (ai (ai rfl rfl) (ai rfl rfl))
 ·exact (ai rfl (ai rfl (ai rfl rfl)))
 ·exact trivial
 ·exact ⟨rfl,by simp⟩
 ·rintro k (y:Nat) vs ⟨hy,hall⟩ hvs
  subst hy
  have hvs:(b.1.1.args.map fun y=>[bP (gK b.1.2 y)])[y]?=some vs:=hvs
  rw[alW] at hvs
  cases hc:b.1.1.args[y]? with
  | none=>rw[hc] at hvs;cases hvs
  | some c=>
   rw[hc] at hvs
   simp only[arL,Option.some.injEq] at hvs
   subst hvs
   have hg:(b.1.1.args.map (gK b.1.2))[y]?=some (gK b.1.2 c):=by rw[alW,hc];rfl
   refine aW (p:=gK b.1.2 c=b.2) (by exact (auc.1 rfl).trans bne_iff_ne) (fun h3=>?_) (fun h3=>?_)
   ·refine eN (bP ((b.1.1.args.map (gK b.1.2)).all (·==b.2))) ?_
    rw[asZ hg h3]
    exact rfl
   refine ei (y+1) (ai rfl (ai (ai (ai rfl rfl) (ai (ai rfl rfl) ?_)) ⟨rfl,?_⟩))
   ·exact trivial
   ·intro w hw
    rw[axC,hg] at hw
    rcases acT.1 hw with hw | hw
    ·exact hall w hw
    ·simp at hw;subst hw;exact h3
 ·rintro (y:Nat) ⟨hy,hall⟩
  have hl:((af9 n).xs b.1).length=(b.1.1.args.map (gK b.1.2)).length:=(ai1 _).trans (ai1 _).symm
  rw[hl] at hy hall
  subst hy
  rw[acS] at hall
  refine eN (bP ((b.1.1.args.map (gK b.1.2)).all (·==b.2))) ?_
  rw[aoP.2 (fun z hz=>by simp[hall z hz])]
  exact rfl
def asQ (n:Nat):Spec:=bC (fun b:Ex×List Bool=>[.p false (ar1 b)]) (fun b=>aiB b∧b.1.size≤n+1) (fun b=>bP (!(b.1.args.map (gK b.2)).all (·==false)))
theorem ao5 (n:Nat) (ih:av Tryz.prog 180 (evN n)):av Tryz.prog 265 (asQ n):=by
 refine vF Tryz.func265 ?_
 rintro (b:Ex×List Bool) hpre
 refine cK (aeS) (false) (by exact rfl) (trivial) ?_
 refine cK (adh n ih) ((b,false)) (by exact (ai (ai rfl rfl) (ai rfl rfl))) (hpre) ?_
 refine eN _ ?_
 exact rfl
theorem vB {x:Ex} {n:Int} (h:aK x n=0):(0≤x.op∧x.op<5)∧(zw x.op≤x.args.length∧x.args.length≤acL x.op)∧(0≤x.idx∧x.idx≤vJ x.op n):=by
 unfold aK at h
 split at h
 ·exact absurd h (by decide)
 ·split at h
  ·exact absurd h (by decide)
  ·split at h
   ·exact absurd h (by decide)
   ·omega
theorem ao4:∀n,av Tryz.prog 180 (evN n)
 | 0=>by
  refine vI [3000024] Tryz.func180 ?_
  rintro (a:Ex×List Bool) hpre
  have:=size_pos a.1
  exact absurd hpre.2 (by show ¬a.1.size≤0;omega)
 | n+1=>by
  have ih:=ao4 n
  refine vI [3000024] Tryz.func180 ?_
  rintro (a:Ex×List Bool) hpre
  obtain ⟨hev,hn⟩:=hpre
  have hg:kD a.2.length a.1:=hev.1
  obtain ⟨hn0,-⟩:=(rz _ _).1 hg
  obtain ⟨ho,-,hi⟩:=vB hn0
  have hA:gK a.2 a.1=if a.1.op=0 then decide (a.1.idx=1) else if a.1.op=1 then a.2.getD a.1.idx.toNat false else if a.1.op=2 then (a.1.args.map (gK a.2)).all (·==false) else if a.1.op=3 then (a.1.args.map (gK a.2)).all (·==true) else !(a.1.args.map (gK a.2)).all (·==false):=by
   obtain ⟨⟨o,i,l⟩,vs⟩:=a;exact asN vs o i l
  refine bE (a.1.op=0) (fun h0=>?_) fun h0=>?_
  ·refine eN (bP (gK a.2 a.1)) ?_
   rw[hA,if_pos h0]
   exact rfl
  rw[if_neg h0] at hA
  refine bE (a.1.op=1) (fun h1=>?_) fun h1=>?_
  ·have ht:vJ a.1.op a.2.length=a.2.length-1:=by rw[h1];rfl
   rw[ht] at hi
   refine ai (ai hi.1 (by show a.1.idx<(a.2.length:Int);omega)) ?_
   refine ai rfl ?_
   refine eN (bP (gK a.2 a.1)) ?_
   rw[hA,if_pos h1]
   exact rfl
  rw[if_neg h1] at hA
  obtain ⟨⟨o,i,l⟩,vs⟩:=a
  have hA:gK vs (.node o i l)=if o=2 then (l.map (gK vs)).all (·==false) else if o=3 then (l.map (gK vs)).all (·==true) else !(l.map (gK vs)).all (·==false):=hA
  have ho2:o=2∨o=3∨o=4:=by
   have h0:¬o=0:=h0
   have h1:¬o=1:=h1
   have ho:0≤o∧o<5:=ho
   omega
  refine dR (.seq [1,2,5,0,3,4,6,7]) ?_
  rcases ho2 with rfl | rfl | rfl
  ·refine cK (jV) (()) (by exact trivial) (trivial) ?_
   refine ai ho ?_
   refine cK (adh n ih) (((.node 2 i l,vs),false)) (by exact (ai (ai rfl rfl) (ai rfl rfl))) (ai hev hn) ?_
   refine eN (bP (gK vs (.node 2 i l))) ?_
   rw[hA,if_pos rfl]
   exact rfl
  ·refine cK (jV) (()) (by exact trivial) (trivial) ?_
   refine ai ho ?_
   refine cK (adh n ih) (((.node 3 i l,vs),true)) (by exact (ai (ai rfl rfl) (ai rfl rfl))) (ai hev hn) ?_
   refine eN (bP (gK vs (.node 3 i l))) ?_
   rw[hA,if_neg (show ¬(3:Int)=2 by decide),if_pos rfl]
   exact rfl
  ·refine cK (jV) (()) (by exact trivial) (trivial) ?_
   refine ai ho ?_
   refine cK (ao5 n ih) ((.node 4 i l,vs)) (by exact (ai rfl rfl)) (ai hev hn) ?_
   refine eN (bP (gK vs (.node 4 i l))) ?_
   rw[hA,if_neg (show ¬(4:Int)=2 by decide),if_neg (show ¬(4:Int)=3 by decide)]
   exact rfl
theorem atP:av Tryz.prog 180 evS:=nL (fun a=>a.1.size) ao4
def eO (x:Ex) (vs:List Bool):Bool×Int:=if bg x vs.length=0 then (gK vs x,0) else (false,bg x vs.length)
def awx:Spec:=bC (fun a:Ex×List Bool=>[jK a.1,qh a.2]) (fun a=>a.1.size≤1000000) (fun a=>.tup [bP (eO a.1 a.2).1,iP (eO a.1 a.2).2])
theorem wH:av Tryz.prog 122 awx:=by
 refine vF Tryz.func122 ?_
 rintro (a:Ex×List Bool) hpre
 refine cK (qX) ((a.1,(a.2.length:Int))) (by exact (ai (ai rfl (ai rfl (ai rfl (fun _ _=>rfl)))) rfl)) (hpre) ?_
 refine aW (p:=bg a.1 a.2.length=0) (bn (by dsimp only;omega)) (fun h1=>?_) (fun h1=>?_)
 ·have e:eO a.1 a.2=(false,bg a.1 a.2.length):=if_neg h1
  refine eN (.tup [bP (eO a.1 a.2).1,iP (eO a.1 a.2).2]) ?_
  rw[e]
  exact (ai rfl rfl)
 have e:eO a.1 a.2=(gK a.2 a.1,0):=if_pos h1
 obtain ⟨h2,h3,h4⟩:=gN.1 h1
 refine cK (atP) (a) (by exact (ai (ai rfl (ai rfl (ai rfl (fun _ _=>rfl)))) (ai rfl (fun _ _=>rfl)))) (⟨h4,h3.1,by omega⟩) ?_
 refine eN (.tup [bP (eO a.1 a.2).1,iP (eO a.1 a.2).2]) ?_
 rw[e]
 exact (ai rfl rfl)
theorem rM:∀(a b:List Ex),sizes (a++b)=sizes a+sizes b
 | [],b=>by rw[sizes,List.nil_append];omega
 | x :: a,b=>by rw[List.cons_append,sizes,sizes,rM a b];omega
theorem aga {l:List Ex} {k:Nat} (h:k<l.length):sizes (l.take (k+1))=sizes (l.take k)+(l.getD k bK).size:=by
 rw[aR bK h,rM];show _+(_+sizes [])=_;rw[sizes];rfl
theorem anm (l:List Ex) (k:Nat):sizes (l.take k)≤sizes l:=by
 conv=>rhs;rw[←axu k l,rM]
 omega
def akN:Spec:=bC (fun a:Ex×Nat=>[jK a.1,iA a.2]) (fun a=>a.2≤1000000) (fun a=>iP (min a.1.size (a.2+1):Nat))
def auj (n:Nat):Spec:={ akN with pre:=fun a=>akN.pre a∧a.1.size≤n }
theorem alu:∀n,av Tryz.prog 142 (auj n)
 | 0=>by
  refine vF Tryz.func142 ?_
  rintro (a:Ex×Nat) hpre
  have:=size_pos a.1
  exact absurd hpre.2 (by show ¬a.1.size≤0;omega)
 | n+1=>by
  have ih:=alu n
  refine vF Tryz.func142 ?_
  rintro (a:Ex×Nat) hpre
  obtain ⟨hm,hn⟩:=hpre
  have hm:a.2≤1000000:=hm
  have hn:a.1.size≤n+1:=hn
  have hsz:=a.1.size_eq
  refine ei (mK.inv { X:=Nat,up:=fun k=>[(6,.s (iA k)),(5,.s (iA (min (1+sizes (a.1.args.take k)) (a.2+1):Nat)))],uo:=fun _=>[],inv:=fun k=>k≤a.1.args.length∧k≤sizes (a.1.args.take k)∧k≤a.2,meas:=fun k=>a.2-k,x0:=0 }) ?_
  refine ai (ai (ai (by exact (a4 (ai rfl rfl))) (ai ?_ ?_)) ?_) (ai ?_ ?_)
  ·exact (ai (ai (ai (fun _=>rfl) (iE (by simp only[zz,reduceCtorEq];rfl))) rfl) (ai (ai (fun _=>rfl) (iE (by simp only[zz,reduceCtorEq];rfl))) rfl))
  ·exact trivial
  ·exact rfl
  ·exact ⟨alr _,alr _,alr _⟩
  rintro (k:Nat) ⟨hk1,hk2,hk3⟩
  refine bL (k<a.1.args.length) (fun h1=>?_) fun h1=>?_
  ·refine ah (p:=1+sizes (a.1.args.take k)≤a.2) (by exact fH (by show ((min (1+sizes (a.1.args.take k)) (a.2+1):Nat):Int)≤(a.2:Int)↔_;omega)) (fun h2=>?_) (fun h2=>?_)
   ·refine ai (ai (abw _) (by show (k:Int)<(a.1.args.length:Int);omega)) ?_
    refine ai rfl ?_
    have e1:min (1+sizes (a.1.args.take k)) (a.2+1)=1+sizes (a.1.args.take k):=by omega
    have hw:IntKind.i64.wrap ((a.2:Int)-((min (1+sizes (a.1.args.take k)) (a.2+1):Nat):Int))=((a.2-(1+sizes (a.1.args.take k)):Nat):Int):=by
     rw[e1,kJ (by omega) (by omega)];omega
    have hy:a.1.args.getD k bK∈a.1.args:=abu (acu h1)
    have hys:(a.1.args.getD k bK).size≤n:=by have:=jy hy;omega
    refine cK (ih) ((a.1.args.getD k bK,a.2-(1+sizes (a.1.args.take k)))) (by exact (ai (ai (iE (by simp only[zz,reduceCtorEq])) (ai (iE (by simp only[zz,reduceCtorEq])) (ai rfl (xX _)))) (iE (by simp only[zz,reduceCtorEq];omega)))) (ai (by show a.2-(1+sizes (a.1.args.take k))≤1000000;omega) hys) ?_
    refine ei ((k+1)) (ai (ai rfl rfl) (ai (ai ?_ ?_) (ai ?_ ?_)))
    ·refine (ai rfl (ai (ai rfl rfl) (ai (ai rfl rfl) (ai (ai (ai (ai (fun _=>rfl) (aG (by omega))) rfl) (ai (ai (fun _=>rfl) ?_) rfl)) trivial))))
     show IntKind.i64.wrap (((min (1+sizes (a.1.args.take k)) (a.2+1):Nat):Int)+((min (a.1.args.getD k bK).size (a.2-(1+sizes (a.1.args.take k))+1):Nat):Int))=_
     rw[kJ (by omega) (by omega),aga h1];omega
    ·exact rfl
    ·have:=size_pos (a.1.args.getD k bK)
     exact ⟨h1,by rw[aga h1];omega,by omega⟩
    ·show a.2-(k+1)<a.2-k;omega
   ·have:=anm a.1.args k
    refine eN (iP (min a.1.size (a.2+1):Nat)) ?_
    rw[show min a.1.size (a.2+1)=min (1+sizes (a.1.args.take k)) (a.2+1) by omega]
    exact rfl
  ·obtain rfl:k=a.1.args.length:=by omega
   rw[acS] at hk2
   refine eN (iP (min a.1.size (a.2+1):Nat)) ?_
   rw[show min a.1.size (a.2+1)=min (1+sizes (a.1.args.take a.1.args.length)) (a.2+1) by rw[acS];omega]
   exact rfl
theorem aiS:av Tryz.prog 142 akN:=nL (fun a=>a.1.size) alu
def amv:Spec:=bC (fun a:Ex×Int=>[jK a.1,iA a.2]) (fun a=>a.2≤1000000∧a.1.size≤1000000) (fun a=>bP (decide ((a.1.deep:Int)≤a.2)))
def avY (n:Nat):Spec:={ amv with pre:=fun a=>amv.pre a∧a.1.size≤n }
theorem arp {l:List Ex} {m:Nat} (h:∀x∈l,x.deep≤m):iy l≤m:=by
 induction l with
 | nil=>rw[iy];omega
 | cons x l ih=>
  rw[iy]
  have:=h x (by simp)
  have:=ih fun y hy=>h y (by simp[hy])
  omega
theorem ap2 (x:Ex):decide ((x.deep:Int)≤1)=((x.args.length:Int)==0):=by
 have hde:=x.y7
 cases hl:x.args with
 | nil=>rw[hl,iy] at hde;rw[hde];rfl
 | cons y l=>
  rw[hl,iy] at hde
  have:=ajV y
  rw[decide_eq_false (by omega)]
  symm;rw[beq_eq_false_iff_ne];simp;omega
theorem ao3:∀n,av Tryz.prog 143 (avY n)
 | 0=>by
  refine vF Tryz.func143 ?_
  rintro (a:Ex×Int) hpre
  have:=size_pos a.1
  exact absurd hpre.2 (by show ¬a.1.size≤0;omega)
 | n+1=>by
  have ih:=ao3 n
  refine vF Tryz.func143 ?_
  rintro (a:Ex×Int) hpre
  obtain ⟨hm,hn⟩:=hpre
  have hm1:a.2≤1000000:=hm.1
  have hm2:a.1.size≤1000000:=hm.2
  have hn:a.1.size≤n+1:=hn
  have hsz:=a.1.size_eq
  have hde:=a.1.y7
  refine bL (a.2<1) (fun h1=>?_) fun h1=>?_
  ·refine eN (bP (decide ((a.1.deep:Int)≤a.2))) ?_
   rw[show decide ((a.1.deep:Int)≤a.2)=false from decide_eq_false (by omega)]
   exact rfl
  refine bE (a.2=1) (fun h2=>?_) fun h2=>?_
  ·refine eN (bP (decide ((a.1.deep:Int)≤a.2))) ?_
   rw[show decide ((a.1.deep:Int)≤a.2)=((a.1.args.length:Int)==0) by rw[h2];exact ap2 a.1]
   exact rfl
  have hal:=abE a.1
  refine fR (a.1.args.length) (fun k=>[(5,.s (iA k))]) (fun k=>[]) (fun k=>∀y∈a.1.args.take k,(y.deep:Int)≤a.2-1) (by exact (ai (ai (fun _=>rfl) (iE (by omega))) rfl)) (by exact trivial) ?_ ?_
  ·exact fun y hy=>absurd hy (by simp)
  intro (k:Nat) ⟨hk,hall⟩
  refine bL (k<a.1.args.length) (fun h3=>?_) fun h3=>?_
  ·refine iX (k) (a.1.args.length) ?_
   have hy:a.1.args.getD k bK∈a.1.args:=abu (acu h3)
   have hms:=jy hy
   have hys:(a.1.args.getD k bK).size≤n:=by omega
   have hw:IntKind.i64.wrap (a.2-1)=a.2-1:=kJ (by omega) (by omega)
   refine cK (ih) ((a.1.args.getD k bK,a.2-1)) (by exact (ai (ai (iE (by simp only[zz,reduceCtorEq])) (ai (iE (by simp only[zz,reduceCtorEq])) (ai rfl (xX _)))) (iE (by simp only[zz,reduceCtorEq];omega)))) (ai ⟨by show a.2-1≤1000000;omega,by show (a.1.args.getD k bK).size≤1000000;omega⟩ hys) ?_
   refine aW (p:=((a.1.args.getD k bK).deep:Int)≤a.2-1) (by exact Iff.trans (by show (!decide ((a.1.args.getD k bK).deep≤a.2-1))=true↔_;simp) Iff.rfl) (fun h4=>?_) (fun h4=>?_)
   ·have:=ab1 hy
    refine eN (bP (decide ((a.1.deep:Int)≤a.2))) ?_
    rw[show decide ((a.1.deep:Int)≤a.2)=false from decide_eq_false (by omega)]
    exact rfl
   refine nX (k) (ai (ai (fun _=>rfl) (aG (by omega))) rfl) trivial ?_
   intro y hy
   rw[aR bK h3] at hy
   rcases acT.1 hy with hy | hy
   ·exact hall y hy
   ·simp only[aes] at hy;subst hy;exact h4
  ·obtain rfl:k=a.1.args.length:=by omega
   rw[acS] at hall
   have:iy a.1.args≤(a.2-1).toNat:=arp fun y hy=>by have:=hall y hy;omega
   refine eN (bP (decide ((a.1.deep:Int)≤a.2))) ?_
   rw[show decide ((a.1.deep:Int)≤a.2)=true from decide_eq_true (by omega)]
   exact rfl
theorem al2:av Tryz.prog 143 amv:=nL (fun a=>a.1.size) ao3
def jl (x:Ex):Bool:=decide (x.size≤256)&&decide (x.deep≤16)
theorem nN {x:Ex}:jl x=true↔x.size≤256∧x.deep≤16:=by unfold jl;simp
def avM:Spec:=bC (fun x:Ex=>[jK x]) (fun x=>True) (fun x=>bP (jl x))
theorem aqr:av Tryz.prog 166 avM:=by
 refine vF Tryz.func166 ?_
 rintro (x:Ex) hpre
 refine cK (aiS) ((x,256)) (by exact (ai (ai rfl (ai rfl (ai rfl (fun _ _=>rfl)))) (iE (by simp only[zz,reduceCtorEq];rfl)))) ((by show 256≤1000000;omega)) ?_
 refine ah (p:=x.size≤256) (by exact fH (by show ((min x.size (256+1):Nat):Int)≤256↔_;omega)) (fun h1=>?_) (fun h1=>?_)
 ·refine cK (al2) ((x,16)) (by exact (ai (ai rfl (ai rfl (ai rfl (fun _ _=>rfl)))) rfl)) (⟨by show (16:Int)≤1000000;omega,by show x.size≤1000000;omega⟩) ?_
  refine eN (bP (jl x)) ?_
  rw[show jl x=decide ((x.deep:Int)≤16) by unfold jl;rw[decide_eq_true h1,aer];exact decide_eq_decide.2 (by omega)]
  exact rfl
 ·refine eN (bP (jl x)) ?_
  rw[show jl x=false by unfold jl;rw[decide_eq_false h1];rfl]
  exact rfl
def auR:Spec:=bC (fun y:Ex×Int=>[jK y.1,iA y.2]) (fun y=>y.1.args.length≤256) (fun y=>iP (aK y.1 y.2))
theorem aqS {x:Ex} {n:Int} (h0:¬x.op<0) (h1:¬5≤x.op):aK x n=if x.args.length<zw x.op∨acL x.op<x.args.length then 3 else if x.idx<0∨vJ x.op n<x.idx then 2 else 0:=by
 unfold aK;rw[if_neg (by omega)]
theorem aqx:av Tryz.prog 223 auR:=by
 refine vF Tryz.func223 ?_
 rintro ⟨⟨o,i,l⟩,n⟩ hpre
 have hl:l.length≤256:=hpre
 refine ah (p:=o<0) (aA Iff.rfl) (fun h1=>?_) (fun h1=>?_)
 ·refine eN (iP (aK (.node o i l) n)) ?_
  rw[aK,if_pos (.inl h1)]
  exact rfl
 refine ah (p:=5≤o) (fH Iff.rfl) (fun h2=>?_) (fun h2=>?_)
 ·refine eN (iP (aK (.node o i l) n)) ?_
  rw[aK,if_pos (.inr h2)]
  exact rfl
 have hA:aK (.node o i l) n=if l.length<zw o∨acL o<l.length then 3 else if i<0∨vJ o n<i then 2 else 0:=aqS h1 h2
 have ho:o=0∨o=1∨o=2∨o=3∨o=4:=by omega
 rcases ho with rfl | rfl | rfl | rfl | rfl
 ·have hA:aK (.node 0 i l) n=if l.length<0∨0<l.length then 3 else if i<0∨1<i then 2 else 0:=hA
  refine aW (p:=l.length=0) (bn (by dsimp only;omega)) (fun h3=>?_) (fun h3=>?_)
  ·refine eN (iP (aK (.node 0 i l) n)) ?_
   rw[hA,if_pos (show l.length<0∨0<l.length by omega)]
   exact rfl
  rw[if_neg (show ¬(l.length<0∨0<l.length) by omega)] at hA
  refine ah (p:=i<0) (aA Iff.rfl) (fun h5=>?_) (fun h5=>?_)
  ·refine eN (iP (aK (.node 0 i l) n)) ?_
   rw[hA,if_pos (.inl h5)]
   exact rfl
  refine ah (p:=2≤i) (fH Iff.rfl) (fun h6=>?_) (fun h6=>?_)
  ·refine eN (iP (aK (.node 0 i l) n)) ?_
   rw[hA,if_pos (.inr (by omega))]
   exact rfl
  ·refine eN (iP (aK (.node 0 i l) n)) ?_
   rw[hA,if_neg (show ¬(i<0∨1<i) by omega)]
   exact rfl
 ·have hA:aK (.node 1 i l) n=if l.length<0∨0<l.length then 3 else if i<0∨(n-1)<i then 2 else 0:=hA
  refine aW (p:=l.length=0) (bn (by dsimp only;omega)) (fun h3=>?_) (fun h3=>?_)
  ·refine eN (iP (aK (.node 1 i l) n)) ?_
   rw[hA,if_pos (show l.length<0∨0<l.length by omega)]
   exact rfl
  rw[if_neg (show ¬(l.length<0∨0<l.length) by omega)] at hA
  refine ah (p:=i<0) (aA Iff.rfl) (fun h5=>?_) (fun h5=>?_)
  ·refine eN (iP (aK (.node 1 i l) n)) ?_
   rw[hA,if_pos (.inl h5)]
   exact rfl
  refine ah (p:=n≤i) (fH Iff.rfl) (fun h6=>?_) (fun h6=>?_)
  ·refine eN (iP (aK (.node 1 i l) n)) ?_
   rw[hA,if_pos (.inr (by omega))]
   exact rfl
  ·refine eN (iP (aK (.node 1 i l) n)) ?_
   rw[hA,if_neg (show ¬(i<0∨(n-1)<i) by omega)]
   exact rfl
 ·have hA:aK (.node 2 i l) n=if l.length<1∨1<l.length then 3 else if i<0∨0<i then 2 else 0:=hA
  refine aW (p:=l.length=1) (bn (by dsimp only;omega)) (fun h3=>?_) (fun h3=>?_)
  ·refine eN (iP (aK (.node 2 i l) n)) ?_
   rw[hA,if_pos (show l.length<1∨1<l.length by omega)]
   exact rfl
  rw[if_neg (show ¬(l.length<1∨1<l.length) by omega)] at hA
  refine ah (p:=i<0) (aA Iff.rfl) (fun h5=>?_) (fun h5=>?_)
  ·refine eN (iP (aK (.node 2 i l) n)) ?_
   rw[hA,if_pos (.inl h5)]
   exact rfl
  refine ah (p:=1≤i) (fH Iff.rfl) (fun h6=>?_) (fun h6=>?_)
  ·refine eN (iP (aK (.node 2 i l) n)) ?_
   rw[hA,if_pos (.inr (by omega))]
   exact rfl
  ·refine eN (iP (aK (.node 2 i l) n)) ?_
   rw[hA,if_neg (show ¬(i<0∨0<i) by omega)]
   exact rfl
 ·have hA:aK (.node 3 i l) n=if l.length<2∨256<l.length then 3 else if i<0∨0<i then 2 else 0:=hA
  refine ah (p:=l.length<2) (aA (by dsimp only;omega)) (fun h3=>?_) (fun h3=>?_)
  ·refine eN (iP (aK (.node 3 i l) n)) ?_
   rw[hA,if_pos (show l.length<2∨256<l.length by omega)]
   exact rfl
  rw[if_neg (show ¬(l.length<2∨256<l.length) by omega)] at hA
  refine ah (p:=i<0) (aA Iff.rfl) (fun h5=>?_) (fun h5=>?_)
  ·refine eN (iP (aK (.node 3 i l) n)) ?_
   rw[hA,if_pos (.inl h5)]
   exact rfl
  refine ah (p:=1≤i) (fH Iff.rfl) (fun h6=>?_) (fun h6=>?_)
  ·refine eN (iP (aK (.node 3 i l) n)) ?_
   rw[hA,if_pos (.inr (by omega))]
   exact rfl
  ·refine eN (iP (aK (.node 3 i l) n)) ?_
   rw[hA,if_neg (show ¬(i<0∨0<i) by omega)]
   exact rfl
 ·have hA:aK (.node 4 i l) n=if l.length<2∨256<l.length then 3 else if i<0∨0<i then 2 else 0:=hA
  refine ah (p:=l.length<2) (aA (by dsimp only;omega)) (fun h3=>?_) (fun h3=>?_)
  ·refine eN (iP (aK (.node 4 i l) n)) ?_
   rw[hA,if_pos (show l.length<2∨256<l.length by omega)]
   exact rfl
  rw[if_neg (show ¬(l.length<2∨256<l.length) by omega)] at hA
  refine ah (p:=i<0) (aA Iff.rfl) (fun h5=>?_) (fun h5=>?_)
  ·refine eN (iP (aK (.node 4 i l) n)) ?_
   rw[hA,if_pos (.inl h5)]
   exact rfl
  refine ah (p:=1≤i) (fH Iff.rfl) (fun h6=>?_) (fun h6=>?_)
  ·refine eN (iP (aK (.node 4 i l) n)) ?_
   rw[hA,if_pos (.inr (by omega))]
   exact rfl
  ·refine eN (iP (aK (.node 4 i l) n)) ?_
   rw[hA,if_neg (show ¬(i<0∨0<i) by omega)]
   exact rfl
theorem xM (a b:List (Nat×Ex)) (n:Int):fF (a++b) n=if fF a n=0 then fF b n else fF a n:=by
 by_cases h:fF a n=0
 ·rw[if_pos h]
  have h0:=afA.1 h
  unfold fF
  rw[apk,List.find?_append,ax1.2]
  ·rfl
  ·intro y hy
   obtain ⟨z,hz,rfl⟩:=auA.1 hy
   simp[h0 z hz]
 ·rw[if_neg h]
  unfold fF at h ⊢
  rw[apk,List.find?_append]
  cases hc:(a.map fun y=>aK y.2 n).find? (fun e=>e != 0) with
  | none=>rw[hc] at h;exact absurd rfl h
  | some e=>rfl
theorem aln (d:Nat) (x:Ex) (l:List (Nat×Ex)) (n:Int):fF ((d,x) :: l) n=if aK x n=0 then fF l n else aK x n:=by
 have:fF [(d,x)] n=aK x n:=by
  by_cases h:aK x n=0
  ·rw[h];exact aa8 (by simpa using h)
  ·exact ahE (k:=0) (by simp) rfl h
 rw[show (d,x) :: l=[(d,x)]++l from rfl,xM,this]
def aky:Spec:=bC (fun a:Ex×Int×Nat=>[jK a.1,iA a.2.1]) (fun a=>a.1.deep+a.2.2≤17∧a.1.size≤256) (fun a=>iP (fF (dQ a.2.2 a.1) a.2.1))
def avc (n:Nat):Spec:={ aky with pre:=fun a=>aky.pre a∧a.1.size≤n }
theorem amh:∀n,av Tryz.prog 173 (avc n)
 | 0=>by
  refine vF Tryz.func173 ?_
  rintro (a:Ex×Int×Nat) hpre
  have:=size_pos a.1
  exact absurd hpre.2 (by show ¬a.1.size≤0;omega)
 | n+1=>by
  have ih:=amh n
  refine vF Tryz.func173 ?_
  rintro (a:Ex×Int×Nat) hpre
  obtain ⟨hm,hn⟩:=hpre
  have hm1:a.1.deep+a.2.2≤17:=hm.1
  have hm2:a.1.size≤256:=hm.2
  have hn:a.1.size≤n+1:=hn
  have hsz:=a.1.size_eq
  have hde:=a.1.y7
  have hal:=abE a.1
  have hdd:a.2.2≤16:=by omega
  have hA:fF (dQ a.2.2 a.1) a.2.1=if aK a.1 a.2.1=0 then fF (jh a.2.2 a.1.args) a.2.1 else aK a.1 a.2.1:=by rw[afj,aln]
  refine cK (aqx) ((a.1,a.2.1)) (by exact (ai (ai rfl (ai rfl (ai rfl (fun _ _=>rfl)))) rfl)) ((by show a.1.args.length≤256;omega)) ?_
  refine aW (p:=aK a.1 a.2.1=0) (bn (by dsimp only;omega)) (fun h1=>?_) (fun h1=>?_)
  ·refine eN (iP (fF (dQ a.2.2 a.1) a.2.1)) ?_
   rw[hA,if_neg h1]
   exact rfl
  rw[if_pos h1] at hA
  refine fR (a.1.args.length) (fun k=>[(6,.s (iA k))]) (fun k=>[]) (fun k=>fF (jh a.2.2 (a.1.args.take k)) a.2.1=0) (by exact (ai (ai (fun _=>rfl) (iE (by omega))) rfl)) (by exact trivial) ?_ ?_
  ·rw[List.take_zero];unfold jh;rw[if_pos hdd,iK];rfl
  intro (k:Nat) ⟨hk,hall⟩
  refine bL (k<a.1.args.length) (fun h3=>?_) fun h3=>?_
  ·refine iX (k) (a.1.args.length) ?_
   have hy:a.1.args.getD k bK∈a.1.args:=abu (acu h3)
   have hms:=jy hy
   have hmd:=ab1 hy
   have hys:(a.1.args.getD k bK).size≤n:=by omega
   have hsn:fF (jh a.2.2 (a.1.args.take (k+1))) a.2.1=fF (dQ (a.2.2+1) (a.1.args.getD k bK)) a.2.1:=by
    rw[aiq hdd (acu h3),xM,if_pos hall]
   refine cK (ih) ((a.1.args.getD k bK,a.2.1,a.2.2+1)) (by exact (ai (ai (iE (by simp only[zz,reduceCtorEq])) (ai (iE (by simp only[zz,reduceCtorEq])) (ai rfl (xX _)))) rfl)) (ai ⟨by show (a.1.args.getD k bK).deep+(a.2.2+1)≤17;omega,by show (a.1.args.getD k bK).size≤256;omega⟩ hys) ?_
   refine aW (p:=fF (dQ (a.2.2+1) (a.1.args.getD k bK)) a.2.1=0) (bn (by dsimp only;omega)) (fun h4=>?_) (fun h4=>?_)
   ·have hs:jh a.2.2 a.1.args=jh a.2.2 (a.1.args.take (k+1))++jh a.2.2 (a.1.args.drop (k+1)):=by
     unfold jh;rw[if_pos hdd,if_pos hdd,if_pos hdd,←vE,axu]
    refine eN (iP (fF (dQ a.2.2 a.1) a.2.1)) ?_
    rw[hA,hs,xM,hsn,if_neg h4]
    exact rfl
   refine nX (k) (ai (ai (fun _=>rfl) (aG (by omega))) rfl) trivial (iE (by omega))
  ·obtain rfl:k=a.1.args.length:=by omega
   rw[acS] at hall
   refine eN (iP (fF (dQ a.2.2 a.1) a.2.1)) ?_
   rw[hA,hall]
   exact rfl
theorem aqM:av Tryz.prog 173 aky:=nL (fun a=>a.1.size) amh
def as9:Spec:=bC (fun y:Ex×Int=>[jK y.1,iA y.2]) (fun y=>True) (fun y=>iP (bg y.1 y.2))
theorem adL:av Tryz.prog 116 as9:=by
 refine vF Tryz.func116 ?_
 rintro (y:Ex×Int) hpre
 refine bL (y.2<0) (fun h1=>?_) fun h1=>?_
 ·refine eN (iP (bg y.1 y.2)) ?_
  rw[bg,if_pos (.inl h1)]
  exact rfl
 refine bL (256<y.2) (fun h2=>?_) fun h2=>?_
 ·refine eN (iP (bg y.1 y.2)) ?_
  rw[bg,if_pos (.inr h2)]
  exact rfl
 have hA:bg y.1 y.2=if y.1.size≤256∧y.1.deep≤16 then fF (dQ 1 y.1) y.2 else 5:=by
  unfold bg;rw[if_neg (fun h=>h.elim h1 h2)]
 refine cK (aqr) (y.1) (by exact (ai rfl (ai rfl (ai rfl (fun _ _=>rfl))))) (trivial) ?_
 refine aC (b:=!jl y.1) rfl (fun h3=>?_) (fun h3=>?_)
 ·have h3:¬(y.1.size≤256∧y.1.deep≤16):=fun h=>by rw[nN.2 h] at h3;exact absurd h3 (by decide)
  refine eN (iP (bg y.1 y.2)) ?_
  rw[hA,if_neg h3]
  exact rfl
 have h3:y.1.size≤256∧y.1.deep≤16:=nN.1 (by simpa using h3)
 refine cK (aqM) ((y.1,y.2,1)) (by exact (ai (ai rfl (ai rfl (ai rfl (fun _ _=>rfl)))) rfl)) (⟨by show y.1.deep+1≤17;omega,h3.1⟩) ?_
 refine eN (iP (bg y.1 y.2)) ?_
 rw[hA,if_pos h3]
 exact rfl
def oP (x:Ex):Bool:=decide (x.size≤40)||(decide (256<x.size)&&decide (x.size≤512)&&decide (x.deep≤40))
theorem an2 {x:Ex} (h:oP x=true):x.size≤512:=by
 unfold oP at h;simp at h;omega
def awQ:Spec:=bC (fun x:Ex=>[jK x]) (fun x=>True) (fun x=>bP (oP x))
theorem avk:av Tryz.prog 88 awQ:=by
 refine vF Tryz.func88 ?_
 rintro (x:Ex) hpre
 refine cK (aiS) ((x,512)) (by exact (ai (ai rfl (ai rfl (ai rfl (fun _ _=>rfl)))) (iE (by simp only[zz,reduceCtorEq];rfl)))) ((by show 512≤1000000;omega)) ?_
 refine ah (p:=x.size≤40) (by exact fH (by show ((min x.size (512+1):Nat):Int)≤40↔_;omega)) (fun h1=>?_) (fun h1=>?_)
 ·refine eN (bP (oP x)) ?_
  rw[show oP x=true by unfold oP;rw[decide_eq_true h1];rfl]
  exact rfl
 refine ah (p:=256<x.size) (by exact aA (by show (256:Int)<((min x.size (512+1):Nat):Int)↔_;omega)) (fun h2=>?_) (fun h2=>?_)
 ·refine ah (p:=x.size≤512) (by exact fH (by show ((min x.size (512+1):Nat):Int)≤512↔_;omega)) (fun h3=>?_) (fun h3=>?_)
  ·refine cK (al2) ((x,40)) (by exact (ai (ai rfl (ai rfl (ai rfl (fun _ _=>rfl)))) rfl)) (⟨by show (40:Int)≤1000000;omega,by show x.size≤1000000;omega⟩) ?_
   refine eN (bP (oP x)) ?_
   rw[show oP x=decide ((x.deep:Int)≤40) by unfold oP;rw[decide_eq_false h1,decide_eq_true h2,decide_eq_true h3,ar5,aer,aer];exact decide_eq_decide.2 (by omega)]
   exact rfl
  ·refine eN (bP (oP x)) ?_
   rw[show oP x=false by unfold oP;rw[decide_eq_false h1,decide_eq_false h3];simp]
   exact rfl
 ·refine eN (bP (oP x)) ?_
  rw[show oP x=false by unfold oP;rw[decide_eq_false h1,decide_eq_false h2];simp]
  exact rfl
theorem gW {P:Program} {f:Nat} {S:Spec} (h:av P f S) {res:S.A→PV} (e:∀a,S.pre a→gB (S.res a) (res a)):av P f { S with res:=res }:=
 ⟨h.1,fun a hp E vs w hg hh hA=>(h.2 a hp E vs w hg hh hA).mono fun e' w' ⟨v,E',h1,h2,h3⟩=>⟨v,E',h1,wZ (e a hp) h2,h3⟩⟩
def SLe:List SV→List SV→Prop
 | [],[]=>True
 | s :: l,t :: m=>(s=t∨∃d d',s=.p false d∧t=.p false d'∧gB d d')∧SLe l m
 | _,_=>False
theorem SLe.get:∀{l m:List SV},SLe l m→l.length=m.length∧∀(k:Nat) (s t:SV),l[k]?=some s→m[k]?=some t→s=t∨∃d d',s=.p false d∧t=.p false d'∧gB d d'
 | [],[],_=>⟨rfl,fun k s t h=>by simp at h⟩
 | [],_ :: _,h=>h.elim
 | _ :: _,[],h=>h.elim
 | s :: l,t :: m,⟨h1,h2⟩=>by
  obtain ⟨g1,g2⟩:=SLe.get h2
  refine ⟨by simp[g1],fun k x y hx hy=>?_⟩
  cases k with
  | zero=>simp at hx hy;subst hx;subst hy;exact h1
  | succ k=>exact g2 k x y (by simpa using hx) (by simpa using hy)
theorem ajl {P:Program} {f:Nat} {S:Spec} (h:av P f S) {args:S.A→List SV} (e:∀a,S.pre a→SLe (args a) (S.args a)):av P f { S with args:=args }:=
 ⟨h.1,fun a hp E vs w hg hh hA=>by
  refine h.2 a hp E vs w hg hh ?_
  obtain ⟨g1,g2⟩:=(e a hp).get
  obtain ⟨h1,h2⟩:=hA
  refine ⟨h1.trans g1,fun k u t hu ht=>?_⟩
  obtain ⟨s,hs⟩:=xE g1 ht
  have hr:=h2 k u s hu hs
  rcases g2 k s t hs ht with e | ⟨d,d',e1,e2,hle⟩
  ·subst e;exact hr
  ·subst e1;subst e2
   cases hr with
   | p _ _ _ hx=>exact .p _ _ _ (wZ hle hx)⟩
abbrev Sk := Int × Bool
structure Stp where
 st:List Sk
 wt:Int
structure sF where
 fr:List Int
 to:List Int
 wh:Ex
structure aB where
 act:Int
 ins:List (List UInt8)
 sts:List Stp
 trs:List sF
def skK (x:Sk):List PV:=[iP x.1,bP x.2]
def skA (x:Sk):SV:=.p false (.agg (skK x))
def bY:Sk:=(0,false)
def adq (l:List Sk):PV:=.seq l.length (fun k=>skK (l.getD k bY))
def anc (l:List Sk):SV:=.p false (adq l)
def stK (x:Stp):List PV:=[adq x.st,iP x.wt]
def stA (x:Stp):SV:=.p false (.agg (stK x))
def st0:Stp:=⟨[],0⟩
def abb (l:List Stp):PV:=.seq l.length (fun k=>stK (l.getD k st0))
def trK (x:sF):List PV:=[fT x.fr,fT x.to,iP x.wh.op,iP x.wh.idx,.seq x.wh.args.length (jI x.wh.args)]
def trA (x:sF):SV:=.p false (.agg (trK x))
def bf:sF:=⟨[],[],bK⟩
def adz (l:List sF):PV:=.seq l.length (fun k=>trK (l.getD k bf))
def chK (c:aB):List PV:=[iP c.act,xV c.ins,abb c.sts,adz c.trs]
def chP (c:aB):PV:=.agg (chK c)
def iG (c:aB):SV:=.p false (chP c)
def jG {α:Type} (p:α→Bool) (l:List α):Int:=match l.findIdx? p with
 | some k=>k
 | none=>-1
theorem rY {α:Type} {p:α→Bool}:∀{l:List α} {k:Nat} {d:α},k<l.length→p (l.getD k d)=true→(∀y∈l.take k,p y=false)→jG p l=k
 | [],k,d,h,_,_=>by simp at h
 | x :: l,0,d,_,h,_=>by
  have h:p x=true:=h
  unfold jG;simp[List.findIdx?_cons,h]
 | x :: l,k+1,d,hk,h,hn=>by
  have h1:p x=false:=hn x (by simp)
  have h2:=rY (l:=l) (k:=k) (d:=d) (by simpa using hk) (by simpa using h) (fun y hy=>hn y (by simp[hy]))
  unfold jG at h2 ⊢
  rw[List.findIdx?_cons,h1]
  cases hc:l.findIdx? p with
  | none=>rw[hc] at h2;simp only at h2;omega
  | some q=>rw[hc] at h2;simp only at h2;simp;omega
theorem uy {α:Type} {p:α→Bool} {l:List α} (h:∀y∈l,p y=false):jG p l=-1:=by
 unfold jG
 rw[axw.2 (by simpa using h)]
theorem qU {α:Type} (p:α→Bool) (l:List α):decide (0≤jG p l)=l.any p:=by
 unfold jG
 cases hc:l.findIdx? p with
 | none=>
  have:=axw.1 hc
  symm;rw[show decide ((0:Int)≤-1)=false by decide,atY]
  intro x hx;simp[this x hx]
 | some k=>
  simp only
  rw[decide_eq_true (by omega)]
  symm;rw[aoL]
  obtain ⟨h,h1,_⟩:=List.findIdx?_eq_some_iff_getElem.1 hc
  exact ⟨_,List.getElem_mem h,h1⟩
theorem ahW {a b:List UInt8}:strOf a=strOf b↔a=b:=by
 constructor
 ·intro h
  have:(strOf a).data.toList=(strOf b).data.toList:=by rw[h]
  simpa [strOf] using this
 ·rintro rfl;rfl
def atO:Spec:=bC (fun a:List (Int)×(Int)=>[isA a.1,iA a.2]) (fun a=>a.1.length≤1000000) (fun a=>iP (jG (fun y=>a.2==y) a.1))
theorem aoU:av Tryz.prog 84 atO:=by
 refine vF Tryz.func84 ?_
 rintro (a:List (Int)×(Int)) hpre
 have hl:a.1.length≤1000000:=hpre
 refine fR (a.1.length) (fun k=>[(8,.s (iA k))]) (fun k=>[]) (fun k=>∀y∈a.1.take k,(a.2==y)=false) (by exact (ai (ai (fun _=>rfl) (iE (by omega))) rfl)) (by exact trivial) ?_ ?_
 ·exact fun y hy=>absurd hy (by simp)
 intro (k:Nat) ⟨hk,hall⟩
 refine bL (k<a.1.length) (fun h1=>?_) fun h1=>?_
 ·refine iX (k) (a.1.length) ?_
  refine ah (p:=(a.2==a.1.getD k 0)=true) (by exact Iff.rfl) (fun h2=>?_) (fun h2=>?_)
  ·refine eN (iP (jG (fun y=>a.2==y) a.1)) ?_
   rw[rY (d:=0) h1 h2 hall]
   exact rfl
  refine nX (k) (ai (ai (fun _=>rfl) (aG (by omega))) rfl) trivial ?_
  intro y hy
  rw[aR 0 h1] at hy
  rcases acT.1 hy with hy | hy
  ·exact hall y hy
  ·simp only[aes] at hy;subst hy;simpa using h2
 ·obtain rfl:k=a.1.length:=by omega
  rw[acS] at hall
  refine eN (iP (jG (fun y=>a.2==y) a.1)) ?_
  rw[uy hall]
  exact rfl
def avX:Spec:=bC (fun a:List (Int)×(Int)=>[isA a.1,iA a.2]) (fun a=>a.1.length≤1000000) (fun a=>bP (a.1.any fun y=>a.2==y))
theorem agE:av Tryz.prog 44 avX:=by
 refine vF Tryz.func44 ?_
 rintro (a:List (Int)×(Int)) hpre
 refine cK (aoU) (a) (by exact (ai (ai rfl (fun _ _=>rfl)) rfl)) (hpre) ?_
 refine eN (bP (a.1.any fun y=>a.2==y)) ?_
 rw[(qU (fun y=>a.2==y) a.1).symm]
 exact rfl
def asC:Spec:=bC (fun a:List (List UInt8)×(List UInt8)=>[ssA a.1,sA a.2]) (fun a=>a.1.length≤1000000) (fun a=>iP (jG (fun y=>a.2==y) a.1))
theorem aoK:av Tryz.prog 253 asC:=by
 refine vF Tryz.func253 ?_
 rintro (a:List (List UInt8)×(List UInt8)) hpre
 have hl:a.1.length≤1000000:=hpre
 refine fR (a.1.length) (fun k=>[(8,.s (iA k))]) (fun k=>[]) (fun k=>∀y∈a.1.take k,(a.2==y)=false) (by exact (ai (ai (fun _=>rfl) (iE (by omega))) rfl)) (by exact trivial) ?_ ?_
 ·exact fun y hy=>absurd hy (by simp)
 intro (k:Nat) ⟨hk,hall⟩
 refine bL (k<a.1.length) (fun h1=>?_) fun h1=>?_
 ·refine iX (k) (a.1.length) ?_
  refine ah (p:=(a.2==a.1.getD k [])=true) (by exact Iff.rfl) (fun h2=>?_) (fun h2=>?_)
  ·refine eN (iP (jG (fun y=>a.2==y) a.1)) ?_
   rw[rY (d:=[]) h1 h2 hall]
   exact rfl
  refine nX (k) (ai (ai (fun _=>rfl) (aG (by omega))) rfl) trivial ?_
  intro y hy
  rw[aR [] h1] at hy
  rcases acT.1 hy with hy | hy
  ·exact hall y hy
  ·simp only[aes] at hy;subst hy;simpa using h2
 ·obtain rfl:k=a.1.length:=by omega
  rw[acS] at hall
  refine eN (iP (jG (fun y=>a.2==y) a.1)) ?_
  rw[uy hall]
  exact rfl
def av7:Spec:=bC (fun a:List (List UInt8)×(List UInt8)=>[ssA a.1,sA a.2]) (fun a=>a.1.length≤1000000) (fun a=>bP (a.1.any fun y=>a.2==y))
theorem atG:av Tryz.prog 201 av7:=by
 refine vF Tryz.func201 ?_
 rintro (a:List (List UInt8)×(List UInt8)) hpre
 refine cK (aoK) (a) (by exact (ai (ai rfl (fun _ _=>rfl)) rfl)) (hpre) ?_
 refine eN (bP (a.1.any fun y=>a.2==y)) ?_
 rw[(qU (fun y=>a.2==y) a.1).symm]
 exact rfl
def as2:Spec:=bC (fun a:List (Bool)×(Bool)=>[qh a.1,bA a.2]) (fun a=>a.1.length≤1000000) (fun a=>iP (jG (fun y=>a.2==y) a.1))
theorem aon:av Tryz.prog 199 as2:=by
 refine vF Tryz.func199 ?_
 rintro (a:List (Bool)×(Bool)) hpre
 have hl:a.1.length≤1000000:=hpre
 refine fR (a.1.length) (fun k=>[(8,.s (iA k))]) (fun k=>[]) (fun k=>∀y∈a.1.take k,(a.2==y)=false) (by exact (ai (ai (fun _=>rfl) (iE (by omega))) rfl)) (by exact trivial) ?_ ?_
 ·exact fun y hy=>absurd hy (by simp)
 intro (k:Nat) ⟨hk,hall⟩
 refine bL (k<a.1.length) (fun h1=>?_) fun h1=>?_
 ·refine iX (k) (a.1.length) ?_
  refine ah (p:=(a.2==a.1.getD k false)=true) (by exact Iff.rfl) (fun h2=>?_) (fun h2=>?_)
  ·refine eN (iP (jG (fun y=>a.2==y) a.1)) ?_
   rw[rY (d:=false) h1 h2 hall]
   exact rfl
  refine nX (k) (ai (ai (fun _=>rfl) (aG (by omega))) rfl) trivial ?_
  intro y hy
  rw[aR false h1] at hy
  rcases acT.1 hy with hy | hy
  ·exact hall y hy
  ·simp only[aes] at hy;subst hy;simpa using h2
 ·obtain rfl:k=a.1.length:=by omega
  rw[acS] at hall
  refine eN (iP (jG (fun y=>a.2==y) a.1)) ?_
  rw[uy hall]
  exact rfl
def avT:Spec:=bC (fun a:List (Bool)×(Bool)=>[qh a.1,bA a.2]) (fun a=>a.1.length≤1000000) (fun a=>bP (a.1.any fun y=>a.2==y))
theorem atw:av Tryz.prog 146 avT:=by
 refine vF Tryz.func146 ?_
 rintro (a:List (Bool)×(Bool)) hpre
 refine cK (aon) (a) (by exact (ai (ai rfl (fun _ _=>rfl)) rfl)) (hpre) ?_
 refine eN (bP (a.1.any fun y=>a.2==y)) ?_
 rw[(qU (fun y=>a.2==y) a.1).symm]
 exact rfl
theorem nP {s:List UInt8} {k:Nat} (h:k<s.length):(strOf s)[k]?=some (s.getD k 0):=by
 have h1:s[k]?=some (s.getD k 0):=bD 0 h
 show (if h:k<(strOf s).size then some ((strOf s).get k h) else none)=_
 have h2:k<(strOf s).size:=by rw[cO];exact h
 rw[dif_pos h2,←h1,aaX h];rfl
def dB (f:Nat→Int):Nat→Int
 | 0=>0
 | n+1=>if f 0=0 then dB (fun k=>f (k+1)) n else f 0
theorem dO:∀{n:Nat} {f:Nat→Int} {k:Nat},k<n→(∀j,j<k→f j=0)→f k≠0→dB f n=f k
 | 0,_,_,h,_,_=>by omega
 | n+1,f,0,_,_,h=>by rw[dB,if_neg h]
 | n+1,f,k+1,hk,h0,h=>by
  rw[dB,if_pos (h0 0 (by omega))]
  exact dO (f:=fun k=>f (k+1)) (k:=k) (by omega) (fun j hj=>h0 (j+1) (by omega)) h
theorem gU:∀{n:Nat} {f:Nat→Int},(∀j,j<n→f j=0)→dB f n=0
 | 0,_,_=>rfl
 | n+1,f,h=>by rw[dB,if_pos (h 0 (by omega))];exact gU fun j hj=>h (j+1) (by omega)
theorem qj {n:Nat} {f:Nat→Int} (h:dB f n=0):∀j,j<n→f j=0:=by
 induction n generalizing f with
 | zero=>intro j hj;omega
 | succ n ih=>
  intro j hj
  rw[dB] at h
  by_cases h0:f 0=0
  ·rw[if_pos h0] at h
   cases j with
   | zero=>exact h0
   | succ j=>exact ih h j (by omega)
  ·rw[if_neg h0] at h;exact absurd h h0
theorem ase {l:List (List UInt8)} {k:Nat} (hk:k≤l.length):∀j,j<k→[sP (l.getD j [])]=[sP ((l.take k).getD j [])]:=by
 intro j hj
 rw[aaG,aaG,ar8,if_pos hj]
end Go.Sx.Pe
namespace Go.Proofs
open Go.Shelf
def Tryz.ak1:Go.Shelf.Ren:=⟨fun | 171=>209 | 243=>254 | 246=>277 | 283=>286 | 284=>287 | 285=>288 | 286=>289 | 129=>249 | 317=>298 | 318=>299 | 319=>300 | 320=>301 | 337=>310 | 338=>311 | n=>n,fun | 3=>3 | 9=>9 | 2=>2 | 4=>4 | 171=>317 | 0=>0 | 53=>286 | 37=>294 | 5=>5 | 173=>319 | 212=>330 | 51=>284 | 20=>20 | 213=>331 | 46=>242 | 232=>339 | 233=>340 | n=>n,fun | 17=>0 | 18=>2 | 19=>3 | n=>n⟩
theorem Tryz.asS : Go.Proofs.Lays.n171 Tryz.prog Tryz.ak1 := {
  mixed := by kernel_rfl
  f129 := Tryz.func249.trans (congrArg some (by kernel_rfl))
  f171 := Tryz.func209.trans (congrArg some (by kernel_rfl))
  f243 := Tryz.func254.trans (congrArg some (by kernel_rfl))
  f246 := Tryz.func277.trans (congrArg some (by kernel_rfl))
  f283 := Tryz.func286.trans (congrArg some (by kernel_rfl))
  f284 := Tryz.func287.trans (congrArg some (by kernel_rfl))
  f285 := Tryz.func288.trans (congrArg some (by kernel_rfl))
  f286 := Tryz.func289.trans (congrArg some (by kernel_rfl))
  f317 := Tryz.func298.trans (congrArg some (by kernel_rfl))
  f318 := Tryz.func299.trans (congrArg some (by kernel_rfl))
  f319 := Tryz.func300.trans (congrArg some (by kernel_rfl))
  f320 := Tryz.func301.trans (congrArg some (by kernel_rfl))
  f337 := Tryz.func310.trans (congrArg some (by kernel_rfl))
  f338 := Tryz.func311.trans (congrArg some (by kernel_rfl))
  t0 := Tryz.underlying0
  a0 := Tryz.isAgg0
  z0 := Tryz.sizeOf0
  v0 := Tryz.zeroValue0
  t2 := Tryz.underlying2
  a2 := Tryz.isAgg2
  z2 := Tryz.sizeOf2
  v2 := Tryz.zeroValue2
  t3 := Tryz.underlying3
  a3 := Tryz.isAgg3
  z3 := Tryz.sizeOf3
  v3 := Tryz.zeroValue3
  t4 := Tryz.underlying4
  a4 := Tryz.isAgg4
  z4 := Tryz.sizeOf4
  v4 := Tryz.zeroValue4
  t5 := Tryz.underlying5
  a5 := Tryz.isAgg5
  z5 := Tryz.sizeOf5
  v5 := Tryz.zeroValue5
  t9 := Tryz.underlying9
  a9 := Tryz.isAgg9
  z9 := Tryz.sizeOf9
  v9 := Tryz.zeroValue9
  t20 := Tryz.underlying20
  a20 := Tryz.isAgg20
  z20 := Tryz.sizeOf20
  v20 := Tryz.zeroValue20
  t37 := Tryz.underlying294
  a37 := Tryz.isAgg294
  z37 := Tryz.sizeOf294
  v37 := Tryz.zeroValue294
  t46 := Tryz.underlying242
  a46 := Tryz.isAgg242
  z46 := Tryz.sizeOf242
  v46 := Tryz.zeroValue242
  t51 := Tryz.underlying284
  a51 := Tryz.isAgg284
  z51 := Tryz.sizeOf284
  v51 := Tryz.zeroValue284
  t53 := Tryz.underlying286
  a53 := Tryz.isAgg286
  z53 := Tryz.sizeOf286
  v53 := Tryz.zeroValue286
  t171 := Tryz.underlying317
  a171 := Tryz.isAgg317
  z171 := Tryz.sizeOf317
  v171 := Tryz.zeroValue317
  t173 := Tryz.underlying319
  a173 := Tryz.isAgg319
  z173 := Tryz.sizeOf319
  v173 := Tryz.zeroValue319
  t212 := Tryz.underlying330
  a212 := Tryz.isAgg330
  z212 := Tryz.sizeOf330
  v212 := Tryz.zeroValue330
  t213 := Tryz.underlying331
  a213 := Tryz.isAgg331
  z213 := Tryz.sizeOf331
  t232 := Tryz.underlying339
  a232 := Tryz.isAgg339
  z232 := Tryz.sizeOf339
  v232 := Tryz.zeroValue339
  t233 := Tryz.underlying340
  a233 := Tryz.isAgg340
  z233 := Tryz.sizeOf340
  v233 := Tryz.zeroValue340
  g17 := by kernel_rfl
  g18 := by kernel_rfl
  g19 := by kernel_rfl }
open Go.RowKit Go.Sort Go.Lib in
theorem Tryz.strconv_Itoa_small (i:Nat) (hi:i<100) (w:World) :
  Calls Tryz.prog 209 #[.int .i64 i] w fun e w'=>e=.returned (.string ⟨(Lib.decDigits i).toArray⟩)∧w'=w:=Any.strconv_Itoa_small Tryz.asS i hi w
def Tryz.alb:Go.Shelf.Ren:=⟨fun | 144=>275 | 143=>284 | 219=>290 | 217=>302 | 225=>303 | 224=>304 | 267=>305 | 266=>312 | 314=>313 | n=>n,fun | 9=>9 | 4=>4 | 3=>3 | 5=>5 | 46=>242 | 146=>336 | 51=>284 | n=>n,fun | 1=>1 | n=>n⟩
theorem Tryz.atB : Go.Proofs.Lays.n144 Tryz.prog Tryz.alb := {
  mixed := by kernel_rfl
  f143 := Tryz.func284.trans (congrArg some (by kernel_rfl))
  f144 := Tryz.func275.trans (congrArg some (by kernel_rfl))
  f217 := Tryz.func302.trans (congrArg some (by kernel_rfl))
  f219 := Tryz.func290.trans (congrArg some (by kernel_rfl))
  f224 := Tryz.func304.trans (congrArg some (by kernel_rfl))
  f225 := Tryz.func303.trans (congrArg some (by kernel_rfl))
  f266 := Tryz.func312.trans (congrArg some (by kernel_rfl))
  f267 := Tryz.func305.trans (congrArg some (by kernel_rfl))
  f314 := Tryz.func313.trans (congrArg some (by kernel_rfl))
  t3 := Tryz.underlying3
  a3 := Tryz.isAgg3
  z3 := Tryz.sizeOf3
  v3 := Tryz.zeroValue3
  t4 := Tryz.underlying4
  a4 := Tryz.isAgg4
  z4 := Tryz.sizeOf4
  v4 := Tryz.zeroValue4
  t5 := Tryz.underlying5
  a5 := Tryz.isAgg5
  z5 := Tryz.sizeOf5
  v5 := Tryz.zeroValue5
  t9 := Tryz.underlying9
  a9 := Tryz.isAgg9
  z9 := Tryz.sizeOf9
  v9 := Tryz.zeroValue9
  t46 := Tryz.underlying242
  a46 := Tryz.isAgg242
  z46 := Tryz.sizeOf242
  v46 := Tryz.zeroValue242
  t51 := Tryz.underlying284
  a51 := Tryz.isAgg284
  z51 := Tryz.sizeOf284
  v51 := Tryz.zeroValue284
  t146 := Tryz.underlying336
  a146 := Tryz.isAgg336
  z146 := Tryz.sizeOf336
  v146 := Tryz.zeroValue336
  g1 := by kernel_rfl }
open Go.RowKit Go.Lib in
theorem Tryz.strings_Contains_one (s:ByteArray) (c:UInt8) (w:World) :
  Calls Tryz.prog 275 #[.string s,.string ⟨#[c]⟩] w fun e w'=>e=.returned (.bool (decide (0≤Lib.indexByte s.data.toList c)))∧w'=w:=Any.strings_Contains_one Tryz.atB s c w
def Tryz.ajk:Go.Shelf.Ren:=⟨fun | 17=>184 | 15=>231 | 20=>266 | n=>n,fun | 9=>9 | 23=>228 | 4=>4 | 3=>3 | 0=>0 | 21=>21 | n=>n,fun | n=>n⟩
theorem Tryz.ap1 : Go.Proofs.LaysGw.n17 Tryz.prog Tryz.ajk := {
  mixed := by kernel_rfl
  f15 := Tryz.func231.trans (congrArg some (by kernel_rfl))
  f17 := Tryz.func184.trans (congrArg some (by kernel_rfl))
  f20 := Tryz.func266.trans (congrArg some (by kernel_rfl))
  t0 := Tryz.underlying0
  a0 := Tryz.isAgg0
  z0 := Tryz.sizeOf0
  v0 := Tryz.zeroValue0
  i0 := by kernel_rfl
  t3 := Tryz.underlying3
  a3 := Tryz.isAgg3
  z3 := Tryz.sizeOf3
  v3 := Tryz.zeroValue3
  i3 := by kernel_rfl
  t4 := Tryz.underlying4
  a4 := Tryz.isAgg4
  z4 := Tryz.sizeOf4
  v4 := Tryz.zeroValue4
  i4 := by kernel_rfl
  t9 := Tryz.underlying9
  a9 := Tryz.isAgg9
  z9 := Tryz.sizeOf9
  v9 := Tryz.zeroValue9
  i9 := by kernel_rfl
  t21 := Tryz.underlying21
  a21 := Tryz.isAgg21
  z21 := Tryz.sizeOf21
  v21 := Tryz.zeroValue21
  i21 := by kernel_rfl
  t23 := Tryz.underlying228
  a23 := Tryz.isAgg228
  z23 := Tryz.sizeOf228
  v23 := Tryz.zeroValue228
  i23 := by kernel_rfl }
open Go.RowKit Go.Lib in
theorem Tryz.strings_ContainsFunc (g:Nat) (lb:Array Value) (eg:∀args w,(callFunc g args).run Tryz.prog w=.ok (.enter g args) w) (p:Nat→Bool) (s:ByteArray) (w:World) (hp:PredAt Tryz.prog g lb encR p w) :
  Calls Tryz.prog 184 #[.string s,.func (.func g) #[] lb] w fun e w'=>e=.returned (.bool (decide (0≤Lib.idxFunc p true s)))∧Below w.heap.size w w':=Any.strings_ContainsFunc Tryz.ap1 g lb eg p s w hp
end Go.Proofs
namespace Go.Sx.Pe
open Go Go.Proofs Go.Sx.Pn
def eU (c:UInt8):Bool:=decide (48≤c.toNat)&&decide (c.toNat≤57)
def jv (c:UInt8):Bool:=decide (97≤c.toNat)&&decide (c.toNat≤122)
def vw (c:UInt8):Bool:=decide (65≤c.toNat)&&decide (c.toNat≤90)
def eD (c:UInt8):Bool:=eU c||jv c||vw c||decide (c.toNat=95)
def dX (c:UInt8):Bool:=[97,98,99,100,101,102,116,120,121,122].any (fun y:UInt8=>c==y)
def o9 (c:UInt8):Bool:=decide (97≤c.toNat)&&decide (c.toNat≤102)
theorem aag:av Tryz.prog 222 (bC (fun c:UInt8=>[cA c]) (fun _=>True) (fun c=>bP (eU c))):=by
 refine vF Tryz.func222 ?_
 rintro (c:UInt8) hpre
 repeat' (refine iB (fun h=>?_) (fun h=>?_))
 all_goals
  refine ai (ai (fun _=>trivial) ?_) trivial
  show (_:Bool)=eU c
  rw[auc]
  simp only[abx,arQ,decide_eq_true_eq,decide_eq_false_iff_not,beq_iff_eq,beq_eq_false_iff_ne,ne_eq,eU,jv,vw,eD,o9,true_iff,iff_true,reduceCtorEq,false_iff] at *
  omega
theorem akv:av Tryz.prog 220 (bC (fun c:UInt8=>[cA c]) (fun _=>True) (fun c=>bP (jv c))):=by
 refine vF Tryz.func220 ?_
 rintro (c:UInt8) hpre
 repeat' (refine iB (fun h=>?_) (fun h=>?_))
 all_goals
  refine ai (ai (fun _=>trivial) ?_) trivial
  show (_:Bool)=jv c
  rw[auc]
  simp only[abx,arQ,decide_eq_true_eq,decide_eq_false_iff_not,beq_iff_eq,beq_eq_false_iff_ne,ne_eq,eU,jv,vw,eD,o9,true_iff,iff_true,reduceCtorEq,false_iff] at *
  omega
theorem anr:av Tryz.prog 252 (bC (fun c:UInt8=>[cA c]) (fun _=>True) (fun c=>bP (eD c))):=by
 refine vF Tryz.func252 ?_
 rintro (c:UInt8) hpre
 repeat' (refine iB (fun h=>?_) (fun h=>?_))
 all_goals
  refine ai (ai (fun _=>trivial) ?_) trivial
  show (_:Bool)=eD c
  rw[auc]
  simp only[abx,arQ,decide_eq_true_eq,decide_eq_false_iff_not,beq_iff_eq,beq_eq_false_iff_ne,ne_eq,eU,jv,vw,eD,o9,true_iff,iff_true,reduceCtorEq,false_iff] at *
  omega
def resE:List UInt8→Bool
 | []=>false
 | c :: t=>!t.isEmpty&&((dX c&&t.all eU)||(o9 c&&(t==[112]||t==[109])))
theorem ail:∀(l:List UInt8) (c:UInt8),decide (0≤Lib.indexByte l c)=l.any fun y=>c==y
 | [],c=>by simp[Lib.indexByte]
 | x :: l,c=>by
  have ih:=ail l c
  have hge:=Lib.indexByte_ge l c
  unfold Lib.indexByte
  rw[axF]
  by_cases h:x=c
  ·subst h;simp
  ·rw[show (c==x)=false by simpa using fun e=>h e.symm,ar5,←ih]
   simp only[beq_iff_eq,h,if_false]
   split
   ·rename_i h2;rw[h2]
   ·exact decide_eq_decide.2 (by omega)
theorem agK:av Tryz.prog 275 (bC (fun a:List UInt8×UInt8=>[sA a.1,sA [a.2]]) (fun _=>True) (fun a=>bP (a.1.any fun y=>a.2==y))):=
 ajt (aia (α:=List UInt8×UInt8) Tryz.func275 rfl rfl (vals:=fun a=>[.string (strOf a.1),.string (strOf [a.2])]) (pre:=fun _=>True) (ret:=fun a=>.bool (decide (0≤Lib.indexByte a.1 a.2))) (fun _ _=>rfl)
  fun a _ w=>(Tryz.strings_Contains_one (strOf a.1) a.2 w).mono fun e w' h=>by
   obtain ⟨h1,h2⟩:=h
   subst h2
   exact ⟨h1,RowKit.Below.refl _ _⟩) id
  (fun _ _=>rfl) (fun _ _=>rfl) (fun _ _=>rfl) (fun a _=>by show PV.val (.bool (decide (0≤Lib.indexByte a.1 a.2)))=_;rw[ail];rfl) (fun _ _=>trivial)
theorem aro:av Tryz.prog 221 (bC (fun s:List UInt8=>[sA s]) (fun s=>s.length≤1000000) (fun s=>bP (resE s))):=by
 refine vF Tryz.func221 ?_
 rintro (s:List UInt8) hpre
 have hl:s.length≤1000000:=hpre
 have hz:=cO s
 refine ah (p:=s.length<2) (by exact aA (by rw[hz];omega)) (fun h1=>?_) (fun h1=>?_)
 ·have e:resE s=false:=by
   cases s with
   | nil=>rfl
   | cons c t=>cases t with
    | nil=>rfl
    | cons d t=>simp at h1;omega
  refine eN (bP (resE s)) ?_
  rw[e]
  exact rfl
 obtain ⟨c,d,t,rfl⟩:∃c d t,s=c :: d :: t:=by
  cases s with
  | nil=>simp at h1
  | cons c t=>cases t with
   | nil=>simp at h1
   | cons d t=>exact ⟨c,d,t,rfl⟩
 have i0:(strOf (c :: d :: t))[(0:Int).toNat]?=some c:=nP (s:=c :: d :: t) (k:=0) (by simp)
 have i1:(strOf (c :: d :: t))[(1:Int).toNat]?=some d:=nP (s:=c :: d :: t) (k:=1) (by simp)
 have hl2:(d :: t).length≤1000000:=by simp only[arJ] at hl ⊢;omega
 have hR:resE (c :: d :: t)=((dX c&&(d :: t).all eU)||(o9 c&&((d :: t)==[112]||(d :: t)==[109]))):=rfl
 refine ah (p:=t=[]) (by exact sW (by show (((strOf (c :: d :: t)).size:Nat):Int)=2↔_;rw[hz];cases t with | nil=>simp | cons y t=>simp;omega)) (fun h2=>?_) (fun h2=>?_)
 ·refine ei c (ai (ai (by decide) i0) ?_)
  refine bG (97≤c.toNat) (fun h3=>?_) fun h3=>?_
  ·refine ei c (ai (ai (by decide) i0) ?_)
   refine bG (c.toNat≤102) (fun h4=>?_) fun h4=>?_
   ·refine ei d (ai (ai (by decide) i1) ?_)
    have hac:o9 c=true:=by unfold o9;rw[decide_eq_true h3,decide_eq_true h4];rfl
    refine ah (p:=d=112) (by exact dV rfl) (fun h5=>?_) (fun h5=>?_)
    ·refine eN (bP (resE (c :: d :: t))) ?_
     rw[show resE (c :: d :: t)=true by rw[hR,hac,h5,h2];simp]
     exact rfl
    ·refine ei d (ai (ai (by decide) i1) ?_)
     refine ah (p:=d=109) (by exact dV rfl) (fun h6=>?_) (fun h6=>?_)
     ·refine eN (bP (resE (c :: d :: t))) ?_
      rw[show resE (c :: d :: t)=true by rw[hR,hac,h6,h2];simp]
      exact rfl
     ·have hN:(o9 c&&((d :: t)==[112]||(d :: t)==[109]))=false:=by rw[hac,h2];simp[h5,h6]
      refine fR ((d :: t).length) (fun k=>[(3,.s (iA (k+1:Nat)))]) (fun k=>[]) (fun k=>∀x∈(d :: t).take k,eU x=true) (by exact (ai (ai (fun _=>rfl) (iE (by omega))) rfl)) (by exact trivial) ?_ ?_
      ·exact fun y hy=>absurd hy (by simp)
      intro (k:Nat) ⟨hk,hall⟩
      refine ah (p:=k<(d :: t).length) (by exact aA (by rw[hz];simp only[arJ];omega)) (fun h8=>?_) (fun h8=>?_)
      ·refine ei ((d :: t).getD k 0) (ai (ai (abw _) (nP (s:=c :: d :: t) (k:=k+1) (by simp at h8 ⊢;omega))) ?_)
       refine cK (aag) ((d :: t).getD k 0) (by exact rfl) (trivial) ?_
       refine aC (b:=!eU ((d :: t).getD k 0)) rfl (fun h9=>?_) (fun h9=>?_)
       ·have e:(d :: t).all eU=false:=by
         rw[auy]
         exact ⟨_,abu (bD 0 h8),by simpa using h9⟩
        refine eN (bP (resE (c :: d :: t))) ?_
        rw[hR,e,aue,ar5,hN]
        exact rfl
       refine nX (k) (ai (ai (fun _=>rfl) (aG (by omega))) rfl) trivial ?_
       intro y hy
       rw[aR 0 h8] at hy
       rcases acT.1 hy with hy | hy
       ·exact hall y hy
       ·simp only[aes] at hy;subst hy;simpa using h9
      ·obtain rfl:k=(d :: t).length:=by omega
       rw[acS] at hall
       have e:(d :: t).all eU=true:=aoP.2 hall
       refine ai (by decide) ?_
       refine ei (mK.unroll 11) ?_
       refine ai (ai (by decide) (by decide)) ?_
       refine ai rfl ?_
       refine ei c (ai (ai (by decide) i0) ?_)
       refine ah (p:=c=97) (by exact dV rfl) (fun m97=>?_) (fun m97=>?_)
       ·have e2:dX c=true:=by rw[m97];rfl
        refine eN (bP (resE (c :: d :: t))) ?_
        rw[hR,e,e2,aer,ajm]
        exact rfl
       refine ai (ai (by decide) (by decide)) ?_
       refine ai rfl ?_
       refine ei c (ai (ai (by decide) i0) ?_)
       refine ah (p:=c=98) (by exact dV rfl) (fun m98=>?_) (fun m98=>?_)
       ·have e2:dX c=true:=by rw[m98];rfl
        refine eN (bP (resE (c :: d :: t))) ?_
        rw[hR,e,e2,aer,ajm]
        exact rfl
       refine ai (ai (by decide) (by decide)) ?_
       refine ai rfl ?_
       refine ei c (ai (ai (by decide) i0) ?_)
       refine ah (p:=c=99) (by exact dV rfl) (fun m99=>?_) (fun m99=>?_)
       ·have e2:dX c=true:=by rw[m99];rfl
        refine eN (bP (resE (c :: d :: t))) ?_
        rw[hR,e,e2,aer,ajm]
        exact rfl
       refine ai (ai (by decide) (by decide)) ?_
       refine ai rfl ?_
       refine ei c (ai (ai (by decide) i0) ?_)
       refine ah (p:=c=100) (by exact dV rfl) (fun m100=>?_) (fun m100=>?_)
       ·have e2:dX c=true:=by rw[m100];rfl
        refine eN (bP (resE (c :: d :: t))) ?_
        rw[hR,e,e2,aer,ajm]
        exact rfl
       refine ai (ai (by decide) (by decide)) ?_
       refine ai rfl ?_
       refine ei c (ai (ai (by decide) i0) ?_)
       refine ah (p:=c=101) (by exact dV rfl) (fun m101=>?_) (fun m101=>?_)
       ·have e2:dX c=true:=by rw[m101];rfl
        refine eN (bP (resE (c :: d :: t))) ?_
        rw[hR,e,e2,aer,ajm]
        exact rfl
       refine ai (ai (by decide) (by decide)) ?_
       refine ai rfl ?_
       refine ei c (ai (ai (by decide) i0) ?_)
       refine ah (p:=c=102) (by exact dV rfl) (fun m102=>?_) (fun m102=>?_)
       ·have e2:dX c=true:=by rw[m102];rfl
        refine eN (bP (resE (c :: d :: t))) ?_
        rw[hR,e,e2,aer,ajm]
        exact rfl
       refine ai (ai (by decide) (by decide)) ?_
       refine ai rfl ?_
       refine ei c (ai (ai (by decide) i0) ?_)
       refine ah (p:=c=116) (by exact dV rfl) (fun m116=>?_) (fun m116=>?_)
       ·have e2:dX c=true:=by rw[m116];rfl
        refine eN (bP (resE (c :: d :: t))) ?_
        rw[hR,e,e2,aer,ajm]
        exact rfl
       refine ai (ai (by decide) (by decide)) ?_
       refine ai rfl ?_
       refine ei c (ai (ai (by decide) i0) ?_)
       refine ah (p:=c=120) (by exact dV rfl) (fun m120=>?_) (fun m120=>?_)
       ·have e2:dX c=true:=by rw[m120];rfl
        refine eN (bP (resE (c :: d :: t))) ?_
        rw[hR,e,e2,aer,ajm]
        exact rfl
       refine ai (ai (by decide) (by decide)) ?_
       refine ai rfl ?_
       refine ei c (ai (ai (by decide) i0) ?_)
       refine ah (p:=c=121) (by exact dV rfl) (fun m121=>?_) (fun m121=>?_)
       ·have e2:dX c=true:=by rw[m121];rfl
        refine eN (bP (resE (c :: d :: t))) ?_
        rw[hR,e,e2,aer,ajm]
        exact rfl
       refine ai (ai (by decide) (by decide)) ?_
       refine ai rfl ?_
       refine ei c (ai (ai (by decide) i0) ?_)
       refine ah (p:=c=122) (by exact dV rfl) (fun m122=>?_) (fun m122=>?_)
       ·have e2:dX c=true:=by rw[m122];rfl
        refine eN (bP (resE (c :: d :: t))) ?_
        rw[hR,e,e2,aer,ajm]
        exact rfl
       have e2:dX c=false:=by unfold dX;simp[m97,m98,m99,m100,m101,m102,m116,m120,m121,m122]
       refine eN (bP (resE (c :: d :: t))) ?_
       rw[hR,e2,apT,ar5,hN]
       exact rfl
   ·have hN:(o9 c&&((d :: t)==[112]||(d :: t)==[109]))=false:=by unfold o9;rw[decide_eq_false h4];simp
    refine fR ((d :: t).length) (fun k=>[(3,.s (iA (k+1:Nat)))]) (fun k=>[]) (fun k=>∀x∈(d :: t).take k,eU x=true) (by exact (ai (ai (fun _=>rfl) (iE (by omega))) rfl)) (by exact trivial) ?_ ?_
    ·exact fun y hy=>absurd hy (by simp)
    intro (k:Nat) ⟨hk,hall⟩
    refine ah (p:=k<(d :: t).length) (by exact aA (by rw[hz];simp only[arJ];omega)) (fun h8=>?_) (fun h8=>?_)
    ·refine ei ((d :: t).getD k 0) (ai (ai (abw _) (nP (s:=c :: d :: t) (k:=k+1) (by simp at h8 ⊢;omega))) ?_)
     refine cK (aag) ((d :: t).getD k 0) (by exact rfl) (trivial) ?_
     refine aC (b:=!eU ((d :: t).getD k 0)) rfl (fun h9=>?_) (fun h9=>?_)
     ·have e:(d :: t).all eU=false:=by
       rw[auy]
       exact ⟨_,abu (bD 0 h8),by simpa using h9⟩
      refine eN (bP (resE (c :: d :: t))) ?_
      rw[hR,e,aue,ar5,hN]
      exact rfl
     refine nX (k) (ai (ai (fun _=>rfl) (aG (by omega))) rfl) trivial ?_
     intro y hy
     rw[aR 0 h8] at hy
     rcases acT.1 hy with hy | hy
     ·exact hall y hy
     ·simp only[aes] at hy;subst hy;simpa using h9
    ·obtain rfl:k=(d :: t).length:=by omega
     rw[acS] at hall
     have e:(d :: t).all eU=true:=aoP.2 hall
     refine ai (by decide) ?_
     refine ei (mK.unroll 11) ?_
     refine ai (ai (by decide) (by decide)) ?_
     refine ai rfl ?_
     refine ei c (ai (ai (by decide) i0) ?_)
     refine ah (p:=c=97) (by exact dV rfl) (fun m97=>?_) (fun m97=>?_)
     ·have e2:dX c=true:=by rw[m97];rfl
      refine eN (bP (resE (c :: d :: t))) ?_
      rw[hR,e,e2,aer,ajm]
      exact rfl
     refine ai (ai (by decide) (by decide)) ?_
     refine ai rfl ?_
     refine ei c (ai (ai (by decide) i0) ?_)
     refine ah (p:=c=98) (by exact dV rfl) (fun m98=>?_) (fun m98=>?_)
     ·have e2:dX c=true:=by rw[m98];rfl
      refine eN (bP (resE (c :: d :: t))) ?_
      rw[hR,e,e2,aer,ajm]
      exact rfl
     refine ai (ai (by decide) (by decide)) ?_
     refine ai rfl ?_
     refine ei c (ai (ai (by decide) i0) ?_)
     refine ah (p:=c=99) (by exact dV rfl) (fun m99=>?_) (fun m99=>?_)
     ·have e2:dX c=true:=by rw[m99];rfl
      refine eN (bP (resE (c :: d :: t))) ?_
      rw[hR,e,e2,aer,ajm]
      exact rfl
     refine ai (ai (by decide) (by decide)) ?_
     refine ai rfl ?_
     refine ei c (ai (ai (by decide) i0) ?_)
     refine ah (p:=c=100) (by exact dV rfl) (fun m100=>?_) (fun m100=>?_)
     ·have e2:dX c=true:=by rw[m100];rfl
      refine eN (bP (resE (c :: d :: t))) ?_
      rw[hR,e,e2,aer,ajm]
      exact rfl
     refine ai (ai (by decide) (by decide)) ?_
     refine ai rfl ?_
     refine ei c (ai (ai (by decide) i0) ?_)
     refine ah (p:=c=101) (by exact dV rfl) (fun m101=>?_) (fun m101=>?_)
     ·have e2:dX c=true:=by rw[m101];rfl
      refine eN (bP (resE (c :: d :: t))) ?_
      rw[hR,e,e2,aer,ajm]
      exact rfl
     refine ai (ai (by decide) (by decide)) ?_
     refine ai rfl ?_
     refine ei c (ai (ai (by decide) i0) ?_)
     refine ah (p:=c=102) (by exact dV rfl) (fun m102=>?_) (fun m102=>?_)
     ·have e2:dX c=true:=by rw[m102];rfl
      refine eN (bP (resE (c :: d :: t))) ?_
      rw[hR,e,e2,aer,ajm]
      exact rfl
     refine ai (ai (by decide) (by decide)) ?_
     refine ai rfl ?_
     refine ei c (ai (ai (by decide) i0) ?_)
     refine ah (p:=c=116) (by exact dV rfl) (fun m116=>?_) (fun m116=>?_)
     ·have e2:dX c=true:=by rw[m116];rfl
      refine eN (bP (resE (c :: d :: t))) ?_
      rw[hR,e,e2,aer,ajm]
      exact rfl
     refine ai (ai (by decide) (by decide)) ?_
     refine ai rfl ?_
     refine ei c (ai (ai (by decide) i0) ?_)
     refine ah (p:=c=120) (by exact dV rfl) (fun m120=>?_) (fun m120=>?_)
     ·have e2:dX c=true:=by rw[m120];rfl
      refine eN (bP (resE (c :: d :: t))) ?_
      rw[hR,e,e2,aer,ajm]
      exact rfl
     refine ai (ai (by decide) (by decide)) ?_
     refine ai rfl ?_
     refine ei c (ai (ai (by decide) i0) ?_)
     refine ah (p:=c=121) (by exact dV rfl) (fun m121=>?_) (fun m121=>?_)
     ·have e2:dX c=true:=by rw[m121];rfl
      refine eN (bP (resE (c :: d :: t))) ?_
      rw[hR,e,e2,aer,ajm]
      exact rfl
     refine ai (ai (by decide) (by decide)) ?_
     refine ai rfl ?_
     refine ei c (ai (ai (by decide) i0) ?_)
     refine ah (p:=c=122) (by exact dV rfl) (fun m122=>?_) (fun m122=>?_)
     ·have e2:dX c=true:=by rw[m122];rfl
      refine eN (bP (resE (c :: d :: t))) ?_
      rw[hR,e,e2,aer,ajm]
      exact rfl
     have e2:dX c=false:=by unfold dX;simp[m97,m98,m99,m100,m101,m102,m116,m120,m121,m122]
     refine eN (bP (resE (c :: d :: t))) ?_
     rw[hR,e2,apT,ar5,hN]
     exact rfl
  ·have hN:(o9 c&&((d :: t)==[112]||(d :: t)==[109]))=false:=by unfold o9;rw[decide_eq_false h3];simp
   refine fR ((d :: t).length) (fun k=>[(3,.s (iA (k+1:Nat)))]) (fun k=>[]) (fun k=>∀x∈(d :: t).take k,eU x=true) (by exact (ai (ai (fun _=>rfl) (iE (by omega))) rfl)) (by exact trivial) ?_ ?_
   ·exact fun y hy=>absurd hy (by simp)
   intro (k:Nat) ⟨hk,hall⟩
   refine ah (p:=k<(d :: t).length) (by exact aA (by rw[hz];simp only[arJ];omega)) (fun h8=>?_) (fun h8=>?_)
   ·refine ei ((d :: t).getD k 0) (ai (ai (abw _) (nP (s:=c :: d :: t) (k:=k+1) (by simp at h8 ⊢;omega))) ?_)
    refine cK (aag) ((d :: t).getD k 0) (by exact rfl) (trivial) ?_
    refine aC (b:=!eU ((d :: t).getD k 0)) rfl (fun h9=>?_) (fun h9=>?_)
    ·have e:(d :: t).all eU=false:=by
      rw[auy]
      exact ⟨_,abu (bD 0 h8),by simpa using h9⟩
     refine eN (bP (resE (c :: d :: t))) ?_
     rw[hR,e,aue,ar5,hN]
     exact rfl
    refine nX (k) (ai (ai (fun _=>rfl) (aG (by omega))) rfl) trivial ?_
    intro y hy
    rw[aR 0 h8] at hy
    rcases acT.1 hy with hy | hy
    ·exact hall y hy
    ·simp only[aes] at hy;subst hy;simpa using h9
   ·obtain rfl:k=(d :: t).length:=by omega
    rw[acS] at hall
    have e:(d :: t).all eU=true:=aoP.2 hall
    refine ai (by decide) ?_
    refine ei (mK.unroll 11) ?_
    refine ai (ai (by decide) (by decide)) ?_
    refine ai rfl ?_
    refine ei c (ai (ai (by decide) i0) ?_)
    refine ah (p:=c=97) (by exact dV rfl) (fun m97=>?_) (fun m97=>?_)
    ·have e2:dX c=true:=by rw[m97];rfl
     refine eN (bP (resE (c :: d :: t))) ?_
     rw[hR,e,e2,aer,ajm]
     exact rfl
    refine ai (ai (by decide) (by decide)) ?_
    refine ai rfl ?_
    refine ei c (ai (ai (by decide) i0) ?_)
    refine ah (p:=c=98) (by exact dV rfl) (fun m98=>?_) (fun m98=>?_)
    ·have e2:dX c=true:=by rw[m98];rfl
     refine eN (bP (resE (c :: d :: t))) ?_
     rw[hR,e,e2,aer,ajm]
     exact rfl
    refine ai (ai (by decide) (by decide)) ?_
    refine ai rfl ?_
    refine ei c (ai (ai (by decide) i0) ?_)
    refine ah (p:=c=99) (by exact dV rfl) (fun m99=>?_) (fun m99=>?_)
    ·have e2:dX c=true:=by rw[m99];rfl
     refine eN (bP (resE (c :: d :: t))) ?_
     rw[hR,e,e2,aer,ajm]
     exact rfl
    refine ai (ai (by decide) (by decide)) ?_
    refine ai rfl ?_
    refine ei c (ai (ai (by decide) i0) ?_)
    refine ah (p:=c=100) (by exact dV rfl) (fun m100=>?_) (fun m100=>?_)
    ·have e2:dX c=true:=by rw[m100];rfl
     refine eN (bP (resE (c :: d :: t))) ?_
     rw[hR,e,e2,aer,ajm]
     exact rfl
    refine ai (ai (by decide) (by decide)) ?_
    refine ai rfl ?_
    refine ei c (ai (ai (by decide) i0) ?_)
    refine ah (p:=c=101) (by exact dV rfl) (fun m101=>?_) (fun m101=>?_)
    ·have e2:dX c=true:=by rw[m101];rfl
     refine eN (bP (resE (c :: d :: t))) ?_
     rw[hR,e,e2,aer,ajm]
     exact rfl
    refine ai (ai (by decide) (by decide)) ?_
    refine ai rfl ?_
    refine ei c (ai (ai (by decide) i0) ?_)
    refine ah (p:=c=102) (by exact dV rfl) (fun m102=>?_) (fun m102=>?_)
    ·have e2:dX c=true:=by rw[m102];rfl
     refine eN (bP (resE (c :: d :: t))) ?_
     rw[hR,e,e2,aer,ajm]
     exact rfl
    refine ai (ai (by decide) (by decide)) ?_
    refine ai rfl ?_
    refine ei c (ai (ai (by decide) i0) ?_)
    refine ah (p:=c=116) (by exact dV rfl) (fun m116=>?_) (fun m116=>?_)
    ·have e2:dX c=true:=by rw[m116];rfl
     refine eN (bP (resE (c :: d :: t))) ?_
     rw[hR,e,e2,aer,ajm]
     exact rfl
    refine ai (ai (by decide) (by decide)) ?_
    refine ai rfl ?_
    refine ei c (ai (ai (by decide) i0) ?_)
    refine ah (p:=c=120) (by exact dV rfl) (fun m120=>?_) (fun m120=>?_)
    ·have e2:dX c=true:=by rw[m120];rfl
     refine eN (bP (resE (c :: d :: t))) ?_
     rw[hR,e,e2,aer,ajm]
     exact rfl
    refine ai (ai (by decide) (by decide)) ?_
    refine ai rfl ?_
    refine ei c (ai (ai (by decide) i0) ?_)
    refine ah (p:=c=121) (by exact dV rfl) (fun m121=>?_) (fun m121=>?_)
    ·have e2:dX c=true:=by rw[m121];rfl
     refine eN (bP (resE (c :: d :: t))) ?_
     rw[hR,e,e2,aer,ajm]
     exact rfl
    refine ai (ai (by decide) (by decide)) ?_
    refine ai rfl ?_
    refine ei c (ai (ai (by decide) i0) ?_)
    refine ah (p:=c=122) (by exact dV rfl) (fun m122=>?_) (fun m122=>?_)
    ·have e2:dX c=true:=by rw[m122];rfl
     refine eN (bP (resE (c :: d :: t))) ?_
     rw[hR,e,e2,aer,ajm]
     exact rfl
    have e2:dX c=false:=by unfold dX;simp[m97,m98,m99,m100,m101,m102,m116,m120,m121,m122]
    refine eN (bP (resE (c :: d :: t))) ?_
    rw[hR,e2,apT,ar5,hN]
    exact rfl
 ·have hN:(o9 c&&((d :: t)==[112]||(d :: t)==[109]))=false:=by
   cases t with
   | nil=>exact absurd rfl h2
   | cons y t=>simp
  refine fR ((d :: t).length) (fun k=>[(3,.s (iA (k+1:Nat)))]) (fun k=>[]) (fun k=>∀x∈(d :: t).take k,eU x=true) (by exact (ai (ai (fun _=>rfl) (iE (by omega))) rfl)) (by exact trivial) ?_ ?_
  ·exact fun y hy=>absurd hy (by simp)
  intro (k:Nat) ⟨hk,hall⟩
  refine ah (p:=k<(d :: t).length) (by exact aA (by rw[hz];simp only[arJ];omega)) (fun h8=>?_) (fun h8=>?_)
  ·refine ei ((d :: t).getD k 0) (ai (ai (abw _) (nP (s:=c :: d :: t) (k:=k+1) (by simp at h8 ⊢;omega))) ?_)
   refine cK (aag) ((d :: t).getD k 0) (by exact rfl) (trivial) ?_
   refine aC (b:=!eU ((d :: t).getD k 0)) rfl (fun h9=>?_) (fun h9=>?_)
   ·have e:(d :: t).all eU=false:=by
     rw[auy]
     exact ⟨_,abu (bD 0 h8),by simpa using h9⟩
    refine eN (bP (resE (c :: d :: t))) ?_
    rw[hR,e,aue,ar5,hN]
    exact rfl
   refine nX (k) (ai (ai (fun _=>rfl) (aG (by omega))) rfl) trivial ?_
   intro y hy
   rw[aR 0 h8] at hy
   rcases acT.1 hy with hy | hy
   ·exact hall y hy
   ·simp only[aes] at hy;subst hy;simpa using h9
  ·obtain rfl:k=(d :: t).length:=by omega
   rw[acS] at hall
   have e:(d :: t).all eU=true:=aoP.2 hall
   refine ai (by decide) ?_
   refine ei (mK.unroll 11) ?_
   refine ai (ai (by decide) (by decide)) ?_
   refine ai rfl ?_
   refine ei c (ai (ai (by decide) i0) ?_)
   refine ah (p:=c=97) (by exact dV rfl) (fun m97=>?_) (fun m97=>?_)
   ·have e2:dX c=true:=by rw[m97];rfl
    refine eN (bP (resE (c :: d :: t))) ?_
    rw[hR,e,e2,aer,ajm]
    exact rfl
   refine ai (ai (by decide) (by decide)) ?_
   refine ai rfl ?_
   refine ei c (ai (ai (by decide) i0) ?_)
   refine ah (p:=c=98) (by exact dV rfl) (fun m98=>?_) (fun m98=>?_)
   ·have e2:dX c=true:=by rw[m98];rfl
    refine eN (bP (resE (c :: d :: t))) ?_
    rw[hR,e,e2,aer,ajm]
    exact rfl
   refine ai (ai (by decide) (by decide)) ?_
   refine ai rfl ?_
   refine ei c (ai (ai (by decide) i0) ?_)
   refine ah (p:=c=99) (by exact dV rfl) (fun m99=>?_) (fun m99=>?_)
   ·have e2:dX c=true:=by rw[m99];rfl
    refine eN (bP (resE (c :: d :: t))) ?_
    rw[hR,e,e2,aer,ajm]
    exact rfl
   refine ai (ai (by decide) (by decide)) ?_
   refine ai rfl ?_
   refine ei c (ai (ai (by decide) i0) ?_)
   refine ah (p:=c=100) (by exact dV rfl) (fun m100=>?_) (fun m100=>?_)
   ·have e2:dX c=true:=by rw[m100];rfl
    refine eN (bP (resE (c :: d :: t))) ?_
    rw[hR,e,e2,aer,ajm]
    exact rfl
   refine ai (ai (by decide) (by decide)) ?_
   refine ai rfl ?_
   refine ei c (ai (ai (by decide) i0) ?_)
   refine ah (p:=c=101) (by exact dV rfl) (fun m101=>?_) (fun m101=>?_)
   ·have e2:dX c=true:=by rw[m101];rfl
    refine eN (bP (resE (c :: d :: t))) ?_
    rw[hR,e,e2,aer,ajm]
    exact rfl
   refine ai (ai (by decide) (by decide)) ?_
   refine ai rfl ?_
   refine ei c (ai (ai (by decide) i0) ?_)
   refine ah (p:=c=102) (by exact dV rfl) (fun m102=>?_) (fun m102=>?_)
   ·have e2:dX c=true:=by rw[m102];rfl
    refine eN (bP (resE (c :: d :: t))) ?_
    rw[hR,e,e2,aer,ajm]
    exact rfl
   refine ai (ai (by decide) (by decide)) ?_
   refine ai rfl ?_
   refine ei c (ai (ai (by decide) i0) ?_)
   refine ah (p:=c=116) (by exact dV rfl) (fun m116=>?_) (fun m116=>?_)
   ·have e2:dX c=true:=by rw[m116];rfl
    refine eN (bP (resE (c :: d :: t))) ?_
    rw[hR,e,e2,aer,ajm]
    exact rfl
   refine ai (ai (by decide) (by decide)) ?_
   refine ai rfl ?_
   refine ei c (ai (ai (by decide) i0) ?_)
   refine ah (p:=c=120) (by exact dV rfl) (fun m120=>?_) (fun m120=>?_)
   ·have e2:dX c=true:=by rw[m120];rfl
    refine eN (bP (resE (c :: d :: t))) ?_
    rw[hR,e,e2,aer,ajm]
    exact rfl
   refine ai (ai (by decide) (by decide)) ?_
   refine ai rfl ?_
   refine ei c (ai (ai (by decide) i0) ?_)
   refine ah (p:=c=121) (by exact dV rfl) (fun m121=>?_) (fun m121=>?_)
   ·have e2:dX c=true:=by rw[m121];rfl
    refine eN (bP (resE (c :: d :: t))) ?_
    rw[hR,e,e2,aer,ajm]
    exact rfl
   refine ai (ai (by decide) (by decide)) ?_
   refine ai rfl ?_
   refine ei c (ai (ai (by decide) i0) ?_)
   refine ah (p:=c=122) (by exact dV rfl) (fun m122=>?_) (fun m122=>?_)
   ·have e2:dX c=true:=by rw[m122];rfl
    refine eN (bP (resE (c :: d :: t))) ?_
    rw[hR,e,e2,aer,ajm]
    exact rfl
   have e2:dX c=false:=by unfold dX;simp[m97,m98,m99,m100,m101,m102,m116,m120,m121,m122]
   refine eN (bP (resE (c :: d :: t))) ?_
   rw[hR,e2,apT,ar5,hN]
   exact rfl
def aaW (l:List UInt8) (k:Nat):PV:=bP (l.any fun y=>y.toNat==k)
theorem yc:∀(l:List Value) (k:Nat),nV (vals l) k=.val (l.getD k undef)
 | [],k=>rfl
 | v :: l,0=>rfl
 | v :: l,k+1=>by
  show nV (vals l) k=_
  rw[yc l k];rfl
theorem agR (n:Nat) (v:Value) {k:Nat} (h:k<n):(List.replicate n v).getD k undef=v:=by
 rw[aaG,axl,if_pos h];rfl
theorem ao6 {l:List UInt8} {c:UInt8} (k:Nat):vS (aaW l) c.toNat (bP true) k=aaW (l++[c]) k:=by
 unfold vS aaW
 rw[axW]
 by_cases h:k=c.toNat
 ·rw[if_pos h];subst h;simp
 ·rw[if_neg h]
  have:(c.toNat==k)=false:=by simpa using fun e=>h e.symm
  simp[this]
def avu:Spec:=bC (fun l:List UInt8=>[sA l]) (fun l=>l.length≤1000∧∀y∈l,y.toNat<128) (fun l=>.tup [.arr 256 (aaW l),bP true])
theorem aqj:av Tryz.prog 293 avu:=by
 refine vF Tryz.func293 ?_
 rintro (l:List UInt8) hpre
 obtain ⟨hl,ha⟩:=hpre
 have hl:l.length≤1000:=hl
 have hz:=cO l
 refine fR (l.length) (fun k=>[(4,.s (iA k))]) (fun k=>[⟨0,323,[.ob (.arr 323 256 (aaW (l.take k)))]⟩]) (fun k=>True) ?_ ?_ ?_ ?_
 ·exact (ai (ai (fun _=>rfl) (iE (by omega))) rfl)
 ·refine (ai (ai rfl (ai rfl ?_)) trivial)
  intro k hk
  show nV (vals (List.replicate 256 (.bool false))) k=_
  rw[yc,agR 256 _ hk];rfl
 ·trivial
 intro (k:Nat) ⟨hk,_⟩
 refine ah (p:=k<l.length) (by exact aA (by rw[hz];omega)) (fun h1=>?_) (fun h1=>?_)
 ·refine ei (l.getD k 0) (ai (ai (abw _) (nP h1)) ?_)
  have hc:=ha _ (abu (bD 0 h1))
  refine bG (128≤(l.getD k 0).toNat) (fun h2=>?_) fun h2=>?_
  ·omega
  refine ai (ai (abw _) (by show (((l.getD k 0).toNat:Nat):Int)<256;omega)) ?_
  refine ai (by show 0+(((l.getD k 0).toNat:Nat):Int).toNat*1<256;rw[aeI];omega) ?_
  refine nX (k) (ai (ai (fun _=>rfl) (aG (by omega))) rfl) (ai (ai rfl (ai rfl ?_)) trivial) trivial
  intro j hj
  show vS (aaW (l.take k)) (0+(((l.getD k 0).toNat:Nat):Int).toNat*1) (bP true) j=_
  rw[aeI,auZ,ahv,ao6,aR 0 h1]
 ·obtain rfl:k=l.length:=by omega
  rw[acS]
  refine eN _ ?_
  exact (ai (ai rfl (fun _ _=>rfl)) rfl)
def gY (l:List UInt8) (c:UInt8):Bool:=l.any fun y=>y.toNat==c.toNat
def awd:Spec:={ A:=List UInt8×UInt8,args:=fun a=>[.own 0 0,cA a.2],objs:=fun a=>[.arr 323 256 (aaW a.1)],pre:=fun _=>True,res:=fun a=>bP (gY a.1 a.2),objs':=fun _=>[],fresh:=true,ro:=1 }
theorem alN:av Tryz.prog 306 awd:=by
 refine vF Tryz.func306 ?_
 rintro (a:List UInt8×UInt8) hpre
 have hc:a.2.toNat<256:=a.2.toNat_lt
 have e0:0+((a.2.toNat:Nat):Int).toNat*1=a.2.toNat:=by simp
 refine ai (ai (abw _) (by show ((a.2.toNat:Nat):Int)<256;omega)) ?_
 refine ai (by show 0+((a.2.toNat:Nat):Int).toNat*1<256;rw[e0];exact hc) ?_
 refine ai (ai (fun _=>trivial) ?_) trivial
 show (a.1.any fun y=>y.toNat==0+((a.2.toNat:Nat):Int).toNat*1)=_
 rw[e0];rfl
def xU (p:UInt8→Bool) (s:List UInt8):Nat→Nat
 | 0=>0
 | k+1=>if p (s.getD k 0) then xU p s k else k+1
def trR (p:UInt8→Bool) (s:List UInt8):List UInt8:=s.take (xU p s s.length)
theorem akU (s:List UInt8) (k:Nat):(strOf s).extract 0 k=strOf (s.take k):=by
 apply ByteArray.ext
 simp[strOf]
theorem akt (s:List UInt8) (k:Nat):(strOf s).extract k (strOf s).size=strOf (s.drop k):=by
 apply ByteArray.ext
 have:(strOf s).size=s.length:=cO s
 rw[this]
 simp[strOf]
 rw[avB (by simp)]
def aun (g:List UInt8→List UInt8→List UInt8):Spec:={ A:=List UInt8×List UInt8,args:=fun a=>[sA a.2,.own 0 0],objs:=fun a=>[.arr 323 256 (aaW a.1)],pre:=fun a=>a.2.length≤1000000,res:=fun a=>sP (g a.1 a.2),objs':=fun _=>[],fresh:=true,ro:=1 }
theorem aqo:av Tryz.prog 295 (aun fun l s=>trR (gY l) s):=by
 refine vF Tryz.func295 ?_
 rintro (a:List UInt8×List UInt8) hpre
 have hl:a.2.length≤1000000:=hpre
 refine ei (mK.inv { X:=Nat,up:=fun k=>[(0,.s (sA (a.2.take k)))],uo:=fun _=>[],inv:=fun k=>k≤a.2.length∧xU (gY a.1) a.2 a.2.length=xU (gY a.1) a.2 k,meas:=fun k=>k,x0:=a.2.length }) ?_
 refine ai (ai (ai (by exact (a4 (ai rfl rfl))) (ai ?_ ?_)) ?_) (ai ?_ ?_)
 ·refine (ai (ai nof ?_) rfl)
  show strOf a.2=strOf (a.2.take a.2.length)
  rw[acS]
 ·exact trivial
 ·rfl
 ·exact ⟨acM _,rfl⟩
 intro (k:Nat) ⟨hk,hinv⟩
 have htl:(a.2.take k).length=k:=by rw[al5];omega
 have hz:(strOf (a.2.take k)).size=k:=by rw[cO,htl]
 refine ah (p:=0<k) (by exact aA (by show (0:Int)<(((strOf (a.2.take k)).size:Nat):Int)↔_;rw[hz];omega)) (fun h1=>?_) (fun h1=>?_)
 ·obtain ⟨k,rfl⟩:∃j,k=j+1:=⟨k-1,by omega⟩
  have hw:IntKind.i64.wrap ((((strOf (a.2.take (k+1))).size:Nat):Int)-1)=(k:Int):=by rw[hz,kJ (by omega) (by omega)];omega
  have hg:(a.2.take (k+1)).getD k 0=a.2.getD k 0:=by rw[aaG,aaG,ar8,if_pos (by omega)]
  refine ei (a.2.getD k 0) (ai (ai (by rw[hw];exact abw _) (by rw[hw,←hg];exact nP (by omega))) ?_)
  refine ei _ (ai (alN) (ei ((a.1,a.2.getD k 0)) (ei [0] (ai (a4 (ai (fun _=>Or.inl rfl) (ai nof (Or.inl rfl)))) (ai (by exact (ai (ai rfl rfl) rfl)) (ai (by exact (ai rfl (ai rfl (fun _ _=>rfl)))) (ai (trivial) ?_)))))))
  have hT:xU (gY a.1) a.2 (k+1)=if gY a.1 (a.2.getD k 0) then xU (gY a.1) a.2 k else k+1:=rfl
  refine aC (b:=!gY a.1 (a.2.getD k 0)) rfl (fun h2=>?_) (fun h2=>?_)
  ·have h2:gY a.1 (a.2.getD k 0)=false:=by simpa using h2
   have e:trR (gY a.1) a.2=a.2.take (k+1):=by
    unfold trR;rw[hinv,hT,h2];rfl
   refine eN (sP (trR (gY a.1) a.2)) ?_
   rw[e]
   exact rfl
  ·have h2:gY a.1 (a.2.getD k 0)=true:=by simpa using h2
   refine ai (ai (by decide) (ai (by rw[hw];exact abw _) (by rw[hw,hz];omega))) ?_
   refine ei (k) (ai (ai rfl rfl) (ai (ai ?_ ?_) (ai ?_ ?_)))
   ·refine (ai rfl (ai (ai rfl rfl) (ai (ai rfl rfl) (ai (ai (ai (fun _=>rfl) ?_) rfl) trivial))))
    show (strOf (a.2.take (k+1))).extract 0 (IntKind.i64.wrap ((((strOf (a.2.take (k+1))).size:Nat):Int)-1)).toNat=strOf (a.2.take k)
    rw[hw,aeI,akU,List.take_take,Nat.min_eq_left (by omega)]
   ·rfl
   ·exact ⟨by omega,by rw[hinv,hT,h2];rfl⟩
   ·show k<k+1;omega
 ·obtain rfl:k=0:=by omega
  have e:trR (gY a.1) a.2=a.2.take 0:=by
   unfold trR;rw[hinv];rfl
  refine eN (sP (trR (gY a.1) a.2)) ?_
  rw[e]
  exact rfl
theorem arb:av Tryz.prog 294 (aun fun l s=>s.dropWhile (gY l)):=by
 refine vF Tryz.func294 ?_
 rintro (a:List UInt8×List UInt8) hpre
 have hl:a.2.length≤1000000:=hpre
 refine ei (mK.inv { X:=Nat,up:=fun k=>[(0,.s (sA (a.2.drop k)))],uo:=fun _=>[],inv:=fun k=>k≤a.2.length∧a.2.dropWhile (gY a.1)=(a.2.drop k).dropWhile (gY a.1),meas:=fun k=>a.2.length-k,x0:=0 }) ?_
 refine ai (ai (ai (by exact (a4 (ai rfl rfl))) (ai ?_ ?_)) ?_) (ai ?_ ?_)
 ·exact (ai (ai nof rfl) rfl)
 ·exact trivial
 ·rfl
 ·exact ⟨alr _,rfl⟩
 intro (k:Nat) ⟨hk,hinv⟩
 have htl:(a.2.drop k).length=a.2.length-k:=List.length_drop
 have hz:(strOf (a.2.drop k)).size=a.2.length-k:=by rw[cO,htl]
 refine ah (p:=k<a.2.length) (by exact aA (by show (0:Int)<(((strOf (a.2.drop k)).size:Nat):Int)↔_;rw[hz];omega)) (fun h1=>?_) (fun h1=>?_)
 ·have hcons:a.2.drop k=a.2.getD k 0 :: a.2.drop (k+1):=by
   rw[axv h1,aaG,aaX h1];rfl
  refine ei (a.2.getD k 0) (ai (ai (by decide) (by rw[hcons];rfl)) ?_)
  refine ei _ (ai (alN) (ei ((a.1,a.2.getD k 0)) (ei [0] (ai (a4 (ai (fun _=>Or.inl rfl) (ai nof (Or.inl rfl)))) (ai (by exact (ai (ai rfl rfl) rfl)) (ai (by exact (ai rfl (ai rfl (fun _ _=>rfl)))) (ai (trivial) ?_)))))))
  refine aC (b:=!gY a.1 (a.2.getD k 0)) rfl (fun h2=>?_) (fun h2=>?_)
  ·have h2:gY a.1 (a.2.getD k 0)=false:=by simpa using h2
   have e:a.2.dropWhile (gY a.1)=a.2.drop k:=by
    rw[hinv,hcons,axZ,if_neg (by rw[h2];decide)]
   refine eN (sP (a.2.dropWhile (gY a.1))) ?_
   rw[e]
   exact rfl
  ·have h2:gY a.1 (a.2.getD k 0)=true:=by simpa using h2
   refine ai (ai (by decide) (ai (by rw[hz];omega) (awF _))) ?_
   refine ei ((k+1)) (ai (ai rfl rfl) (ai (ai ?_ ?_) (ai ?_ ?_)))
   ·refine (ai rfl (ai (ai rfl rfl) (ai (ai rfl rfl) (ai (ai (ai (fun _=>rfl) ?_) rfl) trivial))))
    show (strOf (a.2.drop k)).extract 1 ((((strOf (a.2.drop k)).size:Nat):Int)).toNat=strOf (a.2.drop (k+1))
    rw[aeI,akt,List.drop_drop]
   ·rfl
   ·exact ⟨h1,by rw[hinv,hcons,axZ,if_pos h2]⟩
   ·show a.2.length-(k+1)<a.2.length-k;omega
 ·have e:a.2.dropWhile (gY a.1)=a.2.drop k:=by
   rw[hinv,axL (by omega)];rfl
  refine eN (sP (a.2.dropWhile (gY a.1))) ?_
  rw[e]
  exact rfl
def oD:List UInt8:=[48,49,50,51,52,53,54,55,56,57]
def aiL (s:List UInt8):List UInt8:=(trR (gY oD) s).dropWhile (gY oD)
theorem asy:av Tryz.prog 285 (bC (fun s:List UInt8=>[sA s,sA oD]) (fun s=>s.length≤1000000) (fun s=>sP (aiL s))):=by
 refine vF Tryz.func285 ?_
 rintro (s:List UInt8) hpre
 have hl:s.length≤1000000:=hpre
 refine ah (p:=s=[]) (by show (s==[])=true↔_;exact beq_iff_eq) (fun h1=>?_) (fun h1=>?_)
 ·subst h1
  refine eN _ ?_
  exact rfl
 refine cK (aqj) (oD) (by exact rfl) (⟨by show oD.length≤1000;decide,by decide⟩) ?_
 refine ei _ (ai (aqo) (ei ((oD,s)) (ei [0] (ai (a4 (ai (fun _=>Or.inl rfl) (ai nof (Or.inl rfl)))) (ai (by exact (ai rfl (ai rfl rfl))) (ai (by exact (ai rfl (ai rfl (fun _ _=>rfl)))) (ai (hl) ?_)))))))
 refine ei _ (ai (arb) (ei ((oD,trR (gY oD) s)) (ei [0] (ai (a4 (ai (fun _=>Or.inl rfl) (ai nof (Or.inl rfl)))) (ai (by exact (ai rfl (ai rfl rfl))) (ai (by exact (ai rfl (ai rfl (fun _ _=>rfl)))) (ai ((by show (trR (gY oD) s).length≤1000000;unfold trR;rw[al5];omega)) ?_)))))))
 refine eN _ ?_
 exact rfl
theorem arw (c:UInt8):gY oD c=eU c:=by
 rw[auc]
 unfold gY oD eU
 simp only[axF,axX,axM,arQ,abx,beq_iff_eq,decide_eq_true_eq]
 have h48:(48:UInt8).toNat=48:=rfl
 have h49:(49:UInt8).toNat=49:=rfl
 have h50:(50:UInt8).toNat=50:=rfl
 have h51:(51:UInt8).toNat=51:=rfl
 have h52:(52:UInt8).toNat=52:=rfl
 have h53:(53:UInt8).toNat=53:=rfl
 have h54:(54:UInt8).toNat=54:=rfl
 have h55:(55:UInt8).toNat=55:=rfl
 have h56:(56:UInt8).toNat=56:=rfl
 have h57:(57:UInt8).toNat=57:=rfl
 omega
theorem al9 {p:UInt8→Bool} {s:List UInt8}:∀{k:Nat},(∀j,j<k→p (s.getD j 0)=true)→xU p s k=0
 | 0,_=>rfl
 | k+1,h=>by rw[xU,if_pos (h k (by omega))];exact al9 fun j hj=>h j (by omega)
theorem al4 {p:UInt8→Bool} {s:List UInt8}:∀{k:Nat},xU p s k≠0→∃j,xU p s k=j+1∧p (s.getD j 0)=false∧j<k
 | 0,h=>absurd rfl h
 | k+1,h=>by
  by_cases hp:p (s.getD k 0)=true
  ·rw[xU,if_pos hp] at h ⊢
   obtain ⟨j,h1,h2,h3⟩:=al4 h
   exact ⟨j,h1,h2,by omega⟩
  ·rw[xU,if_neg hp]
   exact ⟨k,rfl,by simpa using hp,by omega⟩
theorem ah4 {p:UInt8→Bool}:∀{l:List UInt8},l.dropWhile p=[]↔∀x∈l,p x=true
 | []=>by simp
 | y :: l=>by
  rw[axZ]
  by_cases h:p y=true
  ·rw[if_pos h,ah4];simp[h]
  ·rw[if_neg h];simp[h]
theorem ape (s:List UInt8):(aiL s==[])=s.all eU:=by
 have hset:gY oD=eU:=funext arw
 unfold aiL
 rw[hset,auc,beq_iff_eq,ah4,aoP]
 constructor
 ·intro h
  by_cases h0:xU eU s s.length=0
  ·intro x hx
   refine Classical.byContradiction fun hn=>?_
   obtain ⟨k,hk,rfl⟩:=arM hx
   have:∀m,k<m→xU eU s m≠0:=by
    intro m hm
    induction m with
    | zero=>omega
    | succ m ih=>
     rw[xU]
     by_cases e:k=m
     ·subst e
      rw[if_neg (by rw[aaG,aaX hk];exact hn)]
      omega
     ·split
      ·exact ih (by omega)
      ·omega
   exact this _ hk h0
  ·obtain ⟨j,h1,h2,h3⟩:=al4 h0
   have:s.getD j 0∈trR eU s:=by
    unfold trR
    rw[h1,aR 0 h3];simp
   have:=h _ this
   rw[h2] at this;cases this
 ·intro h x hx
  have:xU eU s s.length=0:=al9 fun j hj=>h _ (abu (bD 0 hj))
  unfold trR at hx
  rw[this] at hx;simp at hx
theorem apc:av Tryz.prog 276 (bC (fun s:List UInt8=>[sA s]) (fun s=>s.length≤1000000) (fun s=>bP (!s.isEmpty&&s.all eU))):=by
 refine vF Tryz.func276 ?_
 rintro (s:List UInt8) hpre
 have hl:s.length≤1000000:=hpre
 refine aW (p:=s=[]) (by show (s != [])=true↔_;exact bne_iff_ne) (fun h1=>?_) (fun h1=>?_)
 ·refine cK (asy) (s) (by exact (ai rfl rfl)) (hl) ?_
  have h2:s.isEmpty=false:=by cases s with | nil=>exact absurd rfl h1 | cons x l=>rfl
  refine eN (bP (!s.isEmpty&&s.all eU)) ?_
  rw[show (!s.isEmpty&&s.all eU)=(aiL s==[]) by rw[h2,ape];rfl]
  exact rfl
 ·refine eN (bP (!s.isEmpty&&s.all eU)) ?_
  rw[show (!s.isEmpty&&s.all eU)=false by rw[h1];rfl]
  exact rfl
theorem alD (c:UInt8):(([97,98,99,100,101,102]:List UInt8).any fun y=>c==y)=o9 c:=by
 rw[auc]
 unfold o9
 have h97:(97:UInt8).toNat=97:=rfl
 have h98:(98:UInt8).toNat=98:=rfl
 have h99:(99:UInt8).toNat=99:=rfl
 have h100:(100:UInt8).toNat=100:=rfl
 have h101:(101:UInt8).toNat=101:=rfl
 have h102:(102:UInt8).toNat=102:=rfl
 simp only[axF,axX,axM,arQ,abx,beq_iff_eq,decide_eq_true_eq,←UInt8.toNat_inj]
 omega
theorem asH:av Tryz.prog 251 (bC (fun s:List UInt8=>[sA s]) (fun s=>s.length≤1000000) (fun s=>bP (resE s))):=by
 refine vF Tryz.func251 ?_
 rintro (s:List UInt8) hpre
 have hl:s.length≤1000000:=hpre
 refine ah (p:=s=[]) (by show (s==[])=true↔_;exact beq_iff_eq) (fun h1=>?_) (fun h1=>?_)
 ·subst h1
  refine eN _ ?_
  exact rfl
 obtain ⟨c,t,rfl⟩:∃c t,s=c :: t:=by
  cases s with
  | nil=>exact absurd rfl h1
  | cons c t=>exact ⟨c,t,rfl⟩
 have hz:(strOf (c :: t)).size=t.length+1:=by rw[cO];rfl
 have e1:(strOf (c :: t)).extract (0:Int).toNat (1:Int).toNat=strOf [c]:=akU (c :: t) 1
 have e2:(strOf (c :: t)).extract (1:Int).toNat ((((strOf (c :: t)).size:Nat):Int)).toNat=strOf t:=by rw[aeI];exact akt (c :: t) 1
 have hR:resE (c :: t)=(!t.isEmpty&&((dX c&&t.all eU)||(o9 c&&(t==[112]||t==[109])))):=rfl
 have b1:(0:Int)≤0∧(0:Int)≤1∧(1:Int)≤(((strOf (c :: t)).size:Nat):Int):=⟨by decide,by decide,by rw[hz];omega⟩
 have b2:(0:Int)≤1∧(1:Int)≤(((strOf (c :: t)).size:Nat):Int)∧(((strOf (c :: t)).size:Nat):Int)≤(((strOf (c :: t)).size:Nat):Int):=⟨by decide,by rw[hz];omega,awF _⟩
 have ht:t.length≤1000000:=by simp at hl;omega
 have e3:∀y:UInt8,(((strOf (c :: t)).extract (1:Int).toNat ((((strOf (c :: t)).size:Nat):Int)).toNat).data.toList==[y])=true↔t=[y]:=fun y=>by rw[e2];exact beq_iff_eq
 refine ai b1 ?_
 refine ei _ (ai (agK) (ei (([97,98,99,100,101,102,116,120,121,122],c)) (ei [] (ai (a4 (ai (fun _=>Or.inl rfl) (ai nof (Or.inl rfl)))) (ai ?_ (ai (by exact trivial) (ai (trivial) ?_)))))))
 ·refine (ai rfl ?_)
  exact e1
 refine ah (p:=dX c=true) (by exact Iff.rfl) (fun h2=>?_) (fun h2=>?_)
 ·refine ai b2 ?_
  refine ei _ (ai (apc) (ei (t) (ei [] (ai (a4 (ai (fun _=>Or.inl rfl) (ai nof (Or.inl rfl)))) (ai ?_ (ai (by exact trivial) (ai (ht) ?_)))))))
  ·skip
   exact e2
  refine ah (p:=(!t.isEmpty&&t.all eU)=true) (by exact Iff.rfl) (fun h3=>?_) (fun h3=>?_)
  ·refine eN (bP (resE (c :: t))) ?_
   rw[show resE (c :: t)=true by rw[hR,h2];simp at h3 ⊢;exact ⟨h3.1,.inl h3.2⟩]
   exact rfl
  ·have hN:resE (c :: t)=(o9 c&&(t==[112]||t==[109])):=by
    rw[hR]
    cases t with
    | nil=>simp
    | cons y t=>
     have h3:¬((y :: t).all eU)=true:=fun e=>h3 (by rw[e];rfl)
     rw[awH.2 h3];simp
   refine ai b1 ?_
   refine ei _ (ai (agK) (ei (([97,98,99,100,101,102],c)) (ei [] (ai (a4 (ai (fun _=>Or.inl rfl) (ai nof (Or.inl rfl)))) (ai ?_ (ai (by exact trivial) (ai (trivial) ?_)))))))
   ·refine (ai rfl ?_)
    exact e1
   refine ah (p:=o9 c=true) (by rw[alD]) (fun h4=>?_) (fun h4=>?_)
   ·refine ai b2 ?_
    refine ah (p:=t=[112]) (by exact e3 112) (fun h5=>?_) (fun h5=>?_)
    ·refine eN (bP (resE (c :: t))) ?_
     rw[hN,h4,h5]
     exact rfl
    ·refine ai b2 ?_
     refine eN (bP (resE (c :: t))) ?_
     rw[hN,h4,e2]
     skip
     show (t==[109])=(true&&(t==[112]||t==[109]))
     rw[show (t==[112])=false by simpa using h5];rfl
   ·refine eN (bP (resE (c :: t))) ?_
    rw[hN,awH.2 h4,apT]
    exact rfl
 ·have hN:resE (c :: t)=(o9 c&&(t==[112]||t==[109])):=by
   rw[hR,awH.2 h2]
   cases t with
   | nil=>simp
   | cons y t=>simp
  refine ai b1 ?_
  refine ei _ (ai (agK) (ei (([97,98,99,100,101,102],c)) (ei [] (ai (a4 (ai (fun _=>Or.inl rfl) (ai nof (Or.inl rfl)))) (ai ?_ (ai (by exact trivial) (ai (trivial) ?_)))))))
  ·refine (ai rfl ?_)
   exact e1
  refine ah (p:=o9 c=true) (by rw[alD]) (fun h4=>?_) (fun h4=>?_)
  ·refine ai b2 ?_
   refine ah (p:=t=[112]) (by exact e3 112) (fun h5=>?_) (fun h5=>?_)
   ·refine eN (bP (resE (c :: t))) ?_
    rw[hN,h4,h5]
    exact rfl
   ·refine ai b2 ?_
    refine eN (bP (resE (c :: t))) ?_
    rw[hN,h4,e2]
    skip
    show (t==[109])=(true&&(t==[112]||t==[109]))
    rw[show (t==[112])=false by simpa using h5];rfl
  ·refine eN (bP (resE (c :: t))) ?_
   rw[hN,awH.2 h4,apT]
   exact rfl
def fI (s:List UInt8):Int:=if 24<s.length then 17 else if s.isEmpty||!jv (s.getD 0 0)||resE s then 3 else if s.all eD then 0 else 3
theorem aty:av Tryz.prog 200 (bC (fun s:List UInt8=>[sA s]) (fun s=>True) (fun s=>iP (fI s))):=by
 refine vF Tryz.func200 ?_
 rintro (s:List UInt8) hpre
 have hz:=cO s
 refine ah (p:=24<s.length) (by exact aA (by rw[hz];omega)) (fun h1=>?_) (fun h1=>?_)
 ·refine eN (iP (fI s)) ?_
  rw[fI,if_pos h1]
  exact rfl
 have hN:fI s=if s.isEmpty||!jv (s.getD 0 0)||resE s then 3 else if s.all eD then 0 else 3:=by unfold fI;rw[if_neg h1]
 refine ah (p:=s=[]) (by show (s==[])=true↔_;exact beq_iff_eq) (fun h2=>?_) (fun h2=>?_)
 ·refine eN (iP (fI s)) ?_
  rw[show fI s=3 by rw[hN,h2];rfl]
  exact rfl
 have hp:0<s.length:=List.length_pos_iff.2 h2
 have he:s.isEmpty=false:=by cases s with | nil=>exact absurd rfl h2 | cons x l=>rfl
 have i0:(strOf s)[(0:Int).toNat]?=some (s.getD 0 0):=nP hp
 refine ei (s.getD 0 0) (ai (ai (by decide) i0) ?_)
 refine bL ((s.getD 0 0).toNat<97) (fun h3=>?_) fun h3=>?_
 ·have hsF:jv (s.getD 0 0)=false:=by unfold jv;rw[decide_eq_false (by omega)];rfl
  refine eN (iP (fI s)) ?_
  rw[show fI s=3 by rw[hN,he,hsF];simp]
  exact rfl
 refine ei (s.getD 0 0) (ai (ai (by decide) i0) ?_)
 refine bL (122<(s.getD 0 0).toNat) (fun h4=>?_) fun h4=>?_
 ·have hsF:jv (s.getD 0 0)=false:=by unfold jv;rw[decide_eq_false (show ¬(s.getD 0 0).toNat≤122 by omega)];simp
  refine eN (iP (fI s)) ?_
  rw[show fI s=3 by rw[hN,he,hsF];simp]
  exact rfl
 have hs:jv (s.getD 0 0)=true:=by unfold jv;rw[decide_eq_true (by omega),decide_eq_true (by omega)];rfl
 rw[he,hs,Bool.not_true,ar5,ar5] at hN
 refine cK (asH) (s) (by exact rfl) ((by show s.length≤1000000;omega)) ?_
 refine aC (b:=resE s) rfl (fun h5=>?_) (fun h5=>?_)
 ·refine eN (iP (fI s)) ?_
  rw[hN,if_pos h5]
  exact rfl
 rw[if_neg (by rw[h5];decide)] at hN
 refine fR (s.length) (fun k=>[(25,.s (iA k))]) (fun k=>[]) (fun k=>∀c∈s.take k,eD c=true) (by exact (ai (ai (fun _=>rfl) (iE (by omega))) rfl)) (by exact trivial) ?_ ?_
 ·exact fun y hy=>absurd hy (by simp)
 intro (k:Nat) ⟨hk,hall⟩
 refine ah (p:=k<s.length) (by exact aA (by rw[hz];omega)) (fun h6=>?_) (fun h6=>?_)
 ·refine ei (s.getD k 0) (ai (ai (abw _) (nP h6)) ?_)
  refine cK (anr) (s.getD k 0) (by exact rfl) (trivial) ?_
  refine aC (b:=!eD (s.getD k 0)) rfl (fun h7=>?_) (fun h7=>?_)
  ·have h8:s.all eD=false:=by
    rw[auy]
    exact ⟨s.getD k 0,abu (bD 0 h6),by simpa using h7⟩
   refine eN (iP (fI s)) ?_
   rw[hN,if_neg (show ¬s.all eD=true by rw[h8];decide)]
   exact rfl
  refine nX (k) (ai (ai (fun _=>rfl) (aG (by omega))) rfl) trivial ?_
  intro y hy
  rw[aR 0 h6] at hy
  rcases acT.1 hy with hy | hy
  ·exact hall y hy
  ·simp only[aes] at hy;subst hy;simpa using h7
 ·obtain rfl:k=s.length:=by omega
  rw[acS] at hall
  refine eN (iP (fI s)) ?_
  rw[hN,if_pos (aoP.2 hall)]
  exact rfl
theorem arH:av Tryz.prog 172 (bC (fun s:List UInt8=>[sA s]) (fun s=>True) (fun s=>iP (fI s))):=by
 refine vF Tryz.func172 ?_
 rintro (s:List UInt8) hpre
 have hz:=cO s
 refine ah (p:=24<s.length) (by exact aA (by rw[hz];omega)) (fun h1=>?_) (fun h1=>?_)
 ·refine eN (iP (fI s)) ?_
  rw[fI,if_pos h1]
  exact rfl
 have hN:fI s=if s.isEmpty||!jv (s.getD 0 0)||resE s then 3 else if s.all eD then 0 else 3:=by unfold fI;rw[if_neg h1]
 refine ah (p:=s=[]) (by exact sW (by rw[hz];cases s with | nil=>simp | cons x l=>simp;omega)) (fun h2=>?_) (fun h2=>?_)
 ·refine eN (iP (fI s)) ?_
  rw[show fI s=3 by rw[hN,h2];rfl]
  exact rfl
 have hp:0<s.length:=List.length_pos_iff.2 h2
 have he:s.isEmpty=false:=by cases s with | nil=>exact absurd rfl h2 | cons x l=>rfl
 have i0:(strOf s)[(0:Int).toNat]?=some (s.getD 0 0):=nP hp
 refine ei (s.getD 0 0) (ai (ai (by decide) i0) ?_)
 refine cK (akv) (s.getD 0 0) (by exact rfl) (trivial) ?_
 refine aC (b:=!jv (s.getD 0 0)) rfl (fun h3=>?_) (fun h3=>?_)
 ·have hsF:jv (s.getD 0 0)=false:=by simpa using h3
  refine eN (iP (fI s)) ?_
  rw[show fI s=3 by rw[hN,he,hsF];simp]
  exact rfl
 have hs:jv (s.getD 0 0)=true:=by simpa using h3
 rw[he,hs,Bool.not_true,ar5,ar5] at hN
 refine cK (aro) (s) (by exact rfl) ((by show s.length≤1000000;omega)) ?_
 refine aC (b:=resE s) rfl (fun h5=>?_) (fun h5=>?_)
 ·refine eN (iP (fI s)) ?_
  rw[hN,if_pos h5]
  exact rfl
 rw[if_neg (by rw[h5];decide)] at hN
 obtain ⟨c,t,rfl⟩:∃c t,s=c :: t:=by
  cases s with
  | nil=>exact absurd rfl h2
  | cons c t=>exact ⟨c,t,rfl⟩
 have hl2:t.length≤1000000:=by simp at h1;omega
 have hc0:eD c=true:=by
  have hs:jv c=true:=hs
  unfold eD;rw[hs];simp
 refine fR (t.length) (fun k=>[(3,.s (iA (k+1:Nat)))]) (fun k=>[]) (fun k=>∀c∈t.take k,eD c=true) (by exact (ai (ai (fun _=>rfl) (iE (by omega))) rfl)) (by exact trivial) ?_ ?_
 ·exact fun y hy=>absurd hy (by simp)
 intro (k:Nat) ⟨hk,hall⟩
 refine ah (p:=k<t.length) (by exact aA (by rw[hz];simp only[arJ];omega)) (fun h6=>?_) (fun h6=>?_)
 ·have i1:(strOf (c :: t))[((k+1:Nat):Int).toNat]?=some (t.getD k 0):=nP (s:=c :: t) (k:=k+1) (by simp;omega)
  refine ei (t.getD k 0) (ai (ai (abw _) i1) ?_)
  refine cK (aag) (t.getD k 0) (by exact rfl) (trivial) ?_
  refine aC (b:=!eU (t.getD k 0)) rfl (fun h7=>?_) (fun h7=>?_)
  ·have hd:eU (t.getD k 0)=false:=by simpa using h7
   refine ei (t.getD k 0) (ai (ai (abw _) i1) ?_)
   refine cK (akv) (t.getD k 0) (by exact rfl) (trivial) ?_
   refine aC (b:=!jv (t.getD k 0)) rfl (fun h9=>?_) (fun h9=>?_)
   ·have hm:jv (t.getD k 0)=false:=by simpa using h9
    refine ei (t.getD k 0) (ai (ai (abw _) i1) ?_)
    refine bG (65≤(t.getD k 0).toNat) (fun h10=>?_) fun h10=>?_
    ·refine ei (t.getD k 0) (ai (ai (abw _) i1) ?_)
     refine aW (p:=(t.getD k 0).toNat≤90) (by (rw[ao0,decide_eq_false_iff_not];omega)) (fun h11=>?_) (fun h11=>?_)
     ·have hcap:vw (t.getD k 0)=false:=by unfold vw;rw[decide_eq_false h11];simp
      refine ei (t.getD k 0) (ai (ai (abw _) i1) ?_)
      refine bN ((t.getD k 0).toNat=95) (fun hu=>?_) fun hu=>?_
      ·have h8:(c :: t).all eD=false:=by
        rw[auy]
        exact ⟨t.getD k 0,asb _ (abu (bD 0 h6)),by unfold eD;rw[hd,hm,hcap,decide_eq_false hu];decide⟩
       refine eN (iP (fI (c :: t))) ?_
       rw[hN,if_neg (show ¬(c :: t).all eD=true by rw[h8];decide)]
       exact rfl
      ·refine nX (k) (ai (ai (fun _=>rfl) (aG (by omega))) rfl) trivial ?_
       intro y hy
       rw[aR 0 h6] at hy
       rcases acT.1 hy with hy | hy
       ·exact hall y hy
       ·simp only[aes] at hy;subst hy;unfold eD;rw[decide_eq_true hu];simp
     ·have hcap:vw (t.getD k 0)=true:=by unfold vw;rw[decide_eq_true h10,decide_eq_true h11];rfl
      refine nX (k) (ai (ai (fun _=>rfl) (aG (by omega))) rfl) trivial ?_
      intro y hy
      rw[aR 0 h6] at hy
      rcases acT.1 hy with hy | hy
      ·exact hall y hy
      ·simp only[aes] at hy;subst hy;unfold eD;rw[hcap];simp
    ·have hcap:vw (t.getD k 0)=false:=by unfold vw;rw[decide_eq_false h10];simp
     refine ei (t.getD k 0) (ai (ai (abw _) i1) ?_)
     refine bN ((t.getD k 0).toNat=95) (fun hu=>?_) fun hu=>?_
     ·have h8:(c :: t).all eD=false:=by
       rw[auy]
       exact ⟨t.getD k 0,asb _ (abu (bD 0 h6)),by unfold eD;rw[hd,hm,hcap,decide_eq_false hu];decide⟩
      refine eN (iP (fI (c :: t))) ?_
      rw[hN,if_neg (show ¬(c :: t).all eD=true by rw[h8];decide)]
      exact rfl
     ·refine nX (k) (ai (ai (fun _=>rfl) (aG (by omega))) rfl) trivial ?_
      intro y hy
      rw[aR 0 h6] at hy
      rcases acT.1 hy with hy | hy
      ·exact hall y hy
      ·simp only[aes] at hy;subst hy;unfold eD;rw[decide_eq_true hu];simp
   ·have hm:jv (t.getD k 0)=true:=by simpa using h9
    refine nX (k) (ai (ai (fun _=>rfl) (aG (by omega))) rfl) trivial ?_
    intro y hy
    rw[aR 0 h6] at hy
    rcases acT.1 hy with hy | hy
    ·exact hall y hy
    ·simp only[aes] at hy;subst hy;unfold eD;rw[hm];simp
  ·have hd:eU (t.getD k 0)=true:=by simpa using h7
   refine nX (k) (ai (ai (fun _=>rfl) (aG (by omega))) rfl) trivial ?_
   intro y hy
   rw[aR 0 h6] at hy
   rcases acT.1 hy with hy | hy
   ·exact hall y hy
   ·simp only[aes] at hy;subst hy;unfold eD;rw[hd];simp
 ·obtain rfl:k=t.length:=by omega
  rw[acS] at hall
  refine eN (iP (fI (c :: t))) ?_
  rw[hN,if_pos (aoP.2 (fun x hx=>by rcases ajI.1 hx with rfl | hx;exact hc0;exact hall x hx))]
  exact rfl
def xW (l:List (List UInt8)) (k:Nat):Int:=if ¬fI (l.getD k [])=0 then fI (l.getD k []) else if (l.take k).any (fun y=>l.getD k []==y)=true then 7 else 0
def fE (l:List (List UInt8)):Int:=if 16<l.length then 5 else dB (xW l) l.length
def alV:Spec:=bC (fun l:List (List UInt8)=>[ssA l]) (fun _=>True) (fun l=>iP (fE l))
theorem aod:av Tryz.prog 147 alV:=by
 refine vF Tryz.func147 ?_
 rintro (l:List (List UInt8)) hpre
 refine bL (16<l.length) (fun h0=>?_) fun h0=>?_
 ·refine eN (iP (fE l)) ?_
  rw[fE,if_pos h0]
  exact rfl
 have hA:fE l=dB (xW l) l.length:=by unfold fE;rw[if_neg h0]
 refine fR (l.length) (fun k=>[(11,.s (iA k))]) (fun k=>[]) (fun k=>∀j,j<k→xW l j=0) (by exact (ai (ai (fun _=>rfl) (iE (by omega))) rfl)) (by exact trivial) ?_ ?_
 ·exact fun j hj=>absurd hj (aeH _)
 intro (k:Nat) ⟨hk,hall⟩
 refine bL (k<l.length) (fun h1=>?_) fun h1=>?_
 ·refine iX (k) (l.length) ?_
  refine cK (aty) (l.getD k []) (by exact rfl) (trivial) ?_
  refine bN (fI (l.getD k [])=0) (fun h2=>?_) fun h2=>?_
  ·have e:xW l k=fI (l.getD k []):=by unfold xW;rw[if_pos h2]
   refine eN (iP (fE l)) ?_
   rw[hA,dO h1 hall (by rw[e];exact h2),e]
   exact rfl
  refine ai (ai (by decide) (ai (abw _) (by show (k:Int)≤(l.length:Int);omega))) (ai (fun _ _=>rfl) ?_)
  have htk:(l.take k).length=k:=by rw[al5];omega
  refine ei _ (ai (atG) (ei ((l.take k,l.getD k [])) (ei [] (ai (a4 (ai (fun _=>Or.inl rfl) (ai nof (Or.inl rfl)))) (ai ?_ (ai (by exact trivial) (ai ((by show (l.take k).length≤1000000;omega)) ?_)))))))
  ·refine (ai (ai ?_ ?_) rfl)
   ·show ((k:Int).toNat-(0:Int).toNat)=(l.take k).length
    rw[htk];simp
   ·intro j hj
    have hj:j<(k:Int).toNat-(0:Int).toNat:=hj
    show [sP (l.getD ((0:Int).toNat+j) [])]=_
    rw[show (0:Int).toNat+j=j by simp]
    exact ase hk j (by simpa using hj)
  refine aC (b:=(l.take k).any (fun y=>l.getD k []==y)) rfl (fun h4=>?_) (fun h4=>?_)
  ·have e:xW l k=7:=by unfold xW;rw[if_neg (fun h=>h h2),if_pos h4]
   refine eN (iP (fE l)) ?_
   rw[hA,dO h1 hall (by rw[e];decide),e]
   exact rfl
  refine nX (k) (ai (ai (fun _=>rfl) (aG (by omega))) rfl) trivial ?_
  intro j hj
  by_cases hjk:j=k
  ·subst hjk;unfold xW;rw[if_neg (fun h=>h h2),if_neg (by rw[h4];decide)]
  ·exact hall j (by omega)
 ·obtain rfl:k=l.length:=by omega
  refine eN (iP (fE l)) ?_
  rw[hA,gU hall]
  exact rfl
theorem af8 {α:Type} {p:α→Bool} {l:List α} {k:Nat} {d:α} (h:k<l.length) (hp:p (l.getD k d)=true):l.any p=true:=
 aoL.2 ⟨_,abu (bD d h),hp⟩
theorem amw:av Tryz.prog 113 alV:=by
 refine vF Tryz.func113 ?_
 rintro (l:List (List UInt8)) hpre
 refine bL (16<l.length) (fun h0=>?_) fun h0=>?_
 ·refine eN (iP (fE l)) ?_
  rw[fE,if_pos h0]
  exact rfl
 have hA:fE l=dB (xW l) l.length:=by unfold fE;rw[if_neg h0]
 refine fR (l.length) (fun k=>[(3,.s (iA k))]) (fun k=>[]) (fun k=>∀j,j<k→xW l j=0) (by exact (ai (ai (fun _=>rfl) (iE (by omega))) rfl)) (by exact trivial) ?_ ?_
 ·exact fun j hj=>absurd hj (aeH _)
 intro (k:Nat) ⟨hk,hall⟩
 refine bL (k<l.length) (fun h1=>?_) fun h1=>?_
 ·refine iX (k) (l.length) ?_
  refine cK (arH) (l.getD k []) (by exact rfl) (trivial) ?_
  refine bN (fI (l.getD k [])=0) (fun h2=>?_) fun h2=>?_
  ·have e:xW l k=fI (l.getD k []):=by unfold xW;rw[if_pos h2]
   refine eN (iP (fE l)) ?_
   rw[hA,dO h1 hall (by rw[e];exact h2),e]
   exact rfl
  have htk:(l.take k).length=k:=by rw[al5];omega
  refine fR (k) (fun j=>[(5,.s (iA j))]) (fun j=>[]) (fun j=>∀y∈(l.take k).take j,(l.getD k []==y)=false) (by exact (ai (ai (fun _=>rfl) (iE (by omega))) rfl)) (by exact trivial) ?_ ?_
  ·exact fun y hy=>absurd hy (by simp)
  intro (j:Nat) ⟨hj,hno⟩
  refine bL (j<k) (fun h3=>?_) fun h3=>?_
  ·have hjl:j<(l.take k).length:=by omega
   have hg:(l.take k).getD j []=l.getD j []:=by rw[aaG,aaG,ar8,if_pos h3]
   refine dR (.seq [0,1,2,3,4,5,6,7,8]) ?_
   refine iX (j) (l.length) ?_
   refine iX (k) (l.length) ?_
   refine ah (p:=l.getD j []=l.getD k []) (by exact beq_iff_eq) (fun h4=>?_) (fun h4=>?_)
   ·have e:xW l k=7:=by unfold xW;rw[if_neg (fun h=>h h2),if_pos (af8 hjl (by rw[hg,h4];exact beq_self_eq_true _))]
    refine eN (iP (fE l)) ?_
    rw[hA,dO h1 hall (by rw[e];decide),e]
    exact rfl
   refine nX (j) (ai (ai (fun _=>rfl) (aG (by omega))) rfl) trivial ?_
   intro y hy
   rw[aR [] hjl] at hy
   rcases acT.1 hy with hy | hy
   ·exact hno y hy
   ·simp only[aes] at hy;subst hy;rw[hg];exact beq_eq_false_iff_ne.2 fun e=>h4 e.symm
  ·obtain rfl:j=k:=by omega
   have hno:∀y∈l.take j,(l.getD j []==y)=false:=fun y hy=>hno y (by rw[avB (by omega)];exact hy)
   refine nX (j) (ai (ai (fun _=>rfl) (aG (by omega))) rfl) trivial ?_
   intro i hi
   by_cases hjk:i=j
   ·subst hjk;unfold xW
    rw[if_neg (fun h=>h h2),if_neg]
    rw[aoL]
    rintro ⟨y,hy,e⟩
    rw[hno y hy] at e;cases e
   ·exact hall i (by omega)
 ·obtain rfl:k=l.length:=by omega
  refine eN (iP (fE l)) ?_
  rw[hA,gU hall]
  exact rfl
def lC (act:Int) (l:List Sk) (k:Nat):Int:=if (l.getD k bY).1<0∨act≤(l.getD k bY).1 then 2 else if 0<k∧(l.getD k bY).1≤(l.getD (k-1) bY).1 then 9 else 0
def gQ (act:Int) (s:Stp):Int:=if ¬dB (lC act s.st) s.st.length=0 then dB (lC act s.st) s.st.length else if s.wt<0∨1000000<s.wt then 2 else 0
def arY:Spec:=bC (fun a:aB×Stp=>[iG a.1,stA a.2]) (fun a=>a.2.st.length≤1000000) (fun a=>iP (gQ a.1.act a.2))
theorem step_ok:av Tryz.prog 148 arY:=by
 refine vF Tryz.func148 ?_
 rintro (a:aB×Stp) hpre
 have hl:a.2.st.length≤1000000:=hpre
 refine fR (a.2.st.length) (fun k=>[(10,.s (iA k))]) (fun k=>[]) (fun k=>∀j,j<k→lC a.1.act a.2.st j=0) (by exact (ai (ai (fun _=>rfl) (iE (by omega))) rfl)) (by exact trivial) ?_ ?_
 ·exact fun j hj=>absurd hj (aeH _)
 intro (k:Nat) ⟨hk,hall⟩
 refine bL (k<a.2.st.length) (fun h1=>?_) fun h1=>?_
 ·refine iX (k) (a.2.st.length) ?_
  refine ah (p:=(a.2.st.getD k bY).1<0) (aA Iff.rfl) (fun h2=>?_) (fun h2=>?_)
  ·have e:lC a.1.act a.2.st k=2:=by unfold lC;rw[if_pos (by omega)]
   have e2:dB (lC a.1.act a.2.st) a.2.st.length=2:=(dO h1 hall (by rw[e];decide)).trans e
   refine eN (iP (gQ a.1.act a.2)) ?_
   rw[gQ,if_pos (show ¬dB (lC a.1.act a.2.st) a.2.st.length=0 by rw[e2];decide),e2]
   exact rfl
  refine ah (p:=a.1.act≤(a.2.st.getD k bY).1) (fH Iff.rfl) (fun h3=>?_) (fun h3=>?_)
  ·have e:lC a.1.act a.2.st k=2:=by unfold lC;rw[if_pos (by omega)]
   have e2:dB (lC a.1.act a.2.st) a.2.st.length=2:=(dO h1 hall (by rw[e];decide)).trans e
   refine eN (iP (gQ a.1.act a.2)) ?_
   rw[gQ,if_pos (show ¬dB (lC a.1.act a.2.st) a.2.st.length=0 by rw[e2];decide),e2]
   exact rfl
  refine dR (.seq [0,1,2,3,4,5,6,7,8,9,10,11,12,13,14]) ?_
  refine bL (0<k) (fun h4=>?_) fun h4=>?_
  ·have hw:IntKind.i64.wrap ((k:Int)-1)=((k-1:Nat):Int):=ane h4 (by omega)
   refine ai (ai (by rw[hw];exact abw _) (by rw[hw];show ((k-1:Nat):Int)<(a.2.st.length:Int);omega)) ?_
   refine ai rfl ?_
   refine ah (p:=(a.2.st.getD k bY).1≤(a.2.st.getD (k-1) bY).1) (by exact fH (by rw[hw];exact Iff.rfl)) (fun h5=>?_) (fun h5=>?_)
   ·have e:lC a.1.act a.2.st k=9:=by unfold lC;rw[if_neg (by omega),if_pos ⟨h4,h5⟩]
    have e2:dB (lC a.1.act a.2.st) a.2.st.length=9:=(dO h1 hall (by rw[e];decide)).trans e
    refine eN (iP (gQ a.1.act a.2)) ?_
    rw[gQ,if_pos (show ¬dB (lC a.1.act a.2.st) a.2.st.length=0 by rw[e2];decide),e2]
    exact rfl
   ·refine nX (k) (ai (ai (fun _=>rfl) (aG (by omega))) rfl) trivial ?_
    intro j hj
    by_cases hjk:j=k
    ·subst hjk;unfold lC;rw[if_neg (by omega),if_neg (fun h=>h5 h.2)]
    ·exact hall j (by omega)
  ·refine nX (k) (ai (ai (fun _=>rfl) (aG (by omega))) rfl) trivial ?_
   intro j hj
   by_cases hjk:j=k
   ·subst hjk;unfold lC;rw[if_neg (by omega),if_neg (fun h=>h4 h.1)]
   ·exact hall j (by omega)
 ·obtain rfl:k=a.2.st.length:=by omega
  have e2:dB (lC a.1.act a.2.st) a.2.st.length=0:=gU hall
  have hA:gQ a.1.act a.2=if a.2.wt<0∨1000000<a.2.wt then 2 else 0:=by unfold gQ;rw[if_neg (fun h=>h e2)]
  refine bL (a.2.wt<0) (fun h6=>?_) fun h6=>?_
  ·refine eN (iP (gQ a.1.act a.2)) ?_
   rw[hA,if_pos (.inl h6)]
   exact rfl
  refine bL (1000000<a.2.wt) (fun h7=>?_) fun h7=>?_
  ·refine eN (iP (gQ a.1.act a.2)) ?_
   rw[hA,if_pos (.inr h7)]
   exact rfl
  ·refine eN (iP (gQ a.1.act a.2)) ?_
   rw[hA,if_neg (fun h=>h.elim h6 h7)]
   exact rfl
theorem aqL:av Tryz.prog 114 arY:=by
 refine vF Tryz.func114 ?_
 rintro (a:aB×Stp) hpre
 have hl:a.2.st.length≤1000000:=hpre
 refine fR (a.2.st.length) (fun k=>[(5,.s (iA k))]) (fun k=>[]) (fun k=>∀j,j<k→lC a.1.act a.2.st j=0) (by exact (ai (ai (fun _=>rfl) (iE (by omega))) rfl)) (by exact trivial) ?_ ?_
 ·exact fun j hj=>absurd hj (aeH _)
 intro (k:Nat) ⟨hk,hall⟩
 refine bL (k<a.2.st.length) (fun h1=>?_) fun h1=>?_
 ·refine iX (k) (a.2.st.length) ?_
  refine ah (p:=(a.2.st.getD k bY).1<0) (aA Iff.rfl) (fun h2=>?_) (fun h2=>?_)
  ·have e:lC a.1.act a.2.st k=2:=by unfold lC;rw[if_pos (by omega)]
   have e2:dB (lC a.1.act a.2.st) a.2.st.length=2:=(dO h1 hall (by rw[e];decide)).trans e
   refine eN (iP (gQ a.1.act a.2)) ?_
   rw[gQ,if_pos (show ¬dB (lC a.1.act a.2.st) a.2.st.length=0 by rw[e2];decide),e2]
   exact rfl
  refine ah (p:=a.1.act≤(a.2.st.getD k bY).1) (fH Iff.rfl) (fun h3=>?_) (fun h3=>?_)
  ·have e:lC a.1.act a.2.st k=2:=by unfold lC;rw[if_pos (by omega)]
   have e2:dB (lC a.1.act a.2.st) a.2.st.length=2:=(dO h1 hall (by rw[e];decide)).trans e
   refine eN (iP (gQ a.1.act a.2)) ?_
   rw[gQ,if_pos (show ¬dB (lC a.1.act a.2.st) a.2.st.length=0 by rw[e2];decide),e2]
   exact rfl
  refine bL (0<k) (fun h4=>?_) fun h4=>?_
  ·have hw:IntKind.i64.wrap ((k:Int)-1)=((k-1:Nat):Int):=ane h4 (by omega)
   refine ai (ai (by rw[hw];exact abw _) (by rw[hw];show ((k-1:Nat):Int)<(a.2.st.length:Int);omega)) ?_
   refine ai rfl ?_
   refine ah (p:=(a.2.st.getD k bY).1≤(a.2.st.getD (k-1) bY).1) (by exact fH (by rw[hw];exact Iff.rfl)) (fun h5=>?_) (fun h5=>?_)
   ·have e:lC a.1.act a.2.st k=9:=by unfold lC;rw[if_neg (by omega),if_pos ⟨h4,h5⟩]
    have e2:dB (lC a.1.act a.2.st) a.2.st.length=9:=(dO h1 hall (by rw[e];decide)).trans e
    refine eN (iP (gQ a.1.act a.2)) ?_
    rw[gQ,if_pos (show ¬dB (lC a.1.act a.2.st) a.2.st.length=0 by rw[e2];decide),e2]
    exact rfl
   ·refine nX (k) (ai (ai (fun _=>rfl) (aG (by omega))) rfl) trivial ?_
    intro j hj
    by_cases hjk:j=k
    ·subst hjk;unfold lC;rw[if_neg (by omega),if_neg (fun h=>h5 h.2)]
    ·exact hall j (by omega)
  ·refine nX (k) (ai (ai (fun _=>rfl) (aG (by omega))) rfl) trivial ?_
   intro j hj
   by_cases hjk:j=k
   ·subst hjk;unfold lC;rw[if_neg (by omega),if_neg (fun h=>h4 h.1)]
   ·exact hall j (by omega)
 ·obtain rfl:k=a.2.st.length:=by omega
  have e2:dB (lC a.1.act a.2.st) a.2.st.length=0:=gU hall
  have hA:gQ a.1.act a.2=if a.2.wt<0∨1000000<a.2.wt then 2 else 0:=by unfold gQ;rw[if_neg (fun h=>h e2)]
  refine bL (a.2.wt<0) (fun h6=>?_) fun h6=>?_
  ·refine eN (iP (gQ a.1.act a.2)) ?_
   rw[hA,if_pos (.inl h6)]
   exact rfl
  refine bL (1000000<a.2.wt) (fun h7=>?_) fun h7=>?_
  ·refine eN (iP (gQ a.1.act a.2)) ?_
   rw[hA,if_pos (.inr h7)]
   exact rfl
  ·refine eN (iP (gQ a.1.act a.2)) ?_
   rw[hA,if_neg (fun h=>h.elim h6 h7)]
   exact rfl
def qN (n:Nat) (l:List Int) (k:Nat):Int:=if l.getD k 0<0∨(n:Int)≤l.getD k 0 then 2 else if 0<k∧l.getD k 0≤l.getD (k-1) 0 then 9 else 0
def jM (n:Nat) (l:List Int):Int:=if l.length=0 then 13 else dB (qN n l) l.length
def avH:Spec:=bC (fun a:aB×List Int=>[iG a.1,isA a.2]) (fun a=>a.2.length≤1000000) (fun a=>iP (jM a.1.sts.length a.2))
theorem ah0:av Tryz.prog 202 avH:=by
 refine vF Tryz.func202 ?_
 rintro (a:aB×List Int) hpre
 have hl:a.2.length≤1000000:=hpre
 refine bE (a.2.length=0) (fun h0=>?_) fun h0=>?_
 ·refine eN (iP (jM a.1.sts.length a.2)) ?_
  rw[jM,if_pos h0]
  exact rfl
 have hA:jM a.1.sts.length a.2=dB (qN a.1.sts.length a.2) a.2.length:=by unfold jM;rw[if_neg h0]
 refine fR (a.2.length) (fun k=>[(12,.s (iA k))]) (fun k=>[]) (fun k=>∀j,j<k→qN a.1.sts.length a.2 j=0) (by exact (ai (ai (fun _=>rfl) (iE (by omega))) rfl)) (by exact trivial) ?_ ?_
 ·exact fun j hj=>absurd hj (aeH _)
 intro (k:Nat) ⟨hk,hall⟩
 refine bL (k<a.2.length) (fun h1=>?_) fun h1=>?_
 ·skip
  refine iX (k) (a.2.length) ?_
  refine ah (p:=a.2.getD k 0<0) (aA Iff.rfl) (fun h2=>?_) (fun h2=>?_)
  ·have e:qN a.1.sts.length a.2 k=2:=by unfold qN;rw[if_pos (by omega)]
   refine eN (iP (jM a.1.sts.length a.2)) ?_
   rw[hA,dO h1 hall (by rw[e];decide),e]
   exact rfl
  skip
  refine ah (p:=(a.1.sts.length:Int)≤a.2.getD k 0) (fH Iff.rfl) (fun h3=>?_) (fun h3=>?_)
  ·have e:qN a.1.sts.length a.2 k=2:=by unfold qN;rw[if_pos (by omega)]
   refine eN (iP (jM a.1.sts.length a.2)) ?_
   rw[hA,dO h1 hall (by rw[e];decide),e]
   exact rfl
  skip
  refine bL (0<k) (fun h4=>?_) fun h4=>?_
  ·have hw:IntKind.i64.wrap ((k:Int)-1)=((k-1:Nat):Int):=ane h4 (by omega)
   skip
   refine ai (ai (by rw[hw];exact abw _) (by rw[hw];show ((k-1:Nat):Int)<(a.2.length:Int);omega)) ?_
   refine ai rfl ?_
   refine ah (p:=a.2.getD k 0≤a.2.getD (k-1) 0) (by exact fH (by rw[hw];exact Iff.rfl)) (fun h5=>?_) (fun h5=>?_)
   ·have e:qN a.1.sts.length a.2 k=9:=by unfold qN;rw[if_neg (by omega),if_pos ⟨h4,h5⟩]
    refine eN (iP (jM a.1.sts.length a.2)) ?_
    rw[hA,dO h1 hall (by rw[e];decide),e]
    exact rfl
   ·refine nX (k) (ai (ai (fun _=>rfl) (aG (by omega))) rfl) trivial ?_
    intro j hj
    by_cases hjk:j=k
    ·subst hjk;unfold qN;rw[if_neg (by omega),if_neg (fun h=>h5 h.2)]
    ·exact hall j (by omega)
  ·refine nX (k) (ai (ai (fun _=>rfl) (aG (by omega))) rfl) trivial ?_
   intro j hj
   by_cases hjk:j=k
   ·subst hjk;unfold qN;rw[if_neg (by omega),if_neg (fun h=>h4 h.1)]
   ·exact hall j (by omega)
 ·obtain rfl:k=a.2.length:=by omega
  refine eN (iP (jM a.1.sts.length a.2)) ?_
  rw[hA,gU hall]
  exact rfl
theorem akn:av Tryz.prog 115 avH:=by
 refine vF Tryz.func115 ?_
 rintro (a:aB×List Int) hpre
 have hl:a.2.length≤1000000:=hpre
 refine bE (a.2.length=0) (fun h0=>?_) fun h0=>?_
 ·refine eN (iP (jM a.1.sts.length a.2)) ?_
  rw[jM,if_pos h0]
  exact rfl
 have hA:jM a.1.sts.length a.2=dB (qN a.1.sts.length a.2) a.2.length:=by unfold jM;rw[if_neg h0]
 refine fR (a.2.length) (fun k=>[(5,.s (iA k))]) (fun k=>[]) (fun k=>∀j,j<k→qN a.1.sts.length a.2 j=0) (by exact (ai (ai (fun _=>rfl) (iE (by omega))) rfl)) (by exact trivial) ?_ ?_
 ·exact fun j hj=>absurd hj (aeH _)
 intro (k:Nat) ⟨hk,hall⟩
 refine bL (k<a.2.length) (fun h1=>?_) fun h1=>?_
 ·refine dR (.seq [0,1,2,3,4,5,6,7,8,9,10,11,12,13,14]) ?_
  refine iX (k) (a.2.length) ?_
  refine ah (p:=a.2.getD k 0<0) (aA Iff.rfl) (fun h2=>?_) (fun h2=>?_)
  ·have e:qN a.1.sts.length a.2 k=2:=by unfold qN;rw[if_pos (by omega)]
   refine eN (iP (jM a.1.sts.length a.2)) ?_
   rw[hA,dO h1 hall (by rw[e];decide),e]
   exact rfl
  refine iX (k) (a.2.length) ?_
  refine ah (p:=(a.1.sts.length:Int)≤a.2.getD k 0) (fH Iff.rfl) (fun h3=>?_) (fun h3=>?_)
  ·have e:qN a.1.sts.length a.2 k=2:=by unfold qN;rw[if_pos (by omega)]
   refine eN (iP (jM a.1.sts.length a.2)) ?_
   rw[hA,dO h1 hall (by rw[e];decide),e]
   exact rfl
  refine dR (.seq [0,1,2,3,4,5,6,7,8,9,10,11,12,13]) ?_
  refine bL (0<k) (fun h4=>?_) fun h4=>?_
  ·have hw:IntKind.i64.wrap ((k:Int)-1)=((k-1:Nat):Int):=ane h4 (by omega)
   refine iX (k) (a.2.length) ?_
   refine ai (ai (by rw[hw];exact abw _) (by rw[hw];show ((k-1:Nat):Int)<(a.2.length:Int);omega)) ?_
   refine ai rfl ?_
   refine ah (p:=a.2.getD k 0≤a.2.getD (k-1) 0) (by exact fH (by rw[hw];exact Iff.rfl)) (fun h5=>?_) (fun h5=>?_)
   ·have e:qN a.1.sts.length a.2 k=9:=by unfold qN;rw[if_neg (by omega),if_pos ⟨h4,h5⟩]
    refine eN (iP (jM a.1.sts.length a.2)) ?_
    rw[hA,dO h1 hall (by rw[e];decide),e]
    exact rfl
   ·refine nX (k) (ai (ai (fun _=>rfl) (aG (by omega))) rfl) trivial ?_
    intro j hj
    by_cases hjk:j=k
    ·subst hjk;unfold qN;rw[if_neg (by omega),if_neg (fun h=>h5 h.2)]
    ·exact hall j (by omega)
  ·refine nX (k) (ai (ai (fun _=>rfl) (aG (by omega))) rfl) trivial ?_
   intro j hj
   by_cases hjk:j=k
   ·subst hjk;unfold qN;rw[if_neg (by omega),if_neg (fun h=>h4 h.1)]
   ·exact hall j (by omega)
 ·obtain rfl:k=a.2.length:=by omega
  refine eN (iP (jM a.1.sts.length a.2)) ?_
  rw[hA,gU hall]
  exact rfl
def lF (c:aB):Int:=2*c.act+c.ins.length+c.sts.length
def oO (c:aB):Prop:=0≤c.act∧c.act≤1000∧c.ins.length≤1000000∧c.sts.length≤1000000
def arX:Spec:=bC (fun c:aB=>[iG c]) oO (fun c=>iP (lF c))
theorem amf:av Tryz.prog 136 arX:=by
 refine vF Tryz.func136 ?_
 rintro (c:aB) hpre
 obtain ⟨h1,h2,h3,h4⟩:=hpre
 have h1:0≤c.act:=h1
 have h2:c.act≤1000:=h2
 have h3:c.ins.length≤1000000:=h3
 have h4:c.sts.length≤1000000:=h4
 refine ai (ai (fun _=>trivial) ?_) trivial
 show IntKind.i64.wrap (IntKind.i64.wrap (IntKind.i64.wrap (2*c.act)+(c.ins.length:Int))+(c.sts.length:Int))=lF c
 rw[kJ (n:=2*c.act) (by omega) (by omega),kJ (n:=2*c.act+(c.ins.length:Int)) (by omega) (by omega),kJ (by omega) (by omega)];rfl
theorem aqp:av Tryz.prog 117 arX:=by
 refine vF Tryz.func117 ?_
 rintro (c:aB) hpre
 obtain ⟨h1,h2,h3,h4⟩:=hpre
 have h1:0≤c.act:=h1
 have h2:c.act≤1000:=h2
 have h3:c.ins.length≤1000000:=h3
 have h4:c.sts.length≤1000000:=h4
 refine ai (ai (fun _=>trivial) ?_) trivial
 show IntKind.i64.wrap (IntKind.i64.wrap (IntKind.i64.wrap (2*c.act)+(c.ins.length:Int))+(c.sts.length:Int))=lF c
 rw[kJ (n:=2*c.act) (by omega) (by omega),kJ (n:=2*c.act+(c.ins.length:Int)) (by omega) (by omega),kJ (by omega) (by omega)];rfl
def kP (c:aB) (t:sF):Int:=if ¬jM c.sts.length t.fr=0 then jM c.sts.length t.fr else if ¬jM c.sts.length t.to=0 then jM c.sts.length t.to else bg t.wh (lF c)
def amL (t:sF):Prop:=t.fr.length≤1000000∧t.to.length≤1000000∧t.wh.size≤1000000
def awN:Spec:=bC (fun a:aB×sF=>[iG a.1,trA a.2]) (fun a=>oO a.1∧amL a.2) (fun a=>iP (kP a.1 a.2))
theorem au9:av Tryz.prog 149 awN:=by
 refine vF Tryz.func149 ?_
 rintro (a:aB×sF) hpre
 obtain ⟨hs,h1,h2,h3⟩:=hpre
 refine ei (mK.unroll 3) ?_
 refine ai (by decide) ?_
 refine ai (by decide) ?_
 refine cK (ah0) ((a.1,a.2.fr)) (by exact (ai (ai rfl (ai (ai rfl (fun _ _=>rfl)) (ai (ai rfl (fun _ _=>rfl)) (ai rfl (fun _ _=>rfl))))) (ai rfl (fun _ _=>rfl)))) (h1) ?_
 refine aW (p:=jM a.1.sts.length a.2.fr=0) (bn (by dsimp only;omega)) (fun g1=>?_) (fun g1=>?_)
 ·refine eN (iP (kP a.1 a.2)) ?_
  rw[kP,if_pos g1]
  exact rfl
 refine ai (by decide) ?_
 refine ai (by decide) ?_
 refine cK (ah0) ((a.1,a.2.to)) (by exact (ai (ai rfl (ai (ai rfl (fun _ _=>rfl)) (ai (ai rfl (fun _ _=>rfl)) (ai rfl (fun _ _=>rfl))))) (ai rfl (fun _ _=>rfl)))) (h2) ?_
 refine aW (p:=jM a.1.sts.length a.2.to=0) (bn (by dsimp only;omega)) (fun g2=>?_) (fun g2=>?_)
 ·refine eN (iP (kP a.1 a.2)) ?_
  rw[kP,if_neg (fun h=>h g1),if_pos g2]
  exact rfl
 refine dR (.seq [0,1,2,3,4,5]) ?_
 refine cK (amf) (a.1) (by exact (ai rfl (ai (ai rfl (fun _ _=>rfl)) (ai (ai rfl (fun _ _=>rfl)) (ai rfl (fun _ _=>rfl)))))) (hs) ?_
 refine cK (qX) ((a.2.wh,lF a.1)) (by exact (ai (ai rfl (ai rfl (ai rfl (fun _ _=>rfl)))) rfl)) (h3) ?_
 refine eN (iP (kP a.1 a.2)) ?_
 rw[kP,if_neg (fun h=>h g1),if_neg (fun h=>h g2)]
 exact rfl
def ap5:Spec:=bC (fun a:aB×List Stp=>[.p false (abb a.2),.p false (.bnd 148 [chP a.1])]) (fun a=>a.2.length≤1000000∧∀s∈a.2,s.st.length≤1000000) (fun a=>iP (dB (fun k=>gQ a.1.act (a.2.getD k st0)) a.2.length))
theorem anx:av Tryz.prog 150 ap5:=by
 refine vF Tryz.func150 ?_
 rintro (a:aB×List Stp) hpre
 obtain ⟨hl,hs⟩:=hpre
 have hl:a.2.length≤1000000:=hl
 refine fR (a.2.length) (fun k=>[(10,.s (iA k))]) (fun k=>[]) (fun k=>∀j,j<k→gQ a.1.act (a.2.getD j st0)=0) (by exact (ai (ai (fun _=>rfl) (iE (by omega))) rfl)) (by exact trivial) ?_ ?_
 ·exact fun j hj=>absurd hj (aeH _)
 intro (k:Nat) ⟨hk,hall⟩
 refine bL (k<a.2.length) (fun h1=>?_) fun h1=>?_
 ·refine iX (k) (a.2.length) ?_
  refine cK (step_ok) ((a.1,a.2.getD k st0)) (by exact (ai (ai rfl (ai (ai rfl (fun _ _=>rfl)) (ai (ai rfl (fun _ _=>rfl)) (ai rfl (fun _ _=>rfl))))) (ai (ai rfl (fun _ _=>rfl)) (iE (by simp only[zz,reduceCtorEq]))))) (hs _ (abu (bD st0 h1))) ?_
  refine aW (p:=gQ a.1.act (a.2.getD k st0)=0) (bn (by dsimp only;omega)) (fun h2=>?_) (fun h2=>?_)
  ·refine eN (iP (dB (fun k=>gQ a.1.act (a.2.getD k st0)) a.2.length)) ?_
   rw[dO h1 hall h2]
   exact rfl
  refine nX (k) (ai (ai (fun _=>rfl) (aG (by omega))) rfl) trivial ?_
  intro j hj
  by_cases hjk:j=k
  ·subst hjk;exact h2
  ·exact hall j (by omega)
 ·obtain rfl:k=a.2.length:=by omega
  refine eN (iP (dB (fun k=>gQ a.1.act (a.2.getD k st0)) a.2.length)) ?_
  rw[gU hall]
  exact rfl
def aq9:Spec:=bC (fun a:aB×List sF=>[.p false (adz a.2),.p false (.bnd 149 [chP a.1])]) (fun a=>a.2.length≤1000000∧oO a.1∧∀s∈a.2,amL s) (fun a=>iP (dB (fun k=>kP a.1 (a.2.getD k bf)) a.2.length))
theorem anp:av Tryz.prog 151 aq9:=by
 refine vF Tryz.func151 ?_
 rintro (a:aB×List sF) hpre
 obtain ⟨hl,hc,hs⟩:=hpre
 have hl:a.2.length≤1000000:=hl
 refine fR (a.2.length) (fun k=>[(10,.s (iA k))]) (fun k=>[]) (fun k=>∀j,j<k→kP a.1 (a.2.getD j bf)=0) (by exact (ai (ai (fun _=>rfl) (iE (by omega))) rfl)) (by exact trivial) ?_ ?_
 ·exact fun j hj=>absurd hj (aeH _)
 intro (k:Nat) ⟨hk,hall⟩
 refine bL (k<a.2.length) (fun h1=>?_) fun h1=>?_
 ·refine iX (k) (a.2.length) ?_
  refine cK (au9) ((a.1,a.2.getD k bf)) (by exact (ai (ai rfl (ai (ai rfl (fun _ _=>rfl)) (ai (ai rfl (fun _ _=>rfl)) (ai rfl (fun _ _=>rfl))))) (ai (ai rfl (fun _ _=>rfl)) (ai (ai rfl (fun _ _=>rfl)) (ai (iE (by simp only[zz,reduceCtorEq])) (ai (iE (by simp only[zz,reduceCtorEq])) (ai rfl (fun _ _=>rfl)))))))) (⟨hc,hs _ (abu (bD bf h1))⟩) ?_
  refine aW (p:=kP a.1 (a.2.getD k bf)=0) (bn (by dsimp only;omega)) (fun h2=>?_) (fun h2=>?_)
  ·refine eN (iP (dB (fun k=>kP a.1 (a.2.getD k bf)) a.2.length)) ?_
   rw[dO h1 hall h2]
   exact rfl
  refine nX (k) (ai (ai (fun _=>rfl) (aG (by omega))) rfl) trivial ?_
  intro j hj
  by_cases hjk:j=k
  ·subst hjk;exact h2
  ·exact hall j (by omega)
 ·obtain rfl:k=a.2.length:=by omega
  refine eN (iP (dB (fun k=>kP a.1 (a.2.getD k bf)) a.2.length)) ?_
  rw[gU hall]
  exact rfl
def bV (c:aB):Int:=
 if c.act<1∨6<c.act then 2 else if ¬fE c.ins=0 then fE c.ins else if c.sts.length=0 then 13 else if 24<c.sts.length∨32<c.trs.length then 5 else
 if ¬dB (fun k=>gQ c.act (c.sts.getD k st0)) c.sts.length=0 then dB (fun k=>gQ c.act (c.sts.getD k st0)) c.sts.length else dB (fun k=>kP c (c.trs.getD k bf)) c.trs.length
def jr (c:aB):Prop:=(∀s∈c.sts,s.st.length≤1000000)∧∀t∈c.trs,amL t
theorem yT {l:List (List UInt8)} (h:fE l=0):l.length≤16:=by
 unfold fE at h
 split at h
 ·cases h
 ·omega
def au5:Spec:=bC (fun c:aB=>[iG c]) jr (fun c=>iP (bV c))
theorem aaf:av Tryz.prog 94 au5:=by
 refine vF Tryz.func94 ?_
 rintro (c:aB) hpre
 obtain ⟨hst,htr⟩:=hpre
 refine bL (c.act<1) (fun h1=>?_) fun h1=>?_
 ·refine eN (iP (bV c)) ?_
  rw[bV,if_pos (.inl h1)]
  exact rfl
 refine bL (6<c.act) (fun h2=>?_) fun h2=>?_
 ·refine eN (iP (bV c)) ?_
  rw[bV,if_pos (.inr h2)]
  exact rfl
 have e0:¬(c.act<1∨6<c.act):=fun h=>h.elim h1 h2
 refine cK (aod) (c.ins) (by exact (ai rfl (fun _ _=>rfl))) (trivial) ?_
 refine bN (fE c.ins=0) (fun h3=>?_) fun h3=>?_
 ·refine eN (iP (bV c)) ?_
  rw[bV,if_neg e0,if_pos h3]
  exact rfl
 have h16:=yT h3
 have e1:¬¬fE c.ins=0:=fun h=>h h3
 refine bE (c.sts.length=0) (fun h4=>?_) fun h4=>?_
 ·refine eN (iP (bV c)) ?_
  rw[bV,if_neg e0,if_neg e1,if_pos h4]
  exact rfl
 refine bL (24<c.sts.length) (fun h5=>?_) fun h5=>?_
 ·refine eN (iP (bV c)) ?_
  rw[bV,if_neg e0,if_neg e1,if_neg h4,if_pos (.inl h5)]
  exact rfl
 refine bL (32<c.trs.length) (fun h6=>?_) fun h6=>?_
 ·refine eN (iP (bV c)) ?_
  rw[bV,if_neg e0,if_neg e1,if_neg h4,if_pos (.inr h6)]
  exact rfl
 have e2:¬(24<c.sts.length∨32<c.trs.length):=fun h=>h.elim h5 h6
 refine dR (.seq [0,1,2,3,4,5]) ?_
 refine cK (anx) ((c,c.sts)) (by exact (ai (ai rfl (fun _ _=>rfl)) (ai rfl rfl))) (⟨by show c.sts.length≤1000000;omega,hst⟩) ?_
 refine aW (p:=dB (fun k=>gQ c.act (c.sts.getD k st0)) c.sts.length=0) (bn (by dsimp only;omega)) (fun h7=>?_) (fun h7=>?_)
 ·refine eN (iP (bV c)) ?_
  rw[bV,if_neg e0,if_neg e1,if_neg h4,if_neg e2,if_pos h7]
  exact rfl
 have hsm:oO c:=⟨by omega,by omega,by omega,by omega⟩
 refine cK (anp) ((c,c.trs)) (by exact (ai (ai rfl (fun _ _=>rfl)) (ai rfl rfl))) (⟨by show c.trs.length≤1000000;omega,hsm,htr⟩) ?_
 refine eN (iP (bV c)) ?_
 rw[bV,if_neg e0,if_neg e1,if_neg h4,if_neg e2,if_neg (fun h=>h h7)]
 exact rfl
theorem agV:av Tryz.prog 67 au5:=by
 refine vF Tryz.func67 ?_
 rintro (c:aB) hpre
 obtain ⟨hst,htr⟩:=hpre
 refine bL (c.act<1) (fun h1=>?_) fun h1=>?_
 ·refine eN (iP (bV c)) ?_
  rw[bV,if_pos (.inl h1)]
  exact rfl
 refine bL (6<c.act) (fun h2=>?_) fun h2=>?_
 ·refine eN (iP (bV c)) ?_
  rw[bV,if_pos (.inr h2)]
  exact rfl
 have e0:¬(c.act<1∨6<c.act):=fun h=>h.elim h1 h2
 refine cK (amw) (c.ins) (by exact (ai rfl (fun _ _=>rfl))) (trivial) ?_
 refine bN (fE c.ins=0) (fun h3=>?_) fun h3=>?_
 ·refine eN (iP (bV c)) ?_
  rw[bV,if_neg e0,if_pos h3]
  exact rfl
 have h16:=yT h3
 have e1:¬¬fE c.ins=0:=fun h=>h h3
 refine bE (c.sts.length=0) (fun h4=>?_) fun h4=>?_
 ·refine eN (iP (bV c)) ?_
  rw[bV,if_neg e0,if_neg e1,if_pos h4]
  exact rfl
 refine bL (24<c.sts.length) (fun h5=>?_) fun h5=>?_
 ·refine eN (iP (bV c)) ?_
  rw[bV,if_neg e0,if_neg e1,if_neg h4,if_pos (.inl h5)]
  exact rfl
 refine bL (32<c.trs.length) (fun h6=>?_) fun h6=>?_
 ·refine eN (iP (bV c)) ?_
  rw[bV,if_neg e0,if_neg e1,if_neg h4,if_pos (.inr h6)]
  exact rfl
 have e2:¬(24<c.sts.length∨32<c.trs.length):=fun h=>h.elim h5 h6
 have hA:bV c=if ¬dB (fun k=>gQ c.act (c.sts.getD k st0)) c.sts.length=0 then dB (fun k=>gQ c.act (c.sts.getD k st0)) c.sts.length else dB (fun k=>kP c (c.trs.getD k bf)) c.trs.length:=by
  unfold bV;rw[if_neg e0,if_neg e1,if_neg h4,if_neg e2]
 refine fR (c.sts.length) (fun k=>[(4,.s (iA k))]) (fun k=>[]) (fun k=>∀j,j<k→gQ c.act (c.sts.getD j st0)=0) (by exact (ai (ai (fun _=>rfl) (iE (by omega))) rfl)) (by exact trivial) ?_ ?_
 ·exact fun j hj=>absurd hj (aeH _)
 intro (k:Nat) ⟨hk,hall⟩
 refine bL (k<c.sts.length) (fun g1=>?_) fun g1=>?_
 ·refine dR (.seq [0,1,2,3,4,5,6,7]) ?_
  refine iX (k) (c.sts.length) ?_
  refine cK (aqL) ((c,c.sts.getD k st0)) (by exact (ai (ai rfl (ai (ai rfl (fun _ _=>rfl)) (ai (ai rfl (fun _ _=>rfl)) (ai rfl (fun _ _=>rfl))))) (ai (ai rfl (fun _ _=>rfl)) (iE (by simp only[zz,reduceCtorEq]))))) (hst _ (abu (bD st0 g1))) ?_
  refine aW (p:=gQ c.act (c.sts.getD k st0)=0) (bn (by dsimp only;omega)) (fun g2=>?_) (fun g2=>?_)
  ·have e:=dO (f:=fun k=>gQ c.act (c.sts.getD k st0)) g1 hall g2
   refine eN (iP (bV c)) ?_
   rw[hA,if_pos (show ¬dB (fun k=>gQ c.act (c.sts.getD k st0)) c.sts.length=0 by rw[e];exact g2),e]
   exact rfl
  refine nX (k) (ai (ai (fun _=>rfl) (aG (by omega))) rfl) trivial ?_
  intro j hj
  by_cases hjk:j=k
  ·subst hjk;exact g2
  ·exact hall j (by omega)
 ·obtain rfl:k=c.sts.length:=by omega
  rw[if_neg (fun h=>h (gU hall))] at hA
  refine fR (c.trs.length) (fun j=>[(6,.s (iA j))]) (fun j=>[]) (fun j=>∀i,i<j→kP c (c.trs.getD i bf)=0) (by exact (ai (ai (fun _=>rfl) (iE (by omega))) rfl)) (by exact trivial) ?_ ?_
  ·exact fun i hi=>absurd hi (aeH _)
  intro (j:Nat) ⟨hj,hallt⟩
  refine bL (j<c.trs.length) (fun g3=>?_) fun g3=>?_
  ·refine iX (j) (c.trs.length) ?_
   have hto:=htr _ (abu (bD bf g3))
   refine cK (akn) ((c,(c.trs.getD j bf).fr)) (by exact (ai (ai rfl (ai (ai rfl (fun _ _=>rfl)) (ai (ai rfl (fun _ _=>rfl)) (ai rfl (fun _ _=>rfl))))) (ai rfl (fun _ _=>rfl)))) (hto.1) ?_
   refine aW (p:=jM c.sts.length (c.trs.getD j bf).fr=0) (bn (by dsimp only;omega)) (fun g4=>?_) (fun g4=>?_)
   ·have e:kP c (c.trs.getD j bf)=jM c.sts.length (c.trs.getD j bf).fr:=by unfold kP;rw[if_pos g4]
    refine eN (iP (bV c)) ?_
    rw[hA,dO (f:=fun k=>kP c (c.trs.getD k bf)) g3 hallt (by rw[e];exact g4),e]
    exact rfl
   refine cK (akn) ((c,(c.trs.getD j bf).to)) (by exact (ai (ai rfl (ai (ai rfl (fun _ _=>rfl)) (ai (ai rfl (fun _ _=>rfl)) (ai rfl (fun _ _=>rfl))))) (ai rfl (fun _ _=>rfl)))) (hto.2.1) ?_
   refine aW (p:=jM c.sts.length (c.trs.getD j bf).to=0) (bn (by dsimp only;omega)) (fun g5=>?_) (fun g5=>?_)
   ·have e:kP c (c.trs.getD j bf)=jM c.sts.length (c.trs.getD j bf).to:=by unfold kP;rw[if_neg (fun h=>h g4),if_pos g5]
    refine eN (iP (bV c)) ?_
    rw[hA,dO (f:=fun k=>kP c (c.trs.getD k bf)) g3 hallt (by rw[e];exact g5),e]
    exact rfl
   refine dR (.seq [0,1,2,3,4,5]) ?_
   have hsm:oO c:=⟨by omega,by omega,by omega,by omega⟩
   refine cK (aqp) (c) (by exact (ai rfl (ai (ai rfl (fun _ _=>rfl)) (ai (ai rfl (fun _ _=>rfl)) (ai rfl (fun _ _=>rfl)))))) (hsm) ?_
   refine cK (adL) (((c.trs.getD j bf).wh,lF c)) (by exact (ai (ai (iE (by simp only[zz,reduceCtorEq])) (ai (iE (by simp only[zz,reduceCtorEq])) (ai rfl (fun _ _=>rfl)))) rfl)) (trivial) ?_
   have e:kP c (c.trs.getD j bf)=bg (c.trs.getD j bf).wh (lF c):=by unfold kP;rw[if_neg (fun h=>h g4),if_neg (fun h=>h g5)]
   refine aW (p:=bg (c.trs.getD j bf).wh (lF c)=0) (bn (by dsimp only;omega)) (fun g6=>?_) (fun g6=>?_)
   ·refine eN (iP (bV c)) ?_
    rw[hA,dO (f:=fun k=>kP c (c.trs.getD k bf)) g3 hallt (by rw[e];exact g6),e]
    exact rfl
   refine nX (j) (ai (ai (fun _=>rfl) (aG (by omega))) rfl) trivial ?_
   intro i hi
   by_cases hij:i=j
   ·subst hij;rw[e];exact g6
   ·exact hallt i (by omega)
  ·obtain rfl:j=c.trs.length:=by omega
   refine eN (iP (bV c)) ?_
   rw[hA,gU hallt]
   exact rfl
abbrev dec (n : Nat) : List UInt8 := Lib.decDigits n
def aa2 (n:Nat):List UInt8:=if n=0 then [] else dec n
theorem ahD (n:Nat):aa2 n=if n=0 then [] else aa2 (n / 10)++[UInt8.ofNat (48+n % 10)]:=by
 unfold aa2
 by_cases h:n=0
 ·rw[if_pos h,if_pos h]
 ·rw[if_neg h,if_neg h]
  unfold dec
  rw[Lib.decDigits]
  by_cases h2:n<10
  ·rw[dif_pos h2,if_pos (by omega),axx h2];rfl
  ·rw[dif_neg h2,if_neg (by omega)]
def gD:Nat→Nat→List UInt8
 | 0,_=>[]
 | j+1,x=>gD j (x / 10)++[UInt8.ofNat (48+x % 10)]
theorem aci:∀(j n:Nat),n / 10 ^ j≠0→aa2 n=aa2 (n / 10 ^ j)++gD j n
 | 0,n,_=>by simp[gD]
 | j+1,n,h=>by
  have hn:n≠0:=by rintro rfl;simp at h
  have hd:n / 10 / 10 ^ j=n / 10 ^ (j+1):=by rw[au1,axI,axU]
  rw[ahD,if_neg hn,aci j (n / 10) (by rw[hd];exact h),hd,gD,ava]
def limbs (n:Nat):List Int:=if n=0 then [] else if n<1000000 then [(n:Int)] else [((n % 1000000:Nat):Int),((n / 1000000:Nat):Int)]
def awe:Spec:=bO (fun n:Nat=>[iA n]) (fun n=>n<1000000000000) (fun n=>fT (limbs n))
theorem wq (n:Nat) (h:n<1000000000000):IntKind.i64.wrap ((n:Int).tdiv 1000000)=((n / 1000000:Nat):Int):=by
 rw[show ((n:Int).tdiv 1000000)=((n / 1000000:Nat):Int) from rfl];exact yS (by omega)
theorem amn {x:PV} {g:Nat→List PV} (hg:g 0=[x]):∀k,k<1→(g k).length=1:=fun k hk=>by
 obtain rfl:k=0:=by omega
 rw[hg];rfl
theorem asD:av Tryz.prog 258 awe:=by
 refine vF Tryz.func258 ?_
 rintro (n:Nat) hpre
 have hn:n<1000000000000:=hpre
 have hq:=wq n hn
 have hq2:n / 1000000<1000000000000:=by omega
 have hq3:=wq (n / 1000000) hq2
 refine ei (mK.unroll 3) ?_
 refine bL (0<n) (fun h1=>?_) fun h1=>?_
 ·refine ai (by decide) ?_
  refine ai (ai (by decide) (by decide)) (ai (amn rfl) ?_)
  refine ai (by decide) ?_
  refine ah (p:=0<n / 1000000) (by exact aA (by rw[hq];omega)) (fun h2=>?_) (fun h2=>?_)
  ·refine ai (by decide) ?_
   refine ai (ai (by decide) (by decide)) (ai (amn rfl) ?_)
   refine ai (by decide) ?_
   refine bF (by exact decide_eq_false (by rw[hq,hq3];omega)) ?_
   have e:limbs n=[((n % 1000000:Nat):Int),((n / 1000000:Nat):Int)]:=by unfold limbs;rw[if_neg (by omega),if_neg (by omega)]
   refine eF (fT (limbs n)) ?_
   rw[e]
   refine (ai rfl ?_)
   intro k hk
   have hk:k<2:=hk
   match k,hk with
   | 0,_=>rfl
   | 1,_=>
    show [PV.val (.int .i64 ((IntKind.i64.wrap ((n:Int).tdiv 1000000)).tmod 1000000))]=[iP ((n / 1000000:Nat):Int)]
    rw[hq]
    show [PV.val (.int .i64 ((n / 1000000 % 1000000:Nat):Int))]=_
    rw[axx (by omega)];rfl
  ·have e:limbs n=[(n:Int)]:=by unfold limbs;rw[if_neg (by omega),if_pos (by omega)]
   refine eF (fT (limbs n)) ?_
   rw[e]
   refine (ai rfl ?_)
   intro k hk
   have hk:k<1:=hk
   obtain rfl:k=0:=by omega
   show [PV.val (.int .i64 ((n % 1000000:Nat):Int))]=[iP (n:Int)]
   rw[axx (by omega)];rfl
 ·have e:limbs n=[]:=by unfold limbs;rw[if_pos (by omega)]
  refine eF (fT (limbs n)) ?_
  rw[e]
  exact rfl
theorem uI (s:List UInt8) (l h:Nat):(strOf s).extract l h=strOf ((s.take h).drop l):=by
 apply ByteArray.ext
 simp only[strOf,ByteArray.data_extract]
 apply Array.ext'
 simp[List.drop_take]
theorem auY {d:Nat} (h:d<10):(oD.take (d+1)).drop d=[UInt8.ofNat (48+d)]:=by
 have:∀d:Fin 10,(oD.take (d.1+1)).drop d.1=[UInt8.ofNat (48+d.1)]:=by decide
 exact this ⟨d,h⟩
theorem uF:∀(j x:Nat),gD (j+1) x=UInt8.ofNat (48+x / 10 ^ j % 10) :: gD j x
 | 0,x=>by simp[gD]
 | j+1,x=>by
  rw[gD,uF j (x / 10),au1,show 10*10 ^ j=10 ^ (j+1) by rw[axI,axU]]
  conv=>rhs;rw[gD]
  rfl
theorem zm:∀(j x:Nat),(gD j x).length=j
 | 0,_=>rfl
 | j+1,x=>by rw[uF];simp[zm j x]
theorem yg {j x:Nat} (h0:x / 10 ^ j=0) (h1:j=0∨x / 10 ^ (j-1)≠0):aa2 x=gD j x:=by
 cases j with
 | zero=>
  have:x=0:=by simpa using h0
  subst this;rfl
 | succ j=>
  have h1:x / 10 ^ j≠0:=by rcases h1 with h | h;omega;simpa using h
  rw[aci j x h1,uF]
  have hlt:x / 10 ^ j<10:=by
   rw[axI,axU,←au1,au1,axU,←au1] at h0
   omega
  rw[ahD,if_neg h1,axE hlt]
  rfl
def wK:List Int→Nat
 | []=>0
 | [x]=>x.toNat
 | x :: y :: _=>x.toNat+1000000*y.toNat
def okL (l:List Int):Prop:=l=[]∨(∃x:Nat,0<x∧x<1000000∧l=[(x:Int)])∨∃x y:Nat,x<1000000∧0<y∧y<1000000∧l=[(x:Int),(y:Int)]
theorem aqQ {n:Nat} (h:n<1000000000000):okL (limbs n)∧wK (limbs n)=n:=by
 unfold limbs okL
 by_cases h0:n=0
 ·rw[if_pos h0];exact ⟨.inl rfl,h0.symm⟩
 ·rw[if_neg h0]
  by_cases h1:n<1000000
  ·rw[if_pos h1];exact ⟨.inr (.inl ⟨n,by omega,h1,rfl⟩),rfl⟩
  ·rw[if_neg h1]
   refine ⟨.inr (.inr ⟨n % 1000000,n / 1000000,by omega,by omega,by omega,rfl⟩),?_⟩
   show (((n % 1000000:Nat):Int)).toNat+1000000*(((n / 1000000:Nat):Int)).toNat=n
   rw[aeI,aeI];omega
def asG:Spec:=bC (fun l:List Int=>[isA l]) okL (fun l=>sP (dec (wK l)))
theorem ak2:av Tryz.prog 256 asG:=by
 refine vF Tryz.func256 ?_
 rintro (l:List Int) hpre
 have hq:∀a:Nat,a<1000000→IntKind.i64.wrap ((a:Int).tdiv 10)=((a / 10:Nat):Int):=fun a h=>by
  rw[show ((a:Int).tdiv 10)=((a / 10:Nat):Int) from rfl];exact yS (by omega)
 have hr:∀a:Nat,IntKind.i64.wrap ((a:Int).tmod 10+1)=((a % 10+1:Nat):Int):=fun a=>by
  rw[show ((a:Int).tmod 10)=((a % 10:Nat):Int) from rfl];exact kJ (by omega) (by omega)
 have hx:∀a:Nat,(strOf oD).extract ((a:Int).tmod 10).toNat (IntKind.i64.wrap ((a:Int).tmod 10+1)).toNat=strOf [UInt8.ofNat (48+a % 10)]:=fun a=>by
  rw[hr,show ((a:Int).tmod 10)=((a % 10:Nat):Int) from rfl,aeI,aeI,uI,auY (by omega)]
 have hlt:∀x j:Nat,x<1000000→x / 10 ^ j<1000000:=fun x j h=>Nat.lt_of_le_of_lt (Nat.div_le_self _ _) h
 rcases hpre with rfl | ⟨x,hx0,hx1,rfl⟩ | ⟨x',x,hx1',hx0,hx1,rfl⟩
 ·refine eN (sP (dec (wK []))) ?_
  rw[show dec (wK [])=[48] by show Lib.decDigits 0=_;rw[Lib.decDigits];rfl]
  exact rfl
 ·refine ei (mK.unroll 2) ?_
  refine ai (ai (by decide) (by show (0:Int)<1;decide)) ?_
  refine ai rfl ?_
  have hs0:([]:List UInt8).length≤1000:=by decide
  refine ei (mK.inv { X:=Nat,up:=fun j=>[(6,.s (iA j)),(5,.s (iA (((x) / 10 ^ j:Nat)))),(3,.s (sA (gD j (x)++[])))],uo:=fun _=>[],inv:=fun j=>j≤6∧(j=0∨(x) / 10 ^ (j-1)≠0),meas:=fun j=>6-j,x0:=0 }) ?_
  refine ai (ai (ai (by exact (a4 (ai rfl rfl))) (ai ?_ ?_)) ?_) (ai ?_ ?_)
  ·refine (ai (ai (ai (fun _=>rfl) (iE (by simp only[zz,reduceCtorEq];rfl))) rfl) (ai (ai (ai nof ?_) rfl) (ai (ai (fun _=>rfl) rfl) rfl)))
   show ((x:Nat):Int)=(((x) / 10 ^ 0:Nat):Int)
   simp
  ·exact trivial
  ·rfl
  ·exact ⟨alr _,.inl rfl⟩
  intro (j:Nat) ⟨hj,hd⟩
  refine bL (j<6) (fun h5=>?_) fun h5=>?_
  ·refine bL (0<(x) / 10 ^ j) (fun h6=>?_) fun h6=>?_
   ·have hpj:=hlt (x) j hx1
    generalize hz:(x) / 10 ^ j=z at *
    refine ai (by decide) (ai (by decide) ?_)
    refine ai (ai (by show (0:Int)≤((z:Int).tmod 10);exact abw _) (ai (by rw[hr];show ((z % 10:Nat):Int)≤_;omega) (by rw[hr];show ((z % 10+1:Nat):Int)≤10;omega))) ?_
    refine ai (by show (((((strOf oD).extract ((z:Int).tmod 10).toNat (IntKind.i64.wrap ((z:Int).tmod 10+1)).toNat).size+(strOf (gD j (x)++[])).size:Nat)):Int)≤9223372036854775807;rw[hx,cO,cO,aaJ,zm,axP];show ((1+(j+([]:List UInt8).length):Nat):Int)≤_;omega) ?_
    refine ai (by decide) ?_
    refine ei ((j+1)) (ai (ai rfl rfl) (ai (ai ?_ ?_) (ai ?_ ?_)))
    ·refine (ai rfl (ai (ai rfl rfl) (ai (ai rfl rfl) (ai (ai (ai (ai (fun _=>rfl) (aG (by omega))) rfl) (ai (ai (ai (fun _=>rfl) ?_) rfl) (ai (ai (fun _=>rfl) ?_) rfl))) trivial))))
     ·show IntKind.i64.wrap ((z:Int).tdiv 10)=((((x) / 10 ^ (j+1):Nat)):Int)
      rw[hq z (by omega),←hz,au1,axI]
     ·show (strOf oD).extract ((z:Int).tmod 10).toNat (IntKind.i64.wrap ((z:Int).tmod 10+1)).toNat++strOf (gD j (x)++[])=strOf (gD (j+1) (x)++[])
      rw[hx,uW,uF j (x),hz];rfl
    ·rfl
    ·exact ⟨h5,.inr (by show (x) / 10 ^ j≠0;rw[hz];omega)⟩
    ·show 6-(j+1)<6-j;omega
   ·have e:=yg (x:=x) (j:=j) (Nat.eq_zero_of_not_pos h6) hd
    refine eN (sP (dec (wK [(x:Int)]))) ?_
    rw[show dec (wK [(x:Int)])=gD _ x++[] by rw[arR,←e];unfold aa2;rw[if_neg (by omega)];rfl]
    exact rfl
  ·obtain rfl:j=6:=by omega
   have e:=yg (x:=x) (j:=6) (axE hx1) hd
   refine eN (sP (dec (wK [(x:Int)]))) ?_
   rw[show dec (wK [(x:Int)])=gD _ x++[] by rw[arR,←e];unfold aa2;rw[if_neg (by omega)];rfl]
   exact rfl
 ·refine ei (mK.unroll 3) ?_
  refine ai (ai (by decide) (by show (0:Int)<2;decide)) ?_
  refine ai rfl ?_
  refine ei (mK.inv { X:=Nat,up:=fun j=>[(6,.s (iA j)),(5,.s (iA ((x' / 10 ^ j:Nat)))),(3,.s (sA (gD j x'++[])))],uo:=fun _=>[],inv:=fun j=>j≤6,meas:=fun j=>6-j,x0:=0 }) ?_
  refine ai (ai (ai (by exact (a4 (ai rfl rfl))) (ai ?_ ?_)) ?_) (ai ?_ ?_)
  ·refine (ai (ai (ai (fun _=>rfl) (iE (by simp only[zz,reduceCtorEq];rfl))) rfl) (ai (ai (ai nof ?_) rfl) (ai (ai (fun _=>rfl) rfl) rfl)))
   show ((x':Nat):Int)=((x' / 10 ^ 0:Nat):Int)
   simp
  ·exact trivial
  ·rfl
  ·exact alr _
  intro (j:Nat) (hj:j≤6)
  refine bL (j<6) (fun h5=>?_) fun h5=>?_
  ·have hs0:([]:List UInt8).length≤1000:=by decide
   have hxx:=hx1
   have hx1:=hx1'
   have hpj:=hlt (x') j hx1
   generalize hz:(x') / 10 ^ j=z at *
   refine ai (by decide) (ai (by decide) ?_)
   refine ai (ai (by show (0:Int)≤((z:Int).tmod 10);exact abw _) (ai (by rw[hr];show ((z % 10:Nat):Int)≤_;omega) (by rw[hr];show ((z % 10+1:Nat):Int)≤10;omega))) ?_
   refine ai (by show (((((strOf oD).extract ((z:Int).tmod 10).toNat (IntKind.i64.wrap ((z:Int).tmod 10+1)).toNat).size+(strOf (gD j (x')++[])).size:Nat)):Int)≤9223372036854775807;rw[hx,cO,cO,aaJ,zm,axP];show ((1+(j+([]:List UInt8).length):Nat):Int)≤_;omega) ?_
   refine ai (by decide) ?_
   refine ei ((j+1)) (ai (ai rfl rfl) (ai (ai ?_ ?_) (ai ?_ ?_)))
   ·refine (ai rfl (ai (ai rfl rfl) (ai (ai rfl rfl) (ai (ai (ai (ai (fun _=>rfl) (aG (by omega))) rfl) (ai (ai (ai (fun _=>rfl) ?_) rfl) (ai (ai (fun _=>rfl) ?_) rfl))) trivial))))
    ·show IntKind.i64.wrap ((z:Int).tdiv 10)=((((x') / 10 ^ (j+1):Nat)):Int)
     rw[hq z (by omega),←hz,au1,axI]
    ·show (strOf oD).extract ((z:Int).tmod 10).toNat (IntKind.i64.wrap ((z:Int).tmod 10+1)).toNat++strOf (gD j (x')++[])=strOf (gD (j+1) (x')++[])
     rw[hx,uW,uF j (x'),hz];rfl
   ·rfl
   ·exact h5
   ·show 6-(j+1)<6-j;omega
  ·obtain rfl:j=6:=by omega
   refine ai (ai (by decide) (by show (1:Int)<2;decide)) ?_
   refine ai rfl ?_
   have hs0:(gD 6 x'++[]).length≤1000:=by rw[arR,zm];decide
   refine ei (mK.inv { X:=Nat,up:=fun j=>[(6,.s (iA j)),(5,.s (iA (((x) / 10 ^ j:Nat)))),(3,.s (sA (gD j (x)++(gD 6 x'++[]))))],uo:=fun _=>[],inv:=fun j=>j≤6∧(j=0∨(x) / 10 ^ (j-1)≠0),meas:=fun j=>6-j,x0:=0 }) ?_
   refine ai (ai (ai (by exact (a4 (ai rfl rfl))) (ai ?_ ?_)) ?_) (ai ?_ ?_)
   ·refine (ai (ai (ai (fun _=>rfl) (iE (by simp only[zz,reduceCtorEq];rfl))) rfl) (ai (ai (ai nof ?_) rfl) (ai (ai nof rfl) rfl)))
    show ((x:Nat):Int)=(((x) / 10 ^ 0:Nat):Int)
    simp
   ·exact trivial
   ·rfl
   ·exact ⟨alr _,.inl rfl⟩
   intro (j:Nat) ⟨hj,hd⟩
   refine bL (j<6) (fun h5=>?_) fun h5=>?_
   ·refine bL (0<(x) / 10 ^ j) (fun h6=>?_) fun h6=>?_
    ·have hpj:=hlt (x) j hx1
     generalize hz:(x) / 10 ^ j=z at *
     refine ai (by decide) (ai (by decide) ?_)
     refine ai (ai (by show (0:Int)≤((z:Int).tmod 10);exact abw _) (ai (by rw[hr];show ((z % 10:Nat):Int)≤_;omega) (by rw[hr];show ((z % 10+1:Nat):Int)≤10;omega))) ?_
     refine ai (by show (((((strOf oD).extract ((z:Int).tmod 10).toNat (IntKind.i64.wrap ((z:Int).tmod 10+1)).toNat).size+(strOf (gD j (x)++(gD 6 x'++[]))).size:Nat)):Int)≤9223372036854775807;rw[hx,cO,cO,aaJ,zm,axP];show ((1+(j+((gD 6 x'++[]):List UInt8).length):Nat):Int)≤_;omega) ?_
     refine ai (by decide) ?_
     refine ei ((j+1)) (ai (ai rfl rfl) (ai (ai ?_ ?_) (ai ?_ ?_)))
     ·refine (ai rfl (ai (ai rfl rfl) (ai (ai rfl rfl) (ai (ai (ai (ai (fun _=>rfl) (aG (by omega))) rfl) (ai (ai (ai (fun _=>rfl) ?_) rfl) (ai (ai (fun _=>rfl) ?_) rfl))) trivial))))
      ·show IntKind.i64.wrap ((z:Int).tdiv 10)=((((x) / 10 ^ (j+1):Nat)):Int)
       rw[hq z (by omega),←hz,au1,axI]
      ·show (strOf oD).extract ((z:Int).tmod 10).toNat (IntKind.i64.wrap ((z:Int).tmod 10+1)).toNat++strOf (gD j (x)++(gD 6 x'++[]))=strOf (gD (j+1) (x)++(gD 6 x'++[]))
       rw[hx,uW,uF j (x),hz];rfl
     ·rfl
     ·exact ⟨h5,.inr (by show (x) / 10 ^ j≠0;rw[hz];omega)⟩
     ·show 6-(j+1)<6-j;omega
    ·have e:=yg (x:=x) (j:=j) (Nat.eq_zero_of_not_pos h6) hd
     have hdiv:(x'+1000000*x) / 10 ^ 6=x:=by
      show (x'+1000000*x) / 1000000=x
      omega
     have hpad:gD 6 (x'+1000000*x)=gD 6 x':=by
      simp only[gD]
      have e0:(x'+1000000*x) % 10=x' % 10:=by omega
      have e1:(x'+1000000*x) / 10 % 10=x' / 10 % 10:=by omega
      have e2:(x'+1000000*x) / 10 / 10 % 10=x' / 10 / 10 % 10:=by omega
      have e3:(x'+1000000*x) / 10 / 10 / 10 % 10=x' / 10 / 10 / 10 % 10:=by omega
      have e4:(x'+1000000*x) / 10 / 10 / 10 / 10 % 10=x' / 10 / 10 / 10 / 10 % 10:=by omega
      have e5:(x'+1000000*x) / 10 / 10 / 10 / 10 / 10 % 10=x' / 10 / 10 / 10 / 10 / 10 % 10:=by omega
      rw[e0,e1,e2,e3,e4,e5]
     refine eN (sP (dec (wK [(x':Int),(x:Int)]))) ?_
     rw[show dec (wK [(x':Int),(x:Int)])=gD _ x++(gD 6 x'++[]) by rw[arR,←e];show dec (x'+1000000*x)=_;have h:=aci 6 (x'+1000000*x) (by rw[hdiv];omega);rw[hdiv,hpad] at h;rw[←h];unfold aa2;rw[if_neg (by omega)]]
     exact rfl
   ·obtain rfl:j=6:=by omega
    have e:=yg (x:=x) (j:=6) (axE hx1) hd
    have hdiv:(x'+1000000*x) / 10 ^ 6=x:=by
     show (x'+1000000*x) / 1000000=x
     omega
    have hpad:gD 6 (x'+1000000*x)=gD 6 x':=by
     simp only[gD]
     have e0:(x'+1000000*x) % 10=x' % 10:=by omega
     have e1:(x'+1000000*x) / 10 % 10=x' / 10 % 10:=by omega
     have e2:(x'+1000000*x) / 10 / 10 % 10=x' / 10 / 10 % 10:=by omega
     have e3:(x'+1000000*x) / 10 / 10 / 10 % 10=x' / 10 / 10 / 10 % 10:=by omega
     have e4:(x'+1000000*x) / 10 / 10 / 10 / 10 % 10=x' / 10 / 10 / 10 / 10 % 10:=by omega
     have e5:(x'+1000000*x) / 10 / 10 / 10 / 10 / 10 % 10=x' / 10 / 10 / 10 / 10 / 10 % 10:=by omega
     rw[e0,e1,e2,e3,e4,e5]
    refine eN (sP (dec (wK [(x':Int),(x:Int)]))) ?_
    rw[show dec (wK [(x':Int),(x:Int)])=gD _ x++(gD 6 x'++[]) by rw[arR,←e];show dec (x'+1000000*x)=_;have h:=aci 6 (x'+1000000*x) (by rw[hdiv];omega);rw[hdiv,hpad] at h;rw[←h];unfold aa2;rw[if_neg (by omega)]]
    exact rfl
theorem aoq:av Tryz.prog 212 (bC (fun n:Nat=>[iA n]) (fun n=>n<1000000000000) (fun n=>sP (dec n))):=by
 refine vF Tryz.func212 ?_
 rintro (n:Nat) hpre
 have hn:n<1000000000000:=hpre
 obtain ⟨h1,h2⟩:=aqQ hn
 refine cK (asD) (n) (by exact rfl) (hn) ?_
 refine cK (ak2) (limbs n) (by exact (ai rfl (fun _ _=>rfl))) (h1) ?_
 refine eN (sP (dec n)) ?_
 rw[show dec n=dec (wK (limbs n)) by rw[h2]]
 exact rfl
theorem aqC:av Tryz.prog 159 (bC (fun n:Nat=>[iA n]) (fun n=>n<1000000000000) (fun n=>sP (dec n))):=by
 refine vF Tryz.func159 ?_
 rintro (n:Nat) hpre
 refine cK (aoq) (n) (by exact rfl) (hpre) ?_
 refine eN _ ?_
 exact rfl
theorem apU:av Tryz.prog 209 (bC (fun n:Nat=>[iA n]) (fun n=>n<100) (fun n=>sP (dec n))):=
 ajt (aia (α:=Nat) Tryz.func209 rfl rfl (vals:=fun n=>[.int .i64 n]) (pre:=fun n=>n<100) (ret:=fun n=>.string (strOf (dec n))) (fun _ _=>rfl)
  fun n hn w=>(Tryz.strconv_Itoa_small n hn w).mono fun e w' h=>by
   obtain ⟨h1,h2⟩:=h
   subst h2
   exact ⟨h1,RowKit.Below.refl _ _⟩) id
  (fun _ _=>rfl) (fun _ _=>rfl) (fun _ _=>rfl) (fun _ _=>rfl) (fun _ h=>h)
theorem dW {l:List PV} (n:Nat) (h:l.length=n):∀k,k<n→(aT 1 l k).length=1:=by
 intro k hk
 subst h
 induction l generalizing k with
 | nil=>simp at hk
 | cons d l ih=>
  cases k with
  | zero=>rfl
  | succ k=>
   have h1:=ih k (by simpa using hk)
   show (aT 1 (d :: l) (k+1)).length=1
   have:aT 1 (d :: l) (k+1)=aT 1 l k:=by
    unfold aT
    rw[auZ,auZ];rfl
   rw[this];exact h1
theorem mG {c:aB} (h:bV c=0):(1≤c.act∧c.act≤6)∧fE c.ins=0∧(0<c.sts.length∧c.sts.length≤24)∧c.trs.length≤32∧(∀k,k<c.sts.length→gQ c.act (c.sts.getD k st0)=0)∧∀k,k<c.trs.length→kP c (c.trs.getD k bf)=0:=by
 unfold bV at h
 split at h
 ·cases h
 split at h
 ·rename_i h1 h2;exact absurd h h2
 split at h
 ·cases h
 split at h
 ·cases h
 split at h
 ·rename_i h1;exact absurd h h1
 rename_i h1 h2 h3 h4 h5
 refine ⟨by omega,alF.1 h2,by omega,by omega,fun k hk=>qj (alF.1 h5) k hk,fun k hk=>qj h k hk⟩
structure tN where
 nm:List UInt8
 kd:Int
 on:Ex
 off:Ex
 dl:Int
 ini:Bool
structure bI where
 act:Int
 ins:List (List UInt8)
 sgs:List tN
 pl:List Int
 mi:List Int
structure dw where
 en:List Int
 va:List Bool
 inp:List Bool
 vl:List Bool
 ti:List Int
def sgK (x:tN):List PV:=[sP x.nm,iP x.kd,iP x.on.op,iP x.on.idx,.seq x.on.args.length (jI x.on.args),iP x.off.op,iP x.off.idx,.seq x.off.args.length (jI x.off.args),iP x.dl,bP x.ini]
def ak:tN:=⟨[],0,bK,bK,0,false⟩
def ap6 (l:List tN):PV:=.seq l.length (fun k=>sgK (l.getD k ak))
def ctK (c:bI):List PV:=[iP c.act,xV c.ins,ap6 c.sgs,fT c.pl,fT c.mi]
def ctP (c:bI):PV:=.agg (ctK c)
def sH (c:bI):SV:=.p false (ctP c)
def aw9 (s:dw):List PV:=[fT s.en,iR s.va,iR s.inp,iR s.vl,fT s.ti]
def vX (s:dw):PV:=.agg (aw9 s)
def kE (s:dw):SV:=.p false (vX s)
def bW (c:bI):Int:=2*c.act+c.ins.length
def dG (c:bI):Int:=2*c.act+c.ins.length+c.sgs.length
def lu (c:bI):Prop:=(0≤c.act∧c.act≤1000)∧c.ins.length≤1000000∧c.sgs.length≤1000000
def abL (n:Nat):List UInt8:=[UInt8.ofNat (97+n / 2),UInt8.ofNat (48+n % 2)]
def eH (c:bI) (n:Nat):List UInt8:=if (n:Int)<2*c.act then abL n else if (n:Int)<bW c then c.ins.getD (n-2*c.act.toNat) [] else (c.sgs.getD (n-2*c.act.toNat-c.ins.length) ak).nm
def jN (s:List UInt8):Bool:=!s.isEmpty&&jv (s.getD 0 0)&&s.all eD
def kZ (c:bI) (n:Nat):Int:=if !jN (eH c n) then 3 else if 24<(eH c n).length then 17 else if (List.range n).any (fun i=>eH c i==eH c n) then 7 else 0
def bM (x:Ex):Bool:=(x.op==0)&&(x.idx==0)&&x.args.isEmpty
mutual
def qV (v:Int):Ex→Bool
 | .node o i l=>if o=1 then i==v else aiM v l
def aiM (v:Int):List Ex→Bool
 | []=>false
 | x :: l=>qV v x||aiM v l
end
def adI (c:bI) (i k:Nat):Bool:=decide (i≤k)&&(((c.sgs.getD k ak).kd==0)&&qV (bW c+(k:Int)) (c.sgs.getD i ak).on)
def rE (c:bI) (i:Nat):Bool:=(List.range c.sgs.length).any (adI c i)
def aU (c:bI) (i:Nat):Int:=
 if ¬kZ c (2*c.act.toNat+c.ins.length+i)=0 then kZ c (2*c.act.toNat+c.ins.length+i)
 else if (c.sgs.getD i ak).kd<0∨3≤(c.sgs.getD i ak).kd then 1
 else if ¬bg (c.sgs.getD i ak).on (dG c)=0 then bg (c.sgs.getD i ak).on (dG c)
 else if (c.sgs.getD i ak).kd=1∧¬bg (c.sgs.getD i ak).off (dG c)=0 then bg (c.sgs.getD i ak).off (dG c)
 else if (c.sgs.getD i ak).kd=0∧rE c i=true then 9
 else if (c.sgs.getD i ak).kd=2∧((c.sgs.getD i ak).dl<1∨1000000<(c.sgs.getD i ak).dl) then 2
 else if (¬(c.sgs.getD i ak).kd=1∧(bM (c.sgs.getD i ak).off=false∨(c.sgs.getD i ak).ini=true))∨(¬(c.sgs.getD i ak).kd=2∧¬(c.sgs.getD i ak).dl=0) then 3 else 0
def abC (c:bI) (l:List Int):Bool:=l.any fun x=>decide (x<0)||decide (dG c≤x)
def pW (c:bI):Int:=if ¬((c.pl.length:Int)=c.act∧(c.mi.length:Int)=c.act) then 8 else if abC c c.pl||abC c c.mi then 6 else 0
def bH (c:bI):Int:=
 if c.act<1∨6<c.act then 2 else if 16<c.ins.length∨64<c.sgs.length then 5
 else if ¬dB (fun i=>kZ c (2*c.act.toNat+i)) c.ins.length=0 then dB (fun i=>kZ c (2*c.act.toNat+i)) c.ins.length
 else if ¬dB (aU c) c.sgs.length=0 then dB (aU c) c.sgs.length else pW c
def awK (x:tN):Prop:=x.on.size≤1000000∧x.off.size≤1000000
def amB (c:bI):Prop:=(∀x∈c.sgs,awK x)∧c.pl.length≤1000000∧c.mi.length≤1000000
def mD (m:List Bool) (k:Nat):PV:=bP (m.getD k false)
def mkP (m:List Bool):PV:=.arr 24 (mD m)
def mkA (m:List Bool):SV:=.p false (mkP m)
theorem sQ (g:Nat→PV):∀(n i k:Nat),k<n→(qA g i n)[k]?=some (g (i+k))
 | 0,_,_,h=>by omega
 | n+1,i,0,_=>rfl
 | n+1,i,k+1,h=>by
  show (qA g (i+1) n)[k]?=_
  rw[sQ g n (i+1) k (by omega),show i+1+k=i+(k+1) by omega]
theorem avV (m:List Bool) {k:Nat} (h:k<24):(je 24 (mD m))[k]?=some (mD m k):=by
 unfold je;rw[sQ _ _ _ _ h,ahv]
def oU (n:Nat) (l:List Int):Prop:=∀k∈l,0≤k∧k<(n:Int)
theorem yY {n:Nat} {l:List Int} (h:oU n l) {k:Nat} (hk:k<l.length):0≤l.getD k 0∧l.getD k 0<(n:Int):=h _ (abu (bD 0 hk))
def kQ (m:List Bool) (k:Int):Bool:=m.getD k.toNat false
def allM (m:List Bool) (l:List Int):Bool:=l.all (kQ m)
def auW (m:List Bool):PV:=.fn 137 [.pt (je 24 (mD m)) 0]
theorem asj:av Tryz.prog 137 (bC (fun a:List Bool×Int=>[iA a.2,.p false (.pt (je 24 (mD a.1)) 0)]) (fun a=>0≤a.2∧a.2<24) (fun a=>bP (!kQ a.1 a.2))):=by
 refine vF Tryz.func137 ?_
 rintro (a:List Bool×Int) hpre
 have h1:0≤a.2:=hpre.1
 have h2:a.2<24:=hpre.2
 refine ai ⟨h1,h2⟩ ?_
 refine ei (mD a.1 a.2.toNat) (ai (by rw[ahv];exact avV a.1 (by omega)) ?_)
 refine eN _ ?_
 exact rfl
def awr:Spec:=bC (fun a:List Bool×List Int=>[isA a.2,.p false (auW a.1)]) (fun a=>oU 24 a.2∧a.2.length≤1000000) (fun a=>iP (jG (fun k=>!kQ a.1 k) a.2))
theorem asK:av Tryz.prog 187 awr:=by
 refine vF Tryz.func187 ?_
 rintro (a:List Bool×List Int) hpre
 obtain ⟨hx,hl⟩:=hpre
 have hl:a.2.length≤1000000:=hl
 refine fR (a.2.length) (fun k=>[(8,.s (iA k))]) (fun k=>[]) (fun k=>∀y∈a.2.take k,(!kQ a.1 y)=false) (by exact (ai (ai (fun _=>rfl) (iE (by omega))) rfl)) (by exact trivial) ?_ ?_
 ·exact fun y hy=>absurd hy (by simp)
 intro (k:Nat) ⟨hk,hall⟩
 refine bL (k<a.2.length) (fun h1=>?_) fun h1=>?_
 ·refine iX (k) (a.2.length) ?_
  refine cK (asj) ((a.1,a.2.getD k 0)) (by exact (ai (iE (by simp only[zz,reduceCtorEq])) (ai rfl rfl))) (yY hx h1) ?_
  refine aC (b:=!kQ a.1 (a.2.getD k 0)) rfl (fun h2=>?_) (fun h2=>?_)
  ·refine eN (iP (jG (fun k=>!kQ a.1 k) a.2)) ?_
   rw[rY (d:=0) h1 h2 hall]
   exact rfl
  refine nX (k) (ai (ai (fun _=>rfl) (aG (by omega))) rfl) trivial ?_
  intro y hy
  rw[aR 0 h1] at hy
  rcases acT.1 hy with hy | hy
  ·exact hall y hy
  ·simp only[aes] at hy;subst hy;exact h2
 ·obtain rfl:k=a.2.length:=by omega
  rw[acS] at hall
  refine eN (iP (jG (fun k=>!kQ a.1 k) a.2)) ?_
  rw[uy hall]
  exact rfl
theorem atp:av Tryz.prog 130 (bC (fun a:List Bool×List Int=>[isA a.2,.p false (auW a.1)]) (fun a=>oU 24 a.2∧a.2.length≤1000000) (fun a=>bP (a.2.any fun k=>!kQ a.1 k))):=by
 refine vF Tryz.func130 ?_
 rintro (a:List Bool×List Int) hpre
 refine cK (asK) (a) (by exact (ai (ai rfl (fun _ _=>rfl)) (ai rfl rfl))) (hpre) ?_
 refine eN (bP (a.2.any fun k=>!kQ a.1 k)) ?_
 rw[(qU (fun k=>!kQ a.1 k) a.2).symm]
 exact rfl
theorem apg:av Tryz.prog 82 (bC (fun a:List Bool×List Int=>[mkA a.1,isA a.2]) (fun a=>oU 24 a.2∧a.2.length≤1000000) (fun a=>bP (allM a.1 a.2))):=by
 refine vI [3000006] Tryz.func82 ?_
 rintro (a:List Bool×List Int) hpre
 refine cK (atp) (a) (by exact (ai (ai rfl (fun _ _=>rfl)) (ai rfl rfl))) (hpre) ?_
 refine eN (bP (allM a.1 a.2)) ?_
 rw[show allM a.1 a.2=!(a.2.any fun k=>!kQ a.1 k) by unfold allM;simp[List.not_any_eq_all_not]]
 exact rfl
def rG (l:List Bool):List Bool:=l++List.replicate (24-l.length) false
theorem ae4 (l:List Bool) (k:Nat):(rG l).getD k false=l.getD k false:=by
 unfold rG
 rw[aaG,aaG]
 by_cases h:k<l.length
 ·rw[aoj h]
 ·rw[ahS (by omega),awE (l:=l) (by omega),axl]
  split<;>rfl
theorem aqi {l:List Bool} (h:l.length≤24):(rG l).length=24:=by unfold rG;rw[aaJ,apo];omega
def mk0:List Bool:=rG []
def pF (c:aB) (a:List Bool):Int:=if ¬bV c=0 then bV c else if ¬a.length=c.sts.length then 8 else 0
def qI (c:aB) (a:List Bool):List Bool:=if pF c a=0 then rG a else mk0
def axd:Spec:=bO (fun a:aB×List Bool=>[iG a.1,qh a.2]) (fun a=>jr a.1) (fun a=>.tup [mkP (qI a.1 a.2),iP (pF a.1 a.2)])
theorem ams:∀k,k<24→nV (vals (List.replicate 24 (.bool false))) k=mD mk0 k:=by
 intro k hk
 rw[yc,agR 24 _ hk]
 unfold mD mk0
 rw[ae4];rfl
theorem aac {c:aB} {a:List Bool} (h:pF c a=0):bV c=0∧a.length=c.sts.length∧a.length≤24:=by
 unfold pF at h
 split at h
 ·rename_i h1;exact absurd h h1
 ·rename_i h1
  split at h
  ·cases h
  ·rename_i h2
   have h1:=alF.1 h1
   have h2:=alF.1 h2
   have:=(mG h1).2.2.1.2
   exact ⟨h1,h2,by omega⟩
theorem atn {l:List Bool} (h:l.length≤24):∀k,k<24→aef (nV (vals (List.replicate 24 (.bool false)))) 0 (Nat.min l.length 24) (fun k=>[bP (l.getD k false)]) k=mD (rG l) k:=by
 intro k hk
 unfold aef
 have hm:Nat.min l.length 24=l.length:=Nat.min_eq_left h
 rw[hm]
 unfold mD
 rw[ae4]
 by_cases hk2:k<l.length
 ·rw[if_pos ⟨alr _,by omega⟩,auq];rfl
 ·rw[if_neg (by omega),yc,agR 24 _ hk,aaG,awE (by omega)];rfl
theorem apv:av Tryz.prog 76 axd:=by
 refine vF Tryz.func76 ?_
 rintro (a:aB×List Bool) hpre
 refine cK (aaf) (a.1) (by exact (ai rfl (ai (ai rfl (fun _ _=>rfl)) (ai (ai rfl (fun _ _=>rfl)) (ai rfl (fun _ _=>rfl)))))) (hpre) ?_
 refine bN (bV a.1=0) (fun h1=>?_) fun h1=>?_
 ·have e:pF a.1 a.2=bV a.1:=by unfold pF;rw[if_pos h1]
  refine eF (.tup [mkP (qI a.1 a.2),iP (pF a.1 a.2)]) ?_
  rw[qI,e,if_neg h1]
  refine (ai (ai rfl ?_) rfl)
  exact ams
 refine bN (a.2.length=a.1.sts.length) (fun h2=>?_) fun h2=>?_
 ·have e:pF a.1 a.2=8:=by unfold pF;rw[if_neg (fun h=>h h1),if_pos h2]
  refine eF (.tup [mkP (qI a.1 a.2),iP (pF a.1 a.2)]) ?_
  rw[qI,e,if_neg (show ¬(8:Int)=0 by decide)]
  refine (ai (ai rfl ?_) rfl)
  exact ams
 have e:pF a.1 a.2=0:=by unfold pF;rw[if_neg (fun h=>h h1),if_neg (fun h=>h h2)]
 refine ai (ai (by decide) (ai (by decide) (by decide))) ?_
 refine ai (ai rfl (fun _ _=>rfl)) ?_
 refine eF (.tup [mkP (qI a.1 a.2),iP (pF a.1 a.2)]) ?_
 rw[qI,e,if_pos rfl]
 refine (ai (ai rfl ?_) rfl)
 exact atn (aac e).2.2
def mZ (c:aB) (a v:List Bool):Int:=if ¬pF c a=0 then pF c a else if ¬(v.length:Int)=lF c then 8 else 0
def awO:Spec:=bO (fun a:aB×List Bool×List Bool=>[iG a.1,qh a.2.1,qh a.2.2]) (fun a=>jr a.1) (fun a=>.tup [mkP (qI a.1 a.2.1),iP (mZ a.1 a.2.1 a.2.2)])
theorem iJ {c:aB} (h:bV c=0):oO c:=by
 obtain ⟨h1,h2,h3,h4,-⟩:=mG h
 have:=yT h2
 exact ⟨by omega,by omega,by omega,by omega⟩
theorem apY:av Tryz.prog 80 awO:=by
 refine vF Tryz.func80 ?_
 rintro (a:aB×List Bool×List Bool) hpre
 refine cK (apv) ((a.1,a.2.1)) (by exact (ai (ai rfl (ai (ai rfl (fun _ _=>rfl)) (ai (ai rfl (fun _ _=>rfl)) (ai rfl (fun _ _=>rfl))))) (ai rfl (fun _ _=>rfl)))) (hpre) ?_
 refine ah (p:=pF a.1 a.2.1=0) (sW (by dsimp only;omega)) (fun h1=>?_) (fun h1=>?_)
 ·refine cK (amf) (a.1) (by exact (ai rfl (ai (ai rfl (fun _ _=>rfl)) (ai (ai rfl (fun _ _=>rfl)) (ai rfl (fun _ _=>rfl)))))) (iJ (aac h1).1) ?_
  refine bN ((a.2.2.length:Int)=lF a.1) (fun h2=>?_) fun h2=>?_
  ·have e:mZ a.1 a.2.1 a.2.2=8:=by unfold mZ;rw[if_neg (fun h=>h h1),if_pos h2]
   refine eF (.tup [mkP (qI a.1 a.2.1),iP (mZ a.1 a.2.1 a.2.2)]) ?_
   rw[e]
   exact (ai (ai rfl (fun _ _=>rfl)) rfl)
  ·have e:mZ a.1 a.2.1 a.2.2=0:=by unfold mZ;rw[if_neg (fun h=>h h1),if_neg (fun h=>h h2)]
   refine eF (.tup [mkP (qI a.1 a.2.1),iP (mZ a.1 a.2.1 a.2.2)]) ?_
   rw[e]
   exact (ai (ai rfl (fun _ _=>rfl)) (iE (by simp only[zz,reduceCtorEq];omega)))
 ·have e:mZ a.1 a.2.1 a.2.2=pF a.1 a.2.1:=by unfold mZ;rw[if_pos h1]
  refine eF (.tup [mkP (qI a.1 a.2.1),iP (mZ a.1 a.2.1 a.2.2)]) ?_
  rw[e]
  exact (ai (ai rfl (fun _ _=>rfl)) rfl)
theorem abX {n:Nat} {f g:Nat→List PV}:∀k,k<0+n→aY 0 f g k=g k:=fun k hk=>by
 unfold aY;rw[if_neg (aeH _),auq]
def av6:Spec:=bC (fun l:List (Bool)=>[qh l]) (fun l=>l.length≤1000000) (fun l=>iR l)
theorem rQ:av Tryz.prog 61 av6:=by
 refine vF Tryz.func61 ?_
 rintro (l:List (Bool)) hpre
 have hl:l.length≤1000000:=hpre
 intro b hb
 refine iB (fun h1=>?_) (fun h1=>?_)
 ·have h1:l.length=0:=hb h1
  refine eN (iR l) ?_
  rw[axn.1 h1]
  exact rfl
 ·refine ai (mxL (n:=0+l.length) (by omega) (by decide)) (ai (fun _ _=>rfl) ?_)
  refine ai (ai (fun _ k hk=>by rw[abX k hk];rfl) ?_) trivial
  refine (ai ?_ (fun _ _=>rfl))
  exact ahv _
def avP:Spec:=bC (fun l:List (Int)=>[isA l]) (fun l=>l.length≤1000000) (fun l=>fT l)
theorem uz:av Tryz.prog 121 avP:=by
 refine vF Tryz.func121 ?_
 rintro (l:List (Int)) hpre
 have hl:l.length≤1000000:=hpre
 intro b hb
 refine iB (fun h1=>?_) (fun h1=>?_)
 ·have h1:l.length=0:=hb h1
  refine eN (fT l) ?_
  rw[axn.1 h1]
  exact rfl
 ·refine ai (mxL (n:=0+l.length) (by omega) (by decide)) (ai (fun _ _=>rfl) ?_)
  refine ai (ai (fun _ k hk=>by rw[abX k hk];rfl) ?_) trivial
  refine (ai ?_ (fun _ _=>rfl))
  exact ahv _
def awZ:Spec:=bC (fun a:aB×List Bool=>[iG a.1,mkA a.2]) (fun a=>a.1.sts.length≤24∧a.2.length=24) (fun a=>iR (a.2.take a.1.sts.length))
theorem asO:av Tryz.prog 83 awZ:=by
 refine vF Tryz.func83 ?_
 rintro (a:aB×List Bool) hpre
 obtain ⟨h1,h2⟩:=hpre
 have h1:a.1.sts.length≤24:=h1
 have h2:a.2.length=24:=h2
 refine ai (ai (by decide) (ai (abw _) (by show (a.1.sts.length:Int)≤24;omega))) ?_
 have htl:(a.2.take a.1.sts.length).length=a.1.sts.length:=by rw[al5];omega
 refine ei _ (ai (rQ) (ei (a.2.take a.1.sts.length) (ei [] (ai (ai rfl (ai rfl (ai rfl (ai rfl (ai (fun _=>Or.inl rfl) (ai (fun _=>ai rfl rfl) (Or.inl rfl))))))) (ai ?_ (ai (by exact trivial) (ai ((by show (a.2.take a.1.sts.length).length≤1000000;omega)) ?_)))))))
 ·refine (ai rfl (ai ?_ ?_))
  ·show ((a.1.sts.length:Int)).toNat-(0:Int).toNat=(a.2.take a.1.sts.length).length
   rw[htl];simp
  ·intro k hk
   have hk:k<((a.1.sts.length:Int)).toNat-(0:Int).toNat:=hk
   have hk:k<a.1.sts.length:=by simpa using hk
   show [bP (a.2.getD ((0:Int).toNat+k) false)]=[bP ((a.2.take a.1.sts.length).getD k false)]
   rw[show (0:Int).toNat+k=k by simp,aaG,aaG,ar8,if_pos hk]
 refine eN _ ?_
 exact (ai rfl (fun _ _=>rfl))
def isR (l:List Int):LV:=.rw 3 1 l.length (fun k=>[iP (l.getD k 0)])
theorem asn {a b:List Int} {n:Nat} {f g:Nat→List PV} (hn:n=a.length) (hf:∀k,k<a.length→f k=[iP (a.getD k 0)]) (hg:∀k,k<b.length→g k=[iP (b.getD k 0)]):∀k,k<(a++b).length→aY n f g k=[iP ((a++b).getD k 0)]:=by
 intro k hk
 subst hn
 unfold aY
 by_cases h:k<a.length
 ·rw[if_pos h,hf k h,aaG,aaG,aoj h]
 ·have hb:k-a.length<b.length:=by rw[aaJ] at hk;omega
  rw[if_neg h,hg _ hb,aaG,aaG,ahS (by omega)]
theorem dS (a:List Int) (x:Int):∀k,k<a.length+1→aY a.length (fun k=>[iP (a.getD k 0)]) (aT 1 [iP x]) k=[iP ((a++[x]).getD k 0)]:=fun k hk=>
 asn (a:=a) (b:=[x]) rfl (fun _ _=>rfl) (fun j hj=>by
  have hj:j<1:=hj
  obtain rfl:j=0:=by omega
  rfl) k (by rw[aaJ];exact hk)
def pE (c:aB) (m vs:List Bool) (i:Nat):Bool:=allM m (c.trs.getD i bf).fr&&gK vs (c.trs.getD i bf).wh
def ko (p:Nat→Bool):Nat→List Int
 | 0=>[]
 | n+1=>if p n then ko p n++[(n:Int)] else ko p n
theorem afc (p:Nat→Bool):∀n,(ko p n).length≤n
 | 0=>acM _
 | n+1=>by
  have:=afc p n
  rw[ko];split
  ·rw[aaJ];simp;omega
  ·omega
def aw5:Spec:=bO (fun a:aB×List Bool×List Bool=>[iG a.1,mkA a.2.1,qh a.2.2]) (fun a=>bV a.1=0∧jr a.1∧(a.2.2.length:Int)=lF a.1) (fun a=>.tup [fT (ko (pE a.1 a.2.1 a.2.2) a.1.trs.length),iP 0])
theorem alJ {n:Nat} {l:List Int} (h:jM n l=0) (hn:n≤24):oU 24 l∧oU n l∧0<l.length:=by
 unfold jM at h
 split at h
 ·cases h
 ·rename_i h0
  have h1:=qj h
  have:oU n l:=by
   intro k hk
   obtain ⟨i,hi,rfl⟩:=arM hk
   have h2:=h1 i hi
   unfold qN at h2
   have hg:l.getD i 0=l[i]:=by rw[aaG,aaX hi];rfl
   rw[hg] at h2
   split at h2
   ·cases h2
   ·omega
  exact ⟨fun k hk=>by have:=this k hk;omega,this,by omega⟩
theorem atq {c:aB} {t:sF} (h:kP c t=0) (hn:c.sts.length≤24):(oU 24 t.fr∧oU c.sts.length t.fr)∧(oU 24 t.to∧oU c.sts.length t.to)∧bg t.wh (lF c)=0:=by
 unfold kP at h
 split at h
 ·rename_i h1;exact absurd h h1
 rename_i h1
 split at h
 ·rename_i h2;exact absurd h h2
 rename_i h2
 have g1:=alJ (alF.1 h1) hn
 have g2:=alJ (alF.1 h2) hn
 exact ⟨⟨g1.1,g1.2.1⟩,⟨g2.1,g2.2.1⟩,h⟩
theorem tC {c:aB} (h:bV c=0) {i:Nat} (hi:i<c.trs.length):(oU 24 (c.trs.getD i bf).fr∧oU c.sts.length (c.trs.getD i bf).fr)∧(oU 24 (c.trs.getD i bf).to∧oU c.sts.length (c.trs.getD i bf).to)∧bg (c.trs.getD i bf).wh (lF c)=0:=by
 obtain ⟨_,_,h3,_,_,h6⟩:=mG h
 exact atq (h6 i hi) h3.2
theorem nG {c:aB} (h:jr c) {i:Nat} (hi:i<c.trs.length):amL (c.trs.getD i bf):=h.2 _ (abu (bD bf hi))
theorem enabled_ok:av Tryz.prog 81 aw5:=by
 refine vF Tryz.func81 ?_
 rintro (a:aB×List Bool×List Bool) hpre
 obtain ⟨hc,ho,hv⟩:=hpre
 have hc:bV a.1=0:=hc
 have ho:jr a.1:=ho
 have hv:(a.2.2.length:Int)=lF a.1:=hv
 have h32:=(mG hc).2.2.2.1
 refine fR (a.1.trs.length) (fun k=>[(16,.s (iA k)),(8,isR (ko (pE a.1 a.2.1 a.2.2) k))]) (fun k=>[]) (fun k=>True) (by exact (ai (ai (ai (fun _=>rfl) (iE (by omega))) rfl) rfl)) (by exact trivial) ?_ ?_
 ·trivial
 intro (k:Nat) ⟨hk,_⟩
 have hfl:=afc (pE a.1 a.2.1 a.2.2) k
 refine bL (k<a.1.trs.length) (fun h1=>?_) fun h1=>?_
 ·refine iX (k) (a.1.trs.length) ?_
  obtain ⟨g1,g2,g3⟩:=tC hc h1
  have hto:=nG ho h1
  have hP:pE a.1 a.2.1 a.2.2 k=(allM a.2.1 (a.1.trs.getD k bf).fr&&gK a.2.2 (a.1.trs.getD k bf).wh):=rfl
  refine cK (apg) ((a.2.1,(a.1.trs.getD k bf).fr)) (by exact (ai (ai rfl (fun _ _=>rfl)) (ai rfl (fun _ _=>rfl)))) (⟨g1.1,hto.1⟩) ?_
  refine aC (b:=!allM a.2.1 (a.1.trs.getD k bf).fr) rfl (fun h2=>?_) (fun h2=>?_)
  ·have h2:allM a.2.1 (a.1.trs.getD k bf).fr=false:=by simpa using h2
   have e:ko (pE a.1 a.2.1 a.2.2) (k+1)=ko (pE a.1 a.2.1 a.2.2) k:=by rw[ko,if_neg (by rw[hP,h2,apT];decide)]
   refine nX (k) (ai (ai (ai (fun _=>rfl) (aG (by omega))) rfl) (ai rfl (ai rfl (ai ?_ ?_)))) trivial trivial
   ·rw[e]
   ·rw[e];exact fun _ _=>rfl
  have h2:allM a.2.1 (a.1.trs.getD k bf).fr=true:=by simpa using h2
  have hev:eO (a.1.trs.getD k bf).wh a.2.2=(gK a.2.2 (a.1.trs.getD k bf).wh,0):=by unfold eO;rw[hv,if_pos g3]
  refine cK ((vk wH ((a.1.trs.getD k bf).wh,a.2.2) hto.2.2 (by show PV.tup [bP (eO (a.1.trs.getD k bf).wh a.2.2).1,iP (eO (a.1.trs.getD k bf).wh a.2.2).2]=_;rw[hev]))) (()) (by exact (ai (ai (iE (by simp only[zz,reduceCtorEq])) (ai (iE (by simp only[zz,reduceCtorEq])) (ai rfl (fun _ _=>rfl)))) (ai rfl (fun _ _=>rfl)))) (trivial) ?_
  refine aC (b:=gK a.2.2 (a.1.trs.getD k bf).wh) rfl (fun h3=>?_) (fun h3=>?_)
  ·have e:ko (pE a.1 a.2.1 a.2.2) (k+1)=ko (pE a.1 a.2.1 a.2.2) k++[(k:Int)]:=by rw[ko,if_pos (by rw[hP,h2,h3];rfl)]
   refine ai (mxL (n:=(ko (pE a.1 a.2.1 a.2.2) k).length+1) (by omega) (by decide)) (ai (dW 1 rfl) ?_)
   refine nX (k) (ai (ai (ai (fun _=>rfl) (aG (by omega))) rfl) (ai rfl (ai rfl (ai ?_ ?_)))) trivial trivial
   ·rw[e,aaJ];rfl
   ·rw[e];exact dS _ _
  ·have e:ko (pE a.1 a.2.1 a.2.2) (k+1)=ko (pE a.1 a.2.1 a.2.2) k:=by rw[ko,if_neg (by rw[hP,h3,aue];decide)]
   refine nX (k) (ai (ai (ai (fun _=>rfl) (aG (by omega))) rfl) (ai rfl (ai rfl (ai ?_ ?_)))) trivial trivial
   ·rw[e]
   ·rw[e];exact fun _ _=>rfl
 ·obtain rfl:k=a.1.trs.length:=by omega
  refine ai (ai (fun _=>(by exact (ai (fun _ _=>rfl) trivial))) ?_) trivial
  exact (ai (ai rfl (fun _ _=>rfl)) rfl)
theorem alI {c:aB} {a v:List Bool} (h:mZ c a v=0):pF c a=0∧(v.length:Int)=lF c:=by
 unfold mZ at h
 split at h
 ·rename_i h1;exact absurd h h1
 ·rename_i h1
  split at h
  ·cases h
  ·rename_i h2;exact ⟨alF.1 h1,alF.1 h2⟩
theorem arf (a:List Bool) (k:Int):kQ (rG a) k=kQ a k:=ae4 a k.toNat
theorem ajN (a:List Bool) (l:List Int):allM (rG a) l=allM a l:=by
 unfold allM;rw[show kQ (rG a)=kQ a from funext (arf a)]
theorem atU (c:aB) (a v:List Bool):pE c (rG a) v=pE c a v:=by
 funext i;unfold pE;rw[ajN]
def eB (m:List Bool) (l:List Int) (b:Bool):List Bool:=l.foldl (fun m k=>m.set k.toNat b) m
theorem mh (b:Bool):∀(l:List Int) (m:List Bool),(eB m l b).length=m.length
 | [],_=>rfl
 | k :: l,m=>by
  show (eB (m.set k.toNat b) l b).length=_
  rw[mh b l,apr]
theorem abP (m:List Bool) (l:List Int) (k:Int) (b:Bool):eB m (l++[k]) b=(eB m l b).set k.toNat b:=by unfold eB;rw[awy];rfl
theorem amo {m:List Bool} (hm:m.length=24) {j:Nat} (hj:j<24) (b:Bool) (k:Nat):vS (mD m) j (bP b) k=mD (m.set j b) k:=by
 unfold vS mD
 rw[aaG,aaG,axD]
 by_cases h:k=j
 ·rw[if_pos h,if_pos h.symm,if_pos (by omega)];rfl
 ·rw[if_neg h,if_neg (fun e=>h e.symm)]
def mkO (m:List Bool):Ob:=.arr 132 24 (mD m)
def gX (l:List Int) (k:Int):Bool:=l.any fun y=>k==y
def nS (c:aB) (s:List Bool×List Int) (i:Int):List Bool×List Int:=if allM s.1 (c.trs.getD i.toNat bf).fr then (eB s.1 (c.trs.getD i.toNat bf).fr false,s.2++[i]) else s
def jJ (c:aB) (m:List Bool) (l:List Int):List Bool×List Int:=l.foldl (nS c) (m,[])
theorem anh (c:aB) (m:List Bool) (l:List Int) (i:Int):jJ c m (l++[i])=nS c (jJ c m l) i:=by unfold jJ;rw[awy];rfl
theorem apd (c:aB) (s:List Bool×List Int) (i:Int):(nS c s i).1.length=s.1.length∧(nS c s i).2.length≤s.2.length+1:=by
 unfold nS
 split
 ·exact ⟨mh _ _ _,by simp⟩
 ·exact ⟨rfl,by omega⟩
theorem aks (c:aB):∀(l:List Int) (s:List Bool×List Int),(l.foldl (nS c) s).1.length=s.1.length∧(l.foldl (nS c) s).2.length≤s.2.length+l.length
 | [],s=>⟨rfl,by simp⟩
 | i :: l,s=>by
  have h1:=apd c s i
  have h2:=aks c l (nS c s i)
  exact ⟨h2.1.trans h1.1,by rw[awz,arJ];omega⟩
theorem ajw (c:aB):∀(l:List Int) (s:List Bool×List Int) (x:Int),x∈(l.foldl (nS c) s).2→x∈s.2∨x∈l
 | [],s,x,h=>.inl h
 | i :: l,s,x,h=>by
  rcases ajw c l (nS c s i) x h with h | h
  ·unfold nS at h
   split at h
   ·rcases acT.1 h with h | h
    ·exact .inl h
    ·exact .inr (by simp at h;simp[h])
   ·exact .inl h
  ·exact .inr (asb _ h)
theorem ab4 {p:Nat→Bool}:∀{n:Nat} {x:Int},x∈ko p n→∃i:Nat,i<n∧x=i∧p i=true
 | 0,x,h=>by simp[ko] at h
 | n+1,x,h=>by
  rw[ko] at h
  split at h
  ·rename_i hp
   rcases acT.1 h with h | h
   ·obtain ⟨i,h1,h2,h3⟩:=ab4 h;exact ⟨i,by omega,h2,h3⟩
   ·simp at h;exact ⟨n,by omega,h,hp⟩
  ·obtain ⟨i,h1,h2,h3⟩:=ab4 h;exact ⟨i,by omega,h2,h3⟩
def kS (c:aB) (m:List Bool) (l:List Int):List Bool:=l.foldl (fun m i=>eB m (c.trs.getD i.toNat bf).to true) m
theorem amD (c:aB) (m:List Bool) (l:List Int) (i:Int):kS c m (l++[i])=eB (kS c m l) (c.trs.getD i.toNat bf).to true:=by unfold kS;rw[awy];rfl
theorem aaC (c:aB):∀(l:List Int) (m:List Bool),(kS c m l).length=m.length
 | [],_=>rfl
 | i :: l,m=>by
  show (kS c (eB m (c.trs.getD i.toNat bf).to true) l).length=_
  rw[aaC c l,mh]
def uV (c:aB) (a v:List Bool):List Bool×List Int:=jJ c (rG a) (ko (pE c a v) c.trs.length)
def yV (c:aB) (a v:List Bool):PV:=if mZ c a v=0 then .tup [iR ((kS c (uV c a v).1 (uV c a v).2).take c.sts.length),fT (uV c a v).2,iP 0] else .tup [iR [],fT [],iP (mZ c a v)]
def awo:Spec:=bO (fun a:aB×List Bool×List Bool=>[iG a.1,qh a.2.1,qh a.2.2]) (fun a=>jr a.1) (fun a=>yV a.1 a.2.1 a.2.2)
theorem att:av Tryz.prog 42 awo:=by
 refine vF Tryz.func42 ?_
 rintro ⟨c,a,v⟩ hpre
 have ho:jr c:=hpre
 refine cK ((nD apY (c,a,v) ho (r:=.tup [mkP (qI c a),iP (mZ c a v)]) rfl)) (()) (by exact (ai (ai rfl (ai (ai rfl (fun _ _=>rfl)) (ai (ai rfl (fun _ _=>rfl)) (ai rfl (fun _ _=>rfl))))) (ai (ai rfl (fun _ _=>rfl)) (ai rfl (fun _ _=>rfl))))) (trivial) ?_
 refine bN (mZ c a v=0) (fun h1=>?_) fun h1=>?_
 ·refine eF (yV c a v) ?_
  rw[yV,if_neg h1]
  exact (ai rfl (ai rfl rfl))
 have hA:yV c a v=.tup [iR ((kS c (uV c a v).1 (uV c a v).2).take c.sts.length),fT (uV c a v).2,iP 0]:=by unfold yV;rw[if_pos h1]
 obtain ⟨g1,g2⟩:=alI h1
 have hc:=(aac g1).1
 have ha24:=(aac g1).2.2
 have e1:qI c a=rG a:=if_pos g1
 refine cK ((nD enabled_ok (c,qI c a,v) ⟨hc,ho,g2⟩ (r:=.tup [fT (ko (pE c a v) c.trs.length),iP 0]) (by show PV.tup [fT (ko (pE c (qI c a) v) c.trs.length),iP 0]=_;rw[e1,atU]))) (()) (by exact (ai (ai rfl (ai (ai rfl (fun _ _=>rfl)) (ai (ai rfl (fun _ _=>rfl)) (ai rfl (fun _ _=>rfl))))) (ai (ai rfl (fun _ _=>rfl)) (ai rfl (fun _ _=>rfl))))) (trivial) ?_
 have h32:=(mG hc).2.2.2.1
 have h24:=(mG hc).2.2.1.2
 have hlm:∀x∈ko (pE c a v) c.trs.length,0≤x∧x<(c.trs.length:Int):=fun x hx=>by
  obtain ⟨i,h1,h2,_⟩:=ab4 hx;omega
 have hll:=afc (pE c a v) c.trs.length
 have hS:uV c a v=jJ c (qI c a) (ko (pE c a v) c.trs.length):=by rw[e1];rfl
 rw[hS] at hA
 have hm:(qI c a).length=24:=by rw[e1];exact aqi ha24
 clear hS e1
 generalize ko (pE c a v) c.trs.length=l at hA hlm hll ⊢
 generalize qI c a=m at hA hm ⊢
 have hsl:∀k,(jJ c m (l.take k)).1.length=24∧(jJ c m (l.take k)).2.length≤32:=fun k=>by
  have h:=aks c (l.take k) (m,[])
  refine ⟨h.1.trans hm,?_⟩
  have h2:(jJ c m (l.take k)).2.length≤0+(l.take k).length:=h.2
  rw[al5] at h2;omega
 refine fR (l.length) (fun k=>[(46,.s (iA k)),(13,isR (jJ c m (l.take k)).2)]) (fun k=>[⟨2,132,[.ob (mkO (jJ c m (l.take k)).1)]⟩]) (fun k=>True) ?_ ?_ ?_ ?_
 ·exact (ai (ai (ai (fun _=>rfl) (iE (by omega))) rfl) rfl)
 ·exact (ai (ai rfl (ai rfl (fun _ _=>rfl))) trivial)
 ·trivial
 intro (k:Nat) ⟨hk,_⟩
 obtain ⟨s1,s2⟩:=hsl k
 refine bL (k<l.length) (fun h2=>?_) fun h2=>?_
 ·refine iX (k) (l.length) ?_
  have hx0:=hlm _ (abu (bD 0 h2))
  have hi:(l.getD k 0).toNat<c.trs.length:=by omega
  obtain ⟨q1,q2,q3⟩:=tC hc hi
  have hto:=nG ho hi
  have hst:jJ c m (l.take (k+1))=nS c (jJ c m (l.take k)) (l.getD k 0):=by rw[aR 0 h2,anh]
  refine ai hx0 ?_
  refine ai rfl ?_
  refine cK (apg) (((jJ c m (l.take k)).1,(c.trs.getD (l.getD k 0).toNat bf).fr)) (by exact (ai (ai rfl (fun _ _=>rfl)) (ai rfl (fun _ _=>rfl)))) (⟨q1.1,hto.1⟩) ?_
  have hf:(c.trs.getD (l.getD k 0).toNat bf).fr.length≤1000000:=hto.1
  refine aC (b:=allM (jJ c m (l.take k)).1 (c.trs.getD (l.getD k 0).toNat bf).fr) rfl (fun h4=>?_) (fun h4=>?_)
  ·have e:jJ c m (l.take (k+1))=(eB (jJ c m (l.take k)).1 (c.trs.getD (l.getD k 0).toNat bf).fr false,(jJ c m (l.take k)).2++[l.getD k 0]):=by rw[hst];unfold nS;rw[h4];rfl
   refine ai (mxL (n:=(jJ c m (l.take k)).2.length+1) (by omega) (by decide)) (ai (dW 1 rfl) ?_)
   refine fR ((c.trs.getD (l.getD k 0).toNat bf).fr.length) (fun j=>[(66,.s (iA j))]) (fun j=>[⟨2,132,[.ob (mkO (eB (jJ c m (l.take k)).1 ((c.trs.getD (l.getD k 0).toNat bf).fr.take j) false))]⟩]) (fun j=>True) ?_ ?_ ?_ ?_
   ·exact (ai (ai (fun _=>rfl) (iE (by omega))) rfl)
   ·exact (ai (ai rfl (ai rfl (fun _ _=>rfl))) trivial)
    skip
   ·trivial
   intro (j:Nat) ⟨hk1,_⟩
   refine ah (p:=j<(c.trs.getD (l.getD k 0).toNat bf).fr.length) (by simp only[zz,reduceCtorEq];omega) (fun h3=>?_) (fun h3=>?_)
   ·refine iX (j) ((c.trs.getD (l.getD k 0).toNat bf).fr.length) ?_
    have hx:=yY q1.1 h3
    have hx24:((c.trs.getD (l.getD k 0).toNat bf).fr.getD j 0).toNat<24:=by omega
    refine ai hx ?_
    refine ai (by show 0+((c.trs.getD (l.getD k 0).toNat bf).fr.getD j 0).toNat*1<24;omega) ?_
    refine nX (j) (ai (ai (fun _=>rfl) (aG (by omega))) rfl) (ai (ai rfl (ai rfl ?_)) trivial) trivial
    intro q hq
    show vS (mD (eB (jJ c m (l.take k)).1 ((c.trs.getD (l.getD k 0).toNat bf).fr.take j) false)) (0+((c.trs.getD (l.getD k 0).toNat bf).fr.getD j 0).toNat*1) (bP false) q=mD (eB (jJ c m (l.take k)).1 ((c.trs.getD (l.getD k 0).toNat bf).fr.take (j+1)) false) q
    rw[ahv,auZ,amo (by rw[mh];exact s1) hx24,aR 0 h3,abP]
   ·obtain rfl:j=(c.trs.getD (l.getD k 0).toNat bf).fr.length:=by omega
    rw[acS]
    refine nX (k) (ai (ai (ai (fun _=>rfl) (aG (by omega))) rfl) (ai rfl (ai rfl (ai ?_ ?_)))) (ai (ai rfl (ai rfl ?_)) trivial) trivial
    ·rw[e,aaJ];rfl
    ·rw[e];exact dS _ _
    ·rw[e];exact fun _ _=>rfl
  ·have e:jJ c m (l.take (k+1))=jJ c m (l.take k):=by rw[hst];unfold nS;rw[h4];rfl
   refine nX (k) (ai (ai (ai (fun _=>rfl) (aG (by omega))) rfl) (ai rfl (ai rfl (ai ?_ ?_)))) (ai (ai rfl (ai rfl ?_)) trivial) trivial
   ·rw[e]
   ·rw[e];exact fun _ _=>rfl
   ·rw[e];exact fun _ _=>rfl
 ·obtain rfl:k=l.length:=by omega
  rw[acS] at s1 s2
  rw[acS]
  have hfm:∀x∈(jJ c m l).2,0≤x∧x<(c.trs.length:Int):=fun x hx=>by
   rcases ajw c l (m,[]) x hx with h | h
   ·simp at h
   ·exact hlm x h
  generalize jJ c m l=s at *
  refine fR (s.2.length) (fun j=>[(76,.s (iA j))]) (fun j=>[⟨2,132,[.ob (mkO (kS c s.1 (s.2.take j)))]⟩]) (fun j=>True) ?_ ?_ ?_ ?_
  ·exact (ai (ai (fun _=>rfl) (iE (by omega))) rfl)
  ·exact (ai (ai rfl (ai rfl (fun _ _=>rfl))) trivial)
  ·trivial
  intro (j:Nat) ⟨hj,_⟩
  have s3:(kS c s.1 (s.2.take j)).length=24:=(aaC _ _ _).trans s1
  refine bL (j<s.2.length) (fun h2=>?_) fun h2=>?_
  ·refine ai (ai (abw _) (by show (j:Int)<(s.2.length:Int);omega)) ?_
   refine ai (by show j<s.2.length;exact h2) ?_
   have hx0:=hfm _ (abu (bD 0 h2))
   have hi:(s.2.getD j 0).toNat<c.trs.length:=by omega
   obtain ⟨q1,q2,q3⟩:=tC hc hi
   have hto:=nG ho hi
   have hst:kS c s.1 (s.2.take (j+1))=eB (kS c s.1 (s.2.take j)) (c.trs.getD (s.2.getD j 0).toNat bf).to true:=by rw[aR 0 h2,amD]
   refine ai hx0 ?_
   refine ai rfl ?_
   have hf:(c.trs.getD (s.2.getD j 0).toNat bf).to.length≤1000000:=hto.2.1
   refine fR ((c.trs.getD (s.2.getD j 0).toNat bf).to.length) (fun i=>[(87,.s (iA i))]) (fun i=>[⟨2,132,[.ob (mkO (eB (kS c s.1 (s.2.take j)) ((c.trs.getD (s.2.getD j 0).toNat bf).to.take i) true))]⟩]) (fun i=>True) ?_ ?_ ?_ ?_
   ·exact (ai (ai (fun _=>rfl) (iE (by omega))) rfl)
   ·exact (ai (ai rfl (ai rfl (fun _ _=>rfl))) trivial)
    skip
   ·trivial
   intro (i:Nat) ⟨hk1,_⟩
   refine ah (p:=i<(c.trs.getD (s.2.getD j 0).toNat bf).to.length) (by simp only[zz,reduceCtorEq];omega) (fun h3=>?_) (fun h3=>?_)
   ·refine iX (i) ((c.trs.getD (s.2.getD j 0).toNat bf).to.length) ?_
    have hx:=yY q2.1 h3
    have hx24:((c.trs.getD (s.2.getD j 0).toNat bf).to.getD i 0).toNat<24:=by omega
    refine ai hx ?_
    refine ai (by show 0+((c.trs.getD (s.2.getD j 0).toNat bf).to.getD i 0).toNat*1<24;omega) ?_
    refine nX (i) (ai (ai (fun _=>rfl) (aG (by omega))) rfl) (ai (ai rfl (ai rfl ?_)) trivial) trivial
    intro q hq
    show vS (mD (eB (kS c s.1 (s.2.take j)) ((c.trs.getD (s.2.getD j 0).toNat bf).to.take i) true)) (0+((c.trs.getD (s.2.getD j 0).toNat bf).to.getD i 0).toNat*1) (bP true) q=mD (eB (kS c s.1 (s.2.take j)) ((c.trs.getD (s.2.getD j 0).toNat bf).to.take (i+1)) true) q
    rw[ahv,auZ,amo (by rw[mh];exact s3) hx24,aR 0 h3,abP]
   ·obtain rfl:i=(c.trs.getD (s.2.getD j 0).toNat bf).to.length:=by omega
    rw[acS]
    refine nX (j) (ai (ai (fun _=>rfl) (aG (by omega))) rfl) (ai (ai rfl (ai rfl ?_)) trivial) trivial
    rw[hst];exact fun _ _=>rfl
  ·obtain rfl:j=s.2.length:=by omega
   rw[acS] at s3
   rw[acS]
   refine cK (asO) ((c,kS c s.1 s.2)) (by exact (ai (ai rfl (ai (ai rfl (fun _ _=>rfl)) (ai (ai rfl (fun _ _=>rfl)) (ai rfl (fun _ _=>rfl))))) (ai rfl (fun _ _=>rfl)))) (⟨h24,s3⟩) ?_
   refine eF (yV c a v) ?_
   rw[hA]
   exact (ai (ai rfl (fun _ _=>rfl)) (ai (ai rfl (fun _ _=>rfl)) rfl))
theorem amC {α:Type} {l m:List α} {k:Nat} (d:α) (h1:k<l.length) (h2:k<m.length) (h:l.take k=m.take k) (e:l.getD k d=m.getD k d):l.take (k+1)=m.take (k+1):=by
 rw[aR d h1,aR d h2,h,e]
def apK:Spec:=bC (fun a:List (Bool)×List (Bool)=>[qh a.1,qh a.2]) (fun a=>a.1.length≤1000000) (fun a=>bP (decide (a.1=a.2)))
theorem aq0:av Tryz.prog 66 apK:=by
 refine vF Tryz.func66 ?_
 rintro (a:List (Bool)×List (Bool)) hpre
 have hl:a.1.length≤1000000:=hpre
 refine bN (a.1.length=a.2.length) (fun h1=>?_) fun h1=>?_
 ·refine eN (bP (decide (a.1=a.2))) ?_
  rw[decide_eq_false (fun h=>h1 (congrArg List.length h))]
  exact rfl
 refine fR (a.1.length) (fun k=>[(5,.s (iA k))]) (fun k=>[]) (fun k=>a.1.take k=a.2.take k) (by exact (ai (ai (fun _=>rfl) (iE (by omega))) rfl)) (by exact trivial) ?_ ?_
 ·rfl
 intro (k:Nat) ⟨hk,hall⟩
 refine bL (k<a.1.length) (fun h4=>?_) fun h4=>?_
 ·refine dR (.seq [0,1,2,3,4,5,6,7,8]) ?_
  refine iX (k) (a.1.length) ?_
  refine iX (k) (a.2.length) ?_
  refine aW (p:=a.1.getD k false=a.2.getD k false) (by exact bne_iff_ne) (fun h5=>?_) (fun h5=>?_)
  ·refine eN (bP (decide (a.1=a.2))) ?_
   rw[decide_eq_false (fun h=>h5 (by rw[h]))]
   exact rfl
  refine nX (k) (ai (ai (fun _=>rfl) (aG (by omega))) rfl) trivial ?_
  exact amC false h4 (by omega) hall h5
 ·obtain rfl:k=a.1.length:=by omega
  rw[acS,h1,acS] at hall
  refine eN (bP (decide (a.1=a.2))) ?_
  rw[decide_eq_true hall]
  exact rfl
theorem aj0:av Tryz.prog 28 apK:=by
 refine vF Tryz.func28 ?_
 rintro (a:List Bool×List Bool) hpre
 refine cK (aq0) (a) (by exact (ai (ai rfl (fun _ _=>rfl)) (ai rfl (fun _ _=>rfl)))) (hpre) ?_
 refine eN _ ?_
 exact rfl
theorem aeU:av Tryz.prog 161 (bC (fun a:List Int×Int=>[isA a.1,iA a.2]) (fun a=>a.1.length≤1000000) (fun a=>bP (gX a.1 a.2))):=by
 refine vF Tryz.func161 ?_
 rintro (a:List Int×Int) hpre
 have hl:a.1.length≤1000000:=hpre
 refine fR (a.1.length) (fun k=>[(5,.s (iA k))]) (fun k=>[]) (fun k=>∀y∈a.1.take k,(a.2==y)=false) (by exact (ai (ai (fun _=>rfl) (iE (by omega))) rfl)) (by exact trivial) ?_ ?_
 ·exact fun y hy=>absurd hy (by simp)
 intro (k:Nat) ⟨hk,hall⟩
 refine bL (k<a.1.length) (fun h1=>?_) fun h1=>?_
 ·refine iX (k) (a.1.length) ?_
  refine ah (p:=a.1.getD k 0=a.2) (by simp only[zz,reduceCtorEq]) (fun h2=>?_) (fun h2=>?_)
  ·refine eN (bP (gX a.1 a.2)) ?_
   rw[show gX a.1 a.2=true from af8 (d:=0) h1 (by rw[h2];exact beq_self_eq_true _)]
   exact rfl
  refine nX (k) (ai (ai (fun _=>rfl) (aG (by omega))) rfl) trivial ?_
  intro y hy
  rw[aR 0 h1] at hy
  rcases acT.1 hy with hy | hy
  ·exact hall y hy
  ·simp only[aes] at hy;subst hy;exact beq_eq_false_iff_ne.2 fun e=>h2 e.symm
 ·obtain rfl:k=a.1.length:=by omega
  rw[acS] at hall
  refine eN (bP (gX a.1 a.2)) ?_
  rw[show gX a.1 a.2=false from atY.2 (fun y hy=>by rw[hall y hy];decide)]
  exact rfl
def oz (a b:List Int):Bool:=a.any fun k=>gX b k
theorem adU:av Tryz.prog 176 (bC (fun c:bI=>[sH c]) lu (fun c=>iP (bW c))):=by
 refine vF Tryz.func176 ?_
 rintro (c:bI) hpre
 obtain ⟨⟨h1,h2⟩,h3,h4⟩:=hpre
 have h1:0≤c.act:=h1
 have h2:c.act≤1000:=h2
 have h3:c.ins.length≤1000000:=h3
 refine ai (ai (fun _=>trivial) ?_) trivial
 show IntKind.i64.wrap (IntKind.i64.wrap (2*c.act)+(c.ins.length:Int))=bW c
 rw[dF (n:=2*c.act) (by omega) (by omega),dF (by omega) (by omega)];rfl
theorem ad4:av Tryz.prog 104 (bC (fun c:bI=>[sH c]) lu (fun c=>iP (dG c))):=by
 refine vF Tryz.func104 ?_
 rintro (c:bI) hpre
 obtain ⟨⟨h1,h2⟩,h3,h4⟩:=hpre
 have h1:0≤c.act:=h1
 have h2:c.act≤1000:=h2
 have h3:c.ins.length≤1000000:=h3
 have h4:c.sgs.length≤1000000:=h4
 refine ai (ai (fun _=>trivial) ?_) trivial
 show IntKind.i64.wrap (IntKind.i64.wrap (IntKind.i64.wrap (2*c.act)+(c.ins.length:Int))+(c.sgs.length:Int))=dG c
 rw[dF (n:=2*c.act) (by omega) (by omega),dF (n:=2*c.act+(c.ins.length:Int)) (by omega) (by omega),dF (by omega) (by omega)];rfl
theorem rA:av Tryz.prog 178 (bC (fun x:Ex=>[jK x]) (fun _=>True) (fun x=>bP (bM x))):=by
 refine vF Tryz.func178 ?_
 rintro (x:Ex) hpre
 refine aC (b:=x.op==0) rfl (fun h1=>?_) (fun h1=>?_)
 ·refine aC (b:=x.idx==0) rfl (fun h2=>?_) (fun h2=>?_)
  ·refine eN (bP (bM x)) ?_
   rw[show bM x=(((x.args.length:Nat):Int)==0) by unfold bM;rw[h1,h2];cases x.args<;>rfl]
   exact rfl
  ·refine eN (bP (bM x)) ?_
   rw[show bM x=false by unfold bM;rw[h2];simp]
   exact rfl
 ·refine eN (bP (bM x)) ?_
  rw[show bM x=false by unfold bM;rw[h1];simp]
  exact rfl
def six:List UInt8:=[97,98,99,100,101,102]
theorem abo {d:Nat} (h:d<6):(six.take (d+1)).drop d=[UInt8.ofNat (97+d)]:=by
 match d,h with
 | 0,_=>rfl | 1,_=>rfl | 2,_=>rfl | 3,_=>rfl | 4,_=>rfl | 5,_=>rfl
theorem avF {d:Nat} (h:d<2):([48,49].take (d+1)).drop d=[UInt8.ofNat (48+d)]:=by
 match d,h with
 | 0,_=>rfl | 1,_=>rfl
def aje (a:bI×Nat):Prop:=lu a.1∧a.1.act≤6∧(a.2:Int)<dG a.1
theorem ahJ:av Tryz.prog 174 (bC (fun a:bI×Nat=>[sH a.1,iA a.2]) aje (fun a=>sP (eH a.1 a.2))):=by
 refine vF Tryz.func174 ?_
 rintro ⟨c,n⟩ hpre
 obtain ⟨hs,h6,hn⟩:=hpre
 have hs0:=hs
 obtain ⟨⟨h1,h2⟩,h3,h4⟩:=hs
 have h1:0≤c.act:=h1
 have h6:c.act≤6:=h6
 have h3:c.ins.length≤1000000:=h3
 have h4:c.sgs.length≤1000000:=h4
 have hn:(n:Int)<2*c.act+c.ins.length+c.sgs.length:=hn
 refine ah (p:=(n:Int)<2*c.act) (by exact aA (by rw[dF (n:=2*c.act) (by omega) (by omega)])) (fun g1=>?_) (fun g1=>?_)
 ·have hq:IntKind.i64.wrap ((n:Int).tdiv 2)=((n / 2:Nat):Int):=by rw[show ((n:Int).tdiv 2)=((n / 2:Nat):Int) from rfl];exact yS (by omega)
  have hq1:IntKind.i64.wrap (IntKind.i64.wrap ((n:Int).tdiv 2)+1)=((n / 2+1:Nat):Int):=by rw[hq];exact aG (by omega)
  have hr:((n:Int).tmod 2)=((n % 2:Nat):Int):=rfl
  have hr1:IntKind.i64.wrap ((n:Int).tmod 2+1)=((n % 2+1:Nat):Int):=by rw[hr];exact aG (by omega)
  have hx:(strOf six).extract (IntKind.i64.wrap ((n:Int).tdiv 2)).toNat (IntKind.i64.wrap (IntKind.i64.wrap ((n:Int).tdiv 2)+1)).toNat=strOf [UInt8.ofNat (97+n / 2)]:=by
   rw[hq1,hq,aeI,aeI,uI,abo (by omega)]
  have hy:(strOf [48,49]).extract ((n:Int).tmod 2).toNat (IntKind.i64.wrap ((n:Int).tmod 2+1)).toNat=strOf [UInt8.ofNat (48+n % 2)]:=by
   rw[hr1,hr,aeI,aeI,uI,avF (by omega)]
  refine dR (.seq [0,1,2,3,4,5,6,7,8,9,10,11,12,13]) ?_
  refine ai (by decide) (ai (by decide) ?_)
  refine ai (ai (by rw[hq];exact abw _) (ai (by rw[hq1,hq];omega) (by rw[hq1];show ((n / 2+1:Nat):Int)≤6;omega))) ?_
  refine ai (by decide) (ai (by decide) ?_)
  refine ai (ai (by show (0:Int)≤((n:Int).tmod 2);rw[hr];exact abw _) (ai (by rw[hr1];show ((n % 2:Nat):Int)≤_;omega) (by rw[hr1];show ((n % 2+1:Nat):Int)≤2;omega))) ?_
  refine ai ?_ ?_
  ·show (((((strOf six).extract (IntKind.i64.wrap ((n:Int).tdiv 2)).toNat (IntKind.i64.wrap (IntKind.i64.wrap ((n:Int).tdiv 2)+1)).toNat).size+((strOf [48,49]).extract ((n:Int).tmod 2).toNat (IntKind.i64.wrap ((n:Int).tmod 2+1)).toNat).size:Nat)):Int)≤9223372036854775807
   rw[hx,hy];show ((2:Nat):Int)≤9223372036854775807;decide
  ·refine ai (ai (fun _=>trivial) ?_) trivial
   show (strOf six).extract (IntKind.i64.wrap ((n:Int).tdiv 2)).toNat (IntKind.i64.wrap (IntKind.i64.wrap ((n:Int).tdiv 2)+1)).toNat++(strOf [48,49]).extract ((n:Int).tmod 2).toNat (IntKind.i64.wrap ((n:Int).tmod 2+1)).toNat=strOf (eH c n)
   rw[hx,hy]
   unfold eH
   rw[if_pos g1];rfl
 refine cK (adU) (c) (by exact (ai rfl (ai (ai rfl (fun _ _=>rfl)) (ai (ai rfl (fun _ _=>rfl)) (ai (ai rfl (fun _ _=>rfl)) (ai rfl (fun _ _=>rfl))))))) (hs0) ?_
 refine ah (p:=(n:Int)<bW c) (by exact aA Iff.rfl) (fun g2=>?_) (fun g2=>?_)
 ·have hd:IntKind.i64.wrap ((n:Int)-IntKind.i64.wrap (2*c.act))=((n-2*c.act.toNat:Nat):Int):=by
   rw[dF (n:=2*c.act) (by omega) (by omega),dF (by omega) (by omega)];omega
  have g3:(n:Int)<2*c.act+c.ins.length:=g2
  refine ai (ai (by rw[hd];exact abw _) (by rw[hd];show ((n-2*c.act.toNat:Nat):Int)<(c.ins.length:Int);omega)) ?_
  refine ai rfl ?_
  refine ai (ai (fun _=>trivial) ?_) trivial
  show strOf (c.ins.getD (IntKind.i64.wrap ((n:Int)-IntKind.i64.wrap (2*c.act))).toNat [])=strOf (eH c n)
  unfold eH
  rw[hd,if_neg g1,if_pos g2,aeI]
 ·have hN:bW c=2*c.act+c.ins.length:=rfl
  have hd:IntKind.i64.wrap ((n:Int)-bW c)=((n-2*c.act.toNat-c.ins.length:Nat):Int):=by
   rw[hN,dF (by omega) (by omega)];omega
  refine dR (.seq [0,1,2,3,4,5,6,7,8,9]) ?_
  refine cK (adU) (c) (by exact (ai rfl (ai (ai rfl (fun _ _=>rfl)) (ai (ai rfl (fun _ _=>rfl)) (ai (ai rfl (fun _ _=>rfl)) (ai rfl (fun _ _=>rfl))))))) (hs0) ?_
  refine ai (ai (by rw[hd];exact abw _) (by rw[hd];show ((n-2*c.act.toNat-c.ins.length:Nat):Int)<(c.sgs.length:Int);omega)) ?_
  refine ai rfl ?_
  refine ai (ai (fun _=>trivial) ?_) trivial
  show strOf (c.sgs.getD (IntKind.i64.wrap ((n:Int)-bW c)).toNat ak).nm=strOf (eH c n)
  unfold eH
  rw[hd,if_neg g1,if_neg g2,aeI]
def acs (s:List UInt8) (k:Nat):Bool:=(decide (k=0)&&!jv (s.getD k 0))||!eD (s.getD k 0)
theorem rU {s:List UInt8} {k:Nat} (hk:k<s.length) (h:acs s k=true):jN s=false:=by
 unfold acs at h
 unfold jN
 rw[arQ] at h
 rcases h with h | h
 ·rw[abx,decide_eq_true_iff] at h
  obtain ⟨rfl,h⟩:=h
  have h:jv (s.getD 0 0)=false:=by simpa using h
  rw[h];simp
 ·have h:eD (s.getD k 0)=false:=by simpa using h
  have:s.all eD=false:=by
   rw[auy]
   exact ⟨_,abu (bD 0 hk),by rw[h];decide⟩
  rw[this];simp
theorem arz {s:List UInt8} (h:∀k,k<s.length→acs s k=false):jN s=!s.isEmpty:=by
 unfold jN
 cases s with
 | nil=>rfl
 | cons b t=>
  have h0:=h 0 (Nat.zero_lt_succ _)
  unfold acs at h0
  rw[avz] at h0
  have h1:jv ((b :: t).getD 0 0)=true:=by simpa using h0.1
  have h2:(b :: t).all eD=true:=by
   rw[aoP]
   intro x hx
   obtain ⟨k,hk,rfl⟩:=arM hx
   have hk':=h k hk
   unfold acs at hk'
   rw[avz] at hk'
   have:=hk'.2
   rw[aaG,aaX hk] at this
   simpa using this
  rw[h1,h2];rfl
def oF (k x:Nat):Prop:=(k=0∧¬(97≤x∧x≤122))∨¬((97≤x∧x≤122)∨(65≤x∧x≤90)∨x=95∨(48≤x∧x≤57))
theorem oo {s:List UInt8} {k:Nat}:acs s k=true↔oF k (s.getD k 0).toNat:=by
 unfold acs oF eD eU jv vw
 simp only[arQ,abx,ao0,decide_eq_true_eq,avz,axQ,decide_eq_false_iff_not]
 omega
theorem rX {s:List UInt8} {k:Nat} (h:¬oF k (s.getD k 0).toNat):acs s k=false:=awH.2 fun e=>h (oo.1 e)
theorem aq7:av Tryz.prog 175 (bC (fun s:List UInt8=>[sA s]) (fun s=>s.length≤1000000) (fun s=>bP (jN s))):=by
 refine vF Tryz.func175 ?_
 rintro (s:List UInt8) hpre
 have hl:s.length≤1000000:=hpre
 have hz:=cO s
 refine fR (s.length) (fun k=>[(3,.s (iA k))]) (fun k=>[]) (fun k=>∀j,j<k→acs s j=false) (by exact (ai (ai (fun _=>rfl) (iE (by omega))) rfl)) (by exact trivial) ?_ ?_
 ·exact fun j hj=>absurd hj (aeH _)
 intro (k:Nat) ⟨hk,hall⟩
 refine ah (p:=k<s.length) (by exact aA (by rw[hz];omega)) (fun h1=>?_) (fun h1=>?_)
 ·have i1:(strOf s)[((k:Nat):Int).toNat]?=some (s.getD k 0):=nP h1
  refine dR (.seq [0,1,2,3,4,5,6,7,8,9,10,11,12,13,14,15,16,17,18,19,20,21]) ?_
  refine ei (s.getD k 0) (ai (ai (abw _) i1) ?_)
  refine bG (97≤(s.getD k 0).toNat) (fun g1=>?_) fun g1=>?_
  ·refine ei (s.getD k 0) (ai (ai (abw _) i1) ?_)
   refine ei (s.getD k 0) (ai (ai (abw _) i1) ?_)
   refine bG (65≤(s.getD k 0).toNat) (fun g2=>?_) fun g2=>?_
   ·refine ei (s.getD k 0) (ai (ai (abw _) i1) ?_)
    refine bE (k=0) (fun g3=>?_) fun g3=>?_
    ·refine aC (b:=!decide ((((s.getD k 0).toNat:Nat):Int)≤122)) rfl (fun g4=>?_) (fun g4=>?_)
     ·have g4:¬((((s.getD k 0).toNat:Nat):Int)≤122):=by simpa using g4
      refine eN (bP (jN s)) ?_
      rw[rU h1 (oo.2 (by unfold oF;omega))]
      exact rfl
     ·have g4:(((s.getD k 0).toNat:Nat):Int)≤122:=by simpa using g4
      refine aC (b:=!decide ((((s.getD k 0).toNat:Nat):Int)≤122)) rfl (fun g4=>?_) (fun g4=>?_)
      ·have g5:¬((((s.getD k 0).toNat:Nat):Int)≤122):=by simpa using g4
       omega
      ·refine nX (k) (ai (ai (fun _=>rfl) (aG (by omega))) rfl) trivial ?_
       intro j hj
       by_cases e:j=k
       ·subst e;exact rX (by unfold oF;omega)
       ·exact hall j (by omega)
    ·refine aC (b:=!decide ((((s.getD k 0).toNat:Nat):Int)≤122)) rfl (fun g4=>?_) (fun g4=>?_)
     ·have g4:¬((((s.getD k 0).toNat:Nat):Int)≤122):=by simpa using g4
      refine aC (b:=!decide ((((s.getD k 0).toNat:Nat):Int)≤90)) rfl (fun g6=>?_) (fun g6=>?_)
      ·refine ei (s.getD k 0) (ai (ai (abw _) i1) ?_)
       refine bN ((s.getD k 0).toNat=95) (fun g5=>?_) fun g5=>?_
       ·refine ei (s.getD k 0) (ai (ai (abw _) i1) ?_)
        refine bL ((s.getD k 0).toNat<48) (fun g6=>?_) fun g6=>?_
        ·refine eN (bP (jN s)) ?_
         rw[rU h1 (oo.2 (by unfold oF;omega))]
         exact rfl
        refine ei (s.getD k 0) (ai (ai (abw _) i1) ?_)
        refine bL (57<(s.getD k 0).toNat) (fun g7=>?_) fun g7=>?_
        ·refine eN (bP (jN s)) ?_
         rw[rU h1 (oo.2 (by unfold oF;omega))]
         exact rfl
        ·refine nX (k) (ai (ai (fun _=>rfl) (aG (by omega))) rfl) trivial ?_
         intro j hj
         by_cases e:j=k
         ·subst e;exact rX (by unfold oF;omega)
         ·exact hall j (by omega)
       ·refine nX (k) (ai (ai (fun _=>rfl) (aG (by omega))) rfl) trivial ?_
        intro j hj
        by_cases e:j=k
        ·subst e;exact rX (by unfold oF;omega)
        ·exact hall j (by omega)
      ·have g7:(((s.getD k 0).toNat:Nat):Int)≤90:=by simpa using g6
       omega
     ·have g4:(((s.getD k 0).toNat:Nat):Int)≤122:=by simpa using g4
      refine nX (k) (ai (ai (fun _=>rfl) (aG (by omega))) rfl) trivial ?_
      intro j hj
      by_cases e:j=k
      ·subst e;exact rX (by unfold oF;omega)
      ·exact hall j (by omega)
   ·omega
  ·refine ei (s.getD k 0) (ai (ai (abw _) i1) ?_)
   refine bG (65≤(s.getD k 0).toNat) (fun g2=>?_) fun g2=>?_
   ·refine ei (s.getD k 0) (ai (ai (abw _) i1) ?_)
    refine bE (k=0) (fun g3=>?_) fun g3=>?_
    ·refine eN (bP (jN s)) ?_
     rw[rU h1 (oo.2 (by unfold oF;omega))]
     exact rfl
    ·refine aC (b:=!decide ((((s.getD k 0).toNat:Nat):Int)≤90)) rfl (fun g6=>?_) (fun g6=>?_)
     ·have g6:¬((((s.getD k 0).toNat:Nat):Int)≤90):=by simpa using g6
      refine ei (s.getD k 0) (ai (ai (abw _) i1) ?_)
      refine bN ((s.getD k 0).toNat=95) (fun g5=>?_) fun g5=>?_
      ·refine ei (s.getD k 0) (ai (ai (abw _) i1) ?_)
       refine bL ((s.getD k 0).toNat<48) (fun g6=>?_) fun g6=>?_
       ·refine eN (bP (jN s)) ?_
        rw[rU h1 (oo.2 (by unfold oF;omega))]
        exact rfl
       refine ei (s.getD k 0) (ai (ai (abw _) i1) ?_)
       refine bL (57<(s.getD k 0).toNat) (fun g7=>?_) fun g7=>?_
       ·refine eN (bP (jN s)) ?_
        rw[rU h1 (oo.2 (by unfold oF;omega))]
        exact rfl
       ·refine nX (k) (ai (ai (fun _=>rfl) (aG (by omega))) rfl) trivial ?_
        intro j hj
        by_cases e:j=k
        ·subst e;exact rX (by unfold oF;omega)
        ·exact hall j (by omega)
      ·refine nX (k) (ai (ai (fun _=>rfl) (aG (by omega))) rfl) trivial ?_
       intro j hj
       by_cases e:j=k
       ·subst e;exact rX (by unfold oF;omega)
       ·exact hall j (by omega)
     ·have g6:(((s.getD k 0).toNat:Nat):Int)≤90:=by simpa using g6
      refine nX (k) (ai (ai (fun _=>rfl) (aG (by omega))) rfl) trivial ?_
      intro j hj
      by_cases e:j=k
      ·subst e;exact rX (by unfold oF;omega)
      ·exact hall j (by omega)
   ·refine bE (k=0) (fun g3=>?_) fun g3=>?_
    ·refine eN (bP (jN s)) ?_
     rw[rU h1 (oo.2 (by unfold oF;omega))]
     exact rfl
    ·refine ei (s.getD k 0) (ai (ai (abw _) i1) ?_)
     refine bN ((s.getD k 0).toNat=95) (fun g5=>?_) fun g5=>?_
     ·refine ei (s.getD k 0) (ai (ai (abw _) i1) ?_)
      refine bL ((s.getD k 0).toNat<48) (fun g6=>?_) fun g6=>?_
      ·refine eN (bP (jN s)) ?_
       rw[rU h1 (oo.2 (by unfold oF;omega))]
       exact rfl
      refine ei (s.getD k 0) (ai (ai (abw _) i1) ?_)
      refine bL (57<(s.getD k 0).toNat) (fun g7=>?_) fun g7=>?_
      ·refine eN (bP (jN s)) ?_
       rw[rU h1 (oo.2 (by unfold oF;omega))]
       exact rfl
      ·refine nX (k) (ai (ai (fun _=>rfl) (aG (by omega))) rfl) trivial ?_
       intro j hj
       by_cases e:j=k
       ·subst e;exact rX (by unfold oF;omega)
       ·exact hall j (by omega)
     ·refine nX (k) (ai (ai (fun _=>rfl) (aG (by omega))) rfl) trivial ?_
      intro j hj
      by_cases e:j=k
      ·subst e;exact rX (by unfold oF;omega)
      ·exact hall j (by omega)
 ·obtain rfl:k=s.length:=by omega
  refine ai (ai (fun _=>trivial) ?_) trivial
  show (!((strOf s).data.toList==(ByteArray.empty).data.toList))=jN s
  rw[arz hall]
  cases s<;>rfl
theorem uO {p:Nat→Bool} {n k:Nat} (hk:k<n) (h:p k=true):(List.range n).any p=true:=aoL.2 ⟨k,auJ.2 hk,h⟩
theorem any_none {p:Nat→Bool} {n:Nat} (h:∀k,k<n→p k=false):(List.range n).any p=false:=atY.2 fun k hk=>by rw[h k (auJ.1 hk)];decide
def aiE (a:bI×Nat):Prop:=aje a∧(∀x∈a.1.ins,x.length≤1000000)∧∀x∈a.1.sgs,x.nm.length≤1000000
theorem aqa {c:bI} {n:Nat} (h:aiE (c,n)):(eH c n).length≤1000000:=by
 unfold eH
 split
 ·show 2≤1000000;decide
 split
 ·rename_i h1
  by_cases h2:n-2*c.act.toNat<c.ins.length
  ·exact h.2.1 _ (abu (bD [] h2))
  ·rw[aaG,awE (by omega)];exact alr _
 ·by_cases h2:n-2*c.act.toNat-c.ins.length<c.sgs.length
  ·exact h.2.2 _ (abu (bD ak h2))
  ·rw[aaG,awE (by omega)];exact alr _
theorem ahs:av Tryz.prog 118 (bC (fun a:bI×Nat=>[sH a.1,iA a.2]) aiE (fun a=>iP (kZ a.1 a.2))):=by
 refine vF Tryz.func118 ?_
 rintro ⟨c,n⟩ hpre
 have hp:aiE (c,n):=hpre
 have hn:(n:Int)<2*c.act+c.ins.length+c.sgs.length:=hp.1.2.2
 have h4:c.sgs.length≤1000000:=hp.1.1.2.2
 have h3:c.ins.length≤1000000:=hp.1.1.2.1
 have h2:c.act≤6:=hp.1.2.1
 have hlen:=aqa hp
 refine cK (ahJ) ((c,n)) (by exact (ai (ai rfl (ai (ai rfl (fun _ _=>rfl)) (ai (ai rfl (fun _ _=>rfl)) (ai (ai rfl (fun _ _=>rfl)) (ai rfl (fun _ _=>rfl)))))) rfl)) (hp.1) ?_
 refine cK (aq7) (eH c n) (by exact rfl) (hlen) ?_
 refine aC (b:=!jN (eH c n)) rfl (fun h5=>?_) (fun h5=>?_)
 ·refine eN (iP (kZ c n)) ?_
  rw[kZ,if_pos h5]
  exact rfl
 refine ah (p:=24<(eH c n).length) (by exact aA (show (24:Int)<(((strOf (eH c n)).size:Nat):Int)↔24<(eH c n).length by rw[cO];omega)) (fun h6=>?_) (fun h6=>?_)
 ·refine eN (iP (kZ c n)) ?_
  rw[kZ,if_neg (show ¬(!jN (eH c n))=true by rw[h5];decide),if_pos h6]
  exact rfl
 have hA:kZ c n=if (List.range n).any (fun i=>eH c i==eH c n) then 7 else 0:=by unfold kZ;rw[if_neg (show ¬(!jN (eH c n))=true by rw[h5];decide),if_neg h6]
 refine fR (n) (fun k=>[(6,.s (iA k))]) (fun k=>[]) (fun k=>∀j,j<k→(eH c j==eH c n)=false) (by exact (ai (ai (fun _=>rfl) (iE (by omega))) rfl)) (by exact trivial) ?_ ?_
 ·exact fun j hj=>absurd hj (aeH _)
 intro (k:Nat) ⟨hk,hall⟩
 refine bL (k<n) (fun h7=>?_) fun h7=>?_
 ·refine cK (ahJ) ((c,k)) (by exact (ai (ai rfl (ai (ai rfl (fun _ _=>rfl)) (ai (ai rfl (fun _ _=>rfl)) (ai (ai rfl (fun _ _=>rfl)) (ai rfl (fun _ _=>rfl)))))) rfl)) (⟨hp.1.1,hp.1.2.1,by show (k:Int)<2*c.act+c.ins.length+c.sgs.length;omega⟩) ?_
  refine aC (b:=eH c k==eH c n) rfl (fun h8=>?_) (fun h8=>?_)
  ·refine eN (iP (kZ c n)) ?_
   rw[hA,if_pos (uO h7 h8)]
   exact rfl
  refine nX (k) (ai (ai (fun _=>rfl) (aG (by omega))) rfl) trivial ?_
  intro j hj
  by_cases e:j=k
  ·subst e;exact h8
  ·exact hall j (by omega)
 ·obtain rfl:k=n:=by omega
  refine eN (iP (kZ c k)) ?_
  rw[hA,if_neg (show ¬(List.range k).any (fun i=>eH c i==eH c k)=true by rw[any_none hall];decide)]
  exact rfl
theorem aby (v:Int) (x:Ex):qV v x=if x.op=1 then x.idx==v else x.args.any (qV v):=by
 have key:∀l:List Ex,aiM v l=l.any (qV v):=by
  intro l
  induction l with
  | nil=>rfl
  | cons x l ih=>rw[aiM,ih];rfl
 cases x with
 | node o i l=>
  rw[qV,key]
def awc (n:Nat):Spec:=bC (fun a:Ex×Int=>[jK a.1,iA a.2]) (fun a=>a.1.size≤1000000∧a.1.size≤n) (fun a=>bP (qV a.2 a.1))
theorem arS:∀n,av Tryz.prog 224 (awc n)
 | 0=>by
  refine vF Tryz.func224 ?_
  rintro (a:Ex×Int) hpre
  have:=size_pos a.1
  exact absurd hpre.2 (by show ¬a.1.size≤0;omega)
 | n+1=>by
  have ih:=arS n
  refine vF Tryz.func224 ?_
  rintro (a:Ex×Int) hpre
  obtain ⟨hs,hn⟩:=hpre
  have hs:a.1.size≤1000000:=hs
  have hn:a.1.size≤n+1:=hn
  have hsz:=a.1.size_eq
  have hal:=pK a.1.args
  have hE:=aby a.2 a.1
  refine bE (a.1.op=1) (fun h1=>?_) fun h1=>?_
  ·refine eN (bP (qV a.2 a.1)) ?_
   rw[hE,if_pos h1]
   exact rfl
  rw[if_neg h1] at hE
  refine fR (a.1.args.length) (fun k=>[(5,.s (iA k))]) (fun k=>[]) (fun k=>∀y∈a.1.args.take k,qV a.2 y=false) (by exact (ai (ai (fun _=>rfl) (iE (by omega))) rfl)) (by exact trivial) ?_ ?_
  ·exact fun y hy=>absurd hy (by simp)
  intro (k:Nat) ⟨hk,hall⟩
  refine bL (k<a.1.args.length) (fun h2=>?_) fun h2=>?_
  ·refine iX (k) (a.1.args.length) ?_
   have hm:=abu (bD bK h2)
   have hms:=jy hm
   refine cK (ih) ((a.1.args.getD k bK,a.2)) (by exact (ai (ai (iE (by simp only[zz,reduceCtorEq])) (ai (iE (by simp only[zz,reduceCtorEq])) (ai rfl (xX _)))) rfl)) (⟨by show (a.1.args.getD k bK).size≤1000000;omega,by show (a.1.args.getD k bK).size≤n;omega⟩) ?_
   refine aC (b:=qV a.2 (a.1.args.getD k bK)) rfl (fun h3=>?_) (fun h3=>?_)
   ·refine eN (bP (qV a.2 a.1)) ?_
    rw[hE,show a.1.args.any (qV a.2)=true from aoL.2 ⟨_,hm,h3⟩]
    exact rfl
   refine nX (k) (ai (ai (fun _=>rfl) (aG (by omega))) rfl) trivial ?_
   intro y hy
   rw[aR bK h2] at hy
   rcases acT.1 hy with hy | hy
   ·exact hall y hy
   ·simp only[aes] at hy;subst hy;exact h3
  ·obtain rfl:k=a.1.args.length:=by omega
   rw[acS] at hall
   refine eN (bP (qV a.2 a.1)) ?_
   rw[hE,show a.1.args.any (qV a.2)=false from atY.2 fun y hy=>by rw[hall y hy];decide]
   exact rfl
theorem auP:av Tryz.prog 224 (bC (fun a:Ex×Int=>[jK a.1,iA a.2]) (fun a=>a.1.size≤1000000) (fun a=>bP (qV a.2 a.1))):=nL (fun a=>a.1.size) arS
def avp (a:bI×Nat):Prop:=(lu a.1∧a.1.act≤6)∧amB a.1∧a.2<a.1.sgs.length
theorem ajU:av Tryz.prog 177 (bC (fun a:bI×Nat=>[sH a.1,iA a.2]) avp (fun a=>bP (rE a.1 a.2))):=by
 refine vF Tryz.func177 ?_
 rintro ⟨c,i⟩ hpre
 obtain ⟨⟨hs,h6⟩,ho,hi⟩:=hpre
 have hs0:=hs
 obtain ⟨⟨h1,h2⟩,h3,h4⟩:=hs
 have h1:0≤c.act:=h1
 have h6:c.act≤6:=h6
 have h3:c.ins.length≤1000000:=h3
 have h4:c.sgs.length≤1000000:=h4
 have hi:i<c.sgs.length:=hi
 have hos:=(ho.1 _ (abu (bD ak hi))).1
 refine ei (mK.inv { X:=Nat,up:=fun k=>[(5,.s (iA (k:Nat)))],uo:=fun _=>[],inv:=fun k=>i≤k∧k≤c.sgs.length∧∀j,j<k→adI c i j=false,meas:=fun k=>c.sgs.length-k,x0:=i }) ?_
 refine ai (ai (ai (by exact (a4 (ai rfl rfl))) (ai ?_ ?_)) ?_) (ai ?_ ?_)
 ·exact (ai (ai nof rfl) rfl)
 ·exact trivial
 ·rfl
 ·refine ⟨acM _,(show i≤c.sgs.length by omega),fun j hj=>?_⟩
  have hj:j<i:=hj
  unfold adI;rw[decide_eq_false (by omega)];rfl
 rintro (k:Nat) ⟨hik,hk,hall⟩
 have hik:i≤k:=hik
 have hk:k≤c.sgs.length:=hk
 refine ah (p:=k<c.sgs.length) (aA (by dsimp only;omega)) (fun g1=>?_) (fun g1=>?_)
 ·refine dR (.seq [0,1,2,3,4,5,6,7,8,9,10,11,12,13,14,16,15,17,18,19]) ?_
  refine iX (k) (c.sgs.length) ?_
  refine aC (b:=(c.sgs.getD k ak).kd==0) rfl (fun g2=>?_) (fun g2=>?_)
  ·refine iX (i) (c.sgs.length) ?_
   refine cK (adU) (c) (by exact (ai rfl (ai (ai rfl (fun _ _=>rfl)) (ai (ai rfl (fun _ _=>rfl)) (ai (ai rfl (fun _ _=>rfl)) (ai rfl (fun _ _=>rfl))))))) (hs0) ?_
   refine ei _ (ai (auP) (ei (((c.sgs.getD i ak).on,bW c+(k:Int))) (ei [] (ai (a4 (ai (fun _=>Or.inl rfl) (ai nof (Or.inl rfl)))) (ai ?_ (ai (by exact trivial) (ai (hos) ?_)))))))
   ·refine (ai (ai (iE (by simp only[zz,reduceCtorEq])) (ai (iE (by simp only[zz,reduceCtorEq])) (ai rfl (fun _ _=>rfl)))) ?_)
    exact dF (by unfold bW;omega) (by unfold bW;omega)
   refine aC (b:=qV (bW c+(k:Int)) (c.sgs.getD i ak).on) rfl (fun g3=>?_) (fun g3=>?_)
   ·refine eN (bP (rE c i)) ?_
    rw[show rE c i=true from uO g1 (by unfold adI;rw[decide_eq_true hik,g2,g3];rfl)]
    exact rfl
   refine ei ((k+1)) (ai (ai rfl rfl) (ai (ai ?_ rfl) (ai ?_ ?_)))
   ·exact (ai rfl (ai (ai rfl rfl) (ai (ai rfl rfl) (ai (ai (ai (fun _=>rfl) (aG (by omega))) rfl) trivial))))
   ·refine ⟨by show i≤k+1;omega,by show k+1≤c.sgs.length;omega,fun j hj=>?_⟩
    by_cases e:j=k
    ·subst e;unfold adI;rw[g3];simp
    ·exact hall j (by omega)
   ·show c.sgs.length-(k+1)<c.sgs.length-k;omega
  ·refine ei ((k+1)) (ai (ai rfl rfl) (ai (ai ?_ rfl) (ai ?_ ?_)))
   ·exact (ai rfl (ai (ai rfl rfl) (ai (ai rfl rfl) (ai (ai (ai (fun _=>rfl) (aG (by omega))) rfl) trivial))))
   ·refine ⟨by show i≤k+1;omega,by show k+1≤c.sgs.length;omega,fun j hj=>?_⟩
    by_cases e:j=k
    ·subst e;unfold adI;rw[g2];simp
    ·exact hall j (by omega)
   ·show c.sgs.length-(k+1)<c.sgs.length-k;omega
 ·obtain rfl:k=c.sgs.length:=by omega
  refine eN (bP (rE c i)) ?_
  rw[show rE c i=false from any_none hall]
  exact rfl
def acE (c:bI):Prop:=(lu c∧c.act≤6)∧amB c∧(∀x∈c.ins,x.length≤1000000)∧∀x∈c.sgs,x.nm.length≤1000000
theorem arW {c:bI} (h:acE c) {n:Nat} (hn:(n:Int)<dG c):aiE (c,n):=⟨⟨h.1.1,h.1.2,hn⟩,h.2.2⟩
end Go.Sx.Pe
