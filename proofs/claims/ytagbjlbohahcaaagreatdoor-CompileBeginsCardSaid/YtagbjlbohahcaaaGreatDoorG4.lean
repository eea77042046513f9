/- CompileBegins, part 4 of its proof: declarations that the last part uses. -/
import Derived.Test.YtagbjlbohahcaaaGreatDoorG3
set_option maxHeartbeats 1000000
set_option maxRecDepth 4000
set_option linter.unusedSimpArgs false
set_option linter.unusedVariables false
set_option linter.unusedSectionVars false
namespace Go.Sx.Pe
open Go Go.Proofs Go.Sx.Pn
theorem ai4:∀n,ajj Tryz.prog 263 (akm n)
 | 0=>by
  refine ao3 [] (Tb:=tab) mixed gJ Tryz.func263 rfl rfl ?_
  rintro ⟨x,d⟩ ⟨h1,_⟩ L
  have:=size_pos x
  exact absurd h1 (by show ¬x.size≤0;omega)
 | n+1=>by
  have ih:=ai4 n
  refine ao3 [2000000+263] (Tb:=tab) mixed gJ Tryz.func263 rfl rfl ?_
  rintro ⟨x,d⟩ ⟨h1,h2,h3⟩ L
  have hsz:sizes x.args+1≤n+1∧sizes x.args+1≤1000000:=by rw[←x.size_eq];exact ⟨h1,h3⟩
  have hd:d≤17:=h2
  refine ai rfl ?_
  refine ai rfl (ei (yP (d,x)) (ai (aoi d x) (ai ?_ (ai ?_ ?_))))
  ·exact (ai (ai trivial rfl) (ai trivial (ai rfl (ai rfl (ai rfl (fun _ _=>rfl))))))
  ·have hlen:=oU x.args
   refine ei (mg.inv { X:=Nat,up:=fun k=>[(17,.s (iA k))],uo:=fun _=>[],inv:=fun k=>k≤x.args.length,meas:=fun k=>x.args.length-k,x0:=0,cnt:=fun k=>some (1+(iU d (x.args.take k)).length) }) ?_
   refine ai (ai (ai (by exact (a4 (ai rfl rfl))) (ai ?_ ?_)) ?_) (ai ?_ ?_)
   ·exact (ai (ai (fun _=>rfl) rfl) rfl)
   ·exact trivial
   ·show some (0+1)=some (1+(iU d (x.args.take 0)).length)
    unfold iU;split<;>simp[iw]
   ·exact akx _
   intro (k:Nat) (hk:k≤x.args.length)
   refine ah (p:=k<x.args.length) (aB (by dsimp only;omega)) (fun hkl=>?_) (fun hkl=>?_)
   ·refine ai (ai (aa1 _) (by show (k:Int)<(x.args.length:Int);omega)) (ai rfl ?_)
    refine bG (d≤16) (fun hdd=>?_) fun hdd=>?_
    ·have hget:=acd hkl
     have hy:=jd (aa0 hget)
     refine ei (akm n) (ai ih (ei (x.args.getD k bM,d+1) (ei [0,1] (ai (ai rfl (ai rfl rfl)) (ai ?_ (ai ?_ (ai ?_ (ai ?_ (ai ?_ ?_)))))))))
     ·exact (ai (ai (iE (by simp only[zz,reduceCtorEq])) (ai (iE (by simp only[zz,reduceCtorEq])) (ai rfl (xA _)))) (ai (aH (by omega)) (ai (ai rfl rfl) (ai rfl rfl))))
     ·exact (ai (ai rfl rfl) (ai rfl (ai rfl (ai (ai rfl rfl) (ai rfl rfl)))))
     ·exact ⟨by show (x.args.getD k bM).size≤n;omega,by show d+1≤17;omega,by show (x.args.getD k bM).size≤1000000;omega⟩
     ·exact fun i vs hi=>aqQ hdd hkl hi
     ·refine ei ((k+1)) (ai (ai rfl rfl) (ai (ai ?_ ?_) (ai ?_ ?_)))
      ·exact (ai rfl (ai (ai rfl rfl) (ai (ai rfl rfl) (ai (ai (ai (fun _=>rfl) (aH (by omega))) rfl) trivial))))
      ·show some (1+(iU d (x.args.take k)).length+((dJ (d+1) (x.args.getD k bM)).map yP).length)=some (1+(iU d (x.args.take (k+1))).length)
       rw[ah9 hdd hget,ahn,aas,axt]
      ·show k+1≤x.args.length;omega
      ·show x.args.length-(k+1)<x.args.length-k;omega
     ·exact rfl
    ·refine ei ((k+1)) (ai (ai rfl rfl) (ai (ai ?_ ?_) (ai ?_ ?_)))
     ·exact (ai rfl (ai (ai rfl rfl) (ai (ai rfl rfl) (ai (ai (ai (fun _=>rfl) (aH (by omega))) rfl) trivial))))
     ·show some (1+(iU d (x.args.take k)).length)=some (1+(iU d (x.args.take (k+1))).length)
      unfold iU;rw[if_neg hdd,if_neg hdd]
     ·show k+1≤x.args.length;omega
     ·show x.args.length-(k+1)<x.args.length-k;omega
   ·obtain rfl:k=x.args.length:=by omega
    refine ai rfl ?_
    show 1+(iU d (x.args.take x.args.length)).length=((dJ d x).map yP).length
    rw[acI,ae0,awv,apl,ahn,Nat.add_comm]
  ·exact rfl
def preS:ug:={ A:=Ex,capt:=fun x=>[.pt (kC x) 0],pre:=fun x=>x.size≤1000000,xs:=fun x=>(dJ 1 x).map yP }
theorem ajB:aga Tryz.prog 262 preS:=by
 refine apo [2000000+263] (Tb:=tab) mixed gJ Tryz.func262 rfl rfl ?_
 intro (x:Ex) hpre
 refine ai rfl ?_
 intro L
 refine ei (akm x.size) (ai (ai4 x.size) (ei (x,1) (ei [0,1] (ai (ai rfl (ai rfl rfl)) (ai ?_ (ai ?_ (ai ?_ (ai ?_ (ai ?_ ?_)))))))))
 ·exact (ai (ai rfl (ai rfl (ai rfl (fun _ _=>rfl)))) (ai (iE (by simp only[zz,reduceCtorEq];rfl)) (ai (ai rfl rfl) (ai rfl rfl))))
 ·exact (ai (ai rfl rfl) (ai rfl (ai rfl (ai (ai rfl rfl) (ai rfl rfl)))))
 ·exact ⟨abm _,by show 1≤17;omega,hpre⟩
 ·intro i vs hi
  show ((dJ 1 x).map yP)[0+i]?=some vs
  rw[ajv];exact hi
 ·refine ai trivial ?_
  show 0+((dJ 1 x).map yP).length=((dJ 1 x).map yP).length
  rw[ajv]
 ·exact ai trivial trivial
def avW:Spec:=bS (fun x:Ex=>[jB x]) (fun _=>True) (fun x=>.fn 262 [.pt (kC x) 0])
theorem ao7:ay Tryz.prog 226 avW:=by
 refine vF Tryz.func226 ?_
 rintro (x:Ex) hpre
 refine ai (ai nof ?_) trivial
 exact (ai rfl rfl)
def xU (x:Ex):Option (Nat×Nat):=if x.size≤256∧x.deep≤16 then some (x.size,x.deep) else none
def nI (x:Ex):PV:=match xU x with
 | some (n,d)=>.tup [iP n,iP d,bP true]
 | none=>.tup [iP 0,iP 0,bP false]
def maxD (l:List (Nat×Ex)):Nat:=l.foldl (fun m y=>max m y.1) 0
theorem an2 (l:List (Nat×Ex)) (y:Nat×Ex):maxD (l++[y])=max (maxD l) y.1:=by unfold maxD;rw[avA];rfl
mutual
theorem agL:∀(x:Ex) (d:Nat),x.deep+d≤17→(dJ d x).length=x.size
 | .node o i l,d,h=>by
  have h1:gN l+1+d≤17:=by rw[Ex.x9] at h;exact h
  rw[vD,apl,Ex.size]
  unfold iU
  rw[if_pos (by omega),akh l (d+1) (by omega)]
theorem akh:∀(l:List Ex) (d:Nat),gN l+d≤17→(iw d l).length=sizes l
 | [],d,h=>by rw[iw,sizes];rfl
 | x :: l,d,h=>by
  rw[gN] at h
  rw[iw,sizes,aas,agL x d (by omega),akh l d (by omega)]
end
theorem foldl_max (l:List (Nat×Ex)):∀m,(∀y∈l,y.1≤l.foldl (fun m y=>max m y.1) m)∧m≤l.foldl (fun m y=>max m y.1) m∧(∀M,m≤M→(∀y∈l,y.1≤M)→l.foldl (fun m y=>max m y.1) m≤M):=by
 induction l with
 | nil=>intro m;simp
 | cons x l ih=>
  intro m
  obtain ⟨h1,h2,h3⟩:=ih (max m x.1)
  refine ⟨fun y hy=>?_,?_,fun M hm hM=>?_⟩
  ·rcases ahy.1 hy with rfl | hy
   ·show y.1≤l.foldl _ (max m y.1)
    exact aiT (Nat.le_max_right _ _) h2
   ·exact h1 y hy
  ·exact aiT (Nat.le_max_left _ _) h2
  ·exact h3 M (by have:=hM x (by simp);omega) fun y hy=>hM y (by simp[hy])
theorem maxD_eq {l:List (Nat×Ex)} {M:Nat} (h1:∀z∈l,z.1≤M) (h2:∃z∈l,z.1=M):maxD l=M:=by
 obtain ⟨g1,g2,g3⟩:=foldl_max l 0
 obtain ⟨z,hz,rfl⟩:=h2
 exact Nat.le_antisymm (g3 _ (akx _) h1) (g1 z hz)
mutual
theorem akv:∀(x:Ex) (d:Nat) (z:Nat×Ex),z∈dJ d x→z.1+1≤x.deep+d
 | .node o i l,d,z,h=>by
  rw[vD] at h
  rw[Ex.deep]
  rcases ahy.1 h with rfl | h
  ·show d+1≤_;omega
  ·unfold iU at h
   split at h
   ·have:=alD l (d+1) z h;omega
   ·simp at h
theorem alD:∀(l:List Ex) (d:Nat) (z:Nat×Ex),z∈iw d l→z.1+1≤gN l+d
 | [],d,z,h=>by rw[iw] at h;simp at h
 | x :: l,d,z,h=>by
  rw[iw] at h
  rw[gN]
  rcases acE.1 h with h | h
  ·have:=akv x d z h;omega
  ·have:=alD l d z h;omega
end
mutual
theorem aky:∀(x:Ex) (d e:Nat),d≤e→e≤17→e+1≤x.deep+d→∃z∈dJ d x,z.1=e
 | .node o i l,d,e,h1,h2,h3=>by
  rw[Ex.deep] at h3
  rw[vD]
  by_cases he:d=e
  ·exact ⟨_,auO,he⟩
  ·obtain ⟨z,hz,hz2⟩:=ama l (d+1) e (by omega) h2 (by omega)
   refine ⟨z,arP _ ?_,hz2⟩
   unfold iU;rw[if_pos (by omega)];exact hz
theorem ama:∀(l:List Ex) (d e:Nat),d≤e→e≤17→e+1≤gN l+d→∃z∈iw d l,z.1=e
 | [],d,e,h1,h2,h3=>by rw[gN] at h3;omega
 | x :: l,d,e,h1,h2,h3=>by
  rw[gN] at h3
  rw[iw]
  by_cases hx:e+1≤x.deep+d
  ·obtain ⟨z,hz,hz2⟩:=aky x d e h1 h2 hx
   exact ⟨z,axM _ hz,hz2⟩
  ·obtain ⟨z,hz,hz2⟩:=ama l d e h1 h2 (by omega)
   exact ⟨z,axF _ hz,hz2⟩
end
theorem ajz (x:Ex):(∀z∈dJ 1 x,z.1≤16)↔x.deep≤16:=by
 constructor
 ·intro h
  refine Classical.byContradiction fun hn=>?_
  obtain ⟨z,hz,he⟩:=aky x 1 17 (by omega) (by omega) (by omega)
  have:=h z hz;omega
 ·intro h z hz
  have:=akv x 1 z hz;omega
theorem ahV {x:Ex} (h1:(dJ 1 x).length≤256) (h2:∀z∈dJ 1 x,z.1≤16):xU x=some ((dJ 1 x).length,maxD (dJ 1 x)):=by
 have hd:=(ajz x).1 h2
 have hl:=agL x 1 (by omega)
 have hm:maxD (dJ 1 x)=x.deep:=maxD_eq (fun z hz=>by have:=akv x 1 z hz;omega) (aky x 1 x.deep (ajk x) (by omega) (by omega))
 unfold xU
 rw[if_pos ⟨by omega,hd⟩,hl,hm]
theorem ahf {x:Ex} (h:256<(dJ 1 x).length∨∃z∈dJ 1 x,16<z.1):xU x=none:=by
 unfold xU
 rw[if_neg]
 rintro ⟨h1,h2⟩
 rcases h with h | ⟨z,hz,h⟩
 ·have:=agL x 1 (by omega);omega
 ·have:=(ajz x).2 h2 z hz;omega
theorem anE {l:List (Nat×Ex)} {k:Nat} {vs:List PV} (h:(l.map yP)[k]?=some vs):∃d x,l[k]?=some (d,x)∧vs=[iP d,qp x]:=by
 rw[alh] at h
 cases hc:l[k]? with
 | none=>rw[hc] at h;cases h
 | some y=>
  rw[hc] at h
  simp only[apr,Option.some.injEq] at h
  exact ⟨y.1,y.2,rfl,h.symm⟩
theorem aoK {l:List (Nat×Ex)}:∀v∈l.map yP,v.length=2:=fun v hv=>by
 obtain ⟨y,_,rfl⟩:=aup.1 hv;rfl
def measS:Spec:=bH (fun x:Ex=>[jB x]) (fun x=>x.size≤1000000) nI
theorem adH:ay Tryz.prog 225 measS:=by
 refine vF Tryz.func225 ?_
 rintro (x:Ex) hpre
 refine cK (ao7) (x) (by exact (ai rfl (ai rfl (ai rfl (fun _ _=>rfl))))) (trivial) ?_
 refine ai (ai rfl rfl) (ei preS (ai ajB (ei x (ai ?_ (ai hpre (ai aoK (ei { X:=Nat,uo:=fun k=>[⟨4,3,[.s (iA k)]⟩,⟨5,3,[.s (iA (maxD ((dJ 1 x).take k):Nat))]⟩],inv:=fun k y=>y=k∧k≤256∧∀z∈(dJ 1 x).take k,z.1≤16,x0:=0 } (ai ?_ (ai ?_ (ai ?_ (ai ?_ ?_)))))))))))
 ·exact (ai rfl rfl)
 ·exact (ai rfl (ai rfl (ai rfl rfl)))
 ·exact (ai (ai (ai (fun _=>rfl) rfl) rfl) (ai (ai (ai (fun _=>rfl) rfl) rfl) trivial))
 ·exact ⟨rfl,akx _,by simp⟩
 ·rintro k (y:Nat) vs ⟨hy,hk,hall⟩ hvs
  subst hy
  obtain ⟨d,z,hg,rfl⟩:=anE hvs
  have hs:(dJ 1 x).take (y+1)=(dJ 1 x).take y++[(d,z)]:=by rw[axq,hg];rfl
  have hyl:y<(dJ 1 x).length:=(arx.1 hg).1
  have hw:IntKind.i64.wrap ((y:Int)+1)=((y+1:Nat):Int):=aH (by omega)
  refine ah (p:=256<y+1) (by exact aB (by rw[hw];omega)) (fun h1=>?_) (fun h1=>?_)
  ·refine eN (nI x) ?_
   rw[nI,ahf (.inl (by omega))]
   exact (ai rfl (ai rfl rfl))
  refine bL (16<d) (fun h2=>?_) fun h2=>?_
  ·refine eN (nI x) ?_
   rw[nI,ahf (.inr ⟨_,aa0 hg,h2⟩)]
   exact (ai rfl (ai rfl rfl))
  refine ei (y+1) (ai rfl (ai (ai (ai rfl rfl) (ai (ai rfl rfl) ?_)) ?_))
  ·refine ai ?_ (ai ?_ trivial)
   ·exact (ai (ai (fun _=>rfl) (aH (by omega))) rfl)
   ·refine ai (ai nof ?_) rfl
    show (if (d:Int)>_ then (d:Int) else _)=((maxD ((dJ 1 x).take (y+1)):Nat):Int)
    rw[hs,an2]
    show (if (d:Int)>((maxD ((dJ 1 x).take y):Nat):Int) then (d:Int) else _)=((max _ d:Nat):Int)
    split<;>omega
  ·refine ⟨rfl,by omega,fun w hw=>?_⟩
   rw[hs] at hw
   rcases acE.1 hw with hw | hw
   ·exact hall w hw
   ·simp at hw;subst hw;show d≤16;omega
 ·rintro (y:Nat) ⟨hy,hk,hall⟩
  have hl:(preS.xs x).length=(dJ 1 x).length:=ahn _
  rw[hl] at hy hk hall
  subst hy
  rw[acI] at hall
  refine dR (.one 0 (.alt 1 (.one 2 (.one 3 (.one 4 .done))) (.alt 2 (.one 1 (.one 3 (.one 4 .done))) .stop))) ?_
  refine ai ?_ (ai ?_ trivial)
  ·refine eN (nI x) ?_
   rw[nI,ahV hk hall]
   refine (ai rfl (ai ?_ rfl))
   ·show ((maxD ((dJ 1 x).take (dJ 1 x).length):Nat):Int)=_
    rw[acI]
  ·refine eN (nI x) ?_
   rw[nI,ahV hk hall]
   refine (ai rfl (ai ?_ rfl))
   ·show ((maxD ((dJ 1 x).take (dJ 1 x).length):Nat):Int)=_
    rw[acI]
def yS (o:Int):Nat:=if o=2 then 1 else if o=3∨o=4 then 2 else 0
def abr (o:Int):Nat:=if o=2 then 1 else if o=3∨o=4 then 256 else 0
def uN (o n:Int):Int:=if o=0 then 1 else if o=1 then n-1 else 0
def aK (x:Ex) (n:Int):Int:=
 if x.op<0∨5≤x.op then 1 else if x.args.length<yS x.op∨abr x.op<x.args.length then 3 else if x.idx<0∨uN x.op n<x.idx then 2 else 0
def evC (v:Bool):PV:=.fn 282 [.pt [bP v] 0]
def shC:List PV:=[iP 0,iP 0,.val .nilFunc,iP 0,iP 0,.val .nilFunc,iP 1,iP 1,evC false,iP 2,iP 256,evC true,iP 2,iP 256,.fn 265 []]
def au7:Spec:=bH (fun v:Bool=>[bA v]) (fun _=>True) (fun v=>evC v)
theorem ae3:ay Tryz.prog 264 au7:=by
 refine vF Tryz.func264 ?_
 rintro (v:Bool) hpre
 refine ai (ai (fun _=>trivial) ?_) trivial
 exact (ai rfl rfl)
def asc:Spec:=bH (fun _:Unit=>[]) (fun _=>True) (fun _=>.agg shC)
theorem jH:ay Tryz.prog 228 asc:=by
 refine vF Tryz.func228 ?_
 rintro ⟨⟩ hpre
 refine cK (ae3) (false) (by exact rfl) (trivial) ?_
 refine cK (ae3) (true) (by exact rfl) (trivial) ?_
 refine ai (ai (fun _=>(by exact (ai trivial (ai trivial (ai trivial (ai trivial (ai trivial (ai trivial (ai trivial (ai trivial (ai trivial (ai trivial (ai trivial (ai trivial (ai trivial (ai trivial trivial)))))))))))))))) ?_) trivial
 exact (ai rfl (ai rfl (ai rfl (ai rfl (ai rfl (ai rfl (ai rfl (ai rfl (ai (ai rfl rfl) (ai rfl (ai rfl (ai (ai rfl rfl) (ai rfl (ai rfl (ai rfl rfl)))))))))))))))
def avK:Spec:=bH (fun y:Ex×Int=>[jB y.1,iA y.2]) (fun y=>y.1.args.length≤1000000∧0≤y.2∧y.2≤256) (fun y=>iP (aK y.1 y.2))
theorem atn:ay Tryz.prog 227 avK:=by
 refine vF Tryz.func227 ?_
 rintro ⟨⟨o,i,l⟩,n⟩ hpre
 obtain ⟨hl,hn1,hn2⟩:=hpre
 have hl:l.length≤1000000:=hl
 have hn1:0≤n:=hn1
 have hn2:n≤256:=hn2
 refine ah (p:=o<0) (aB Iff.rfl) (fun h1=>?_) (fun h1=>?_)
 ·refine eN (iP (aK (.node o i l) n)) ?_
  rw[aK,if_pos (.inl h1)]
  exact rfl
 refine ah (p:=5≤o) (fZ Iff.rfl) (fun h2=>?_) (fun h2=>?_)
 ·refine eN (iP (aK (.node o i l) n)) ?_
  rw[aK,if_pos (.inr h2)]
  exact rfl
 have hA:aK (.node o i l) n=if l.length<yS o∨abr o<l.length then 3 else if i<0∨uN o n<i then 2 else 0:=by
  unfold aK
  rw[if_neg (by show ¬(o<0∨5≤o);omega)]
 have ho:o=0∨o=1∨o=2∨o=3∨o=4:=by omega
 rcases ho with rfl | rfl | rfl | rfl | rfl
 ·refine dR (.one 1 (.one 2 (.alt 0 (.one 3 (.one 4 (.one 5 .done))) (.alt 4 (.one 0 (.one 3 (.one 5 .done))) .stop)))) ?_
  refine ai ?_ (ai ?_ trivial)
  ·refine cK (jH) (()) (by exact trivial) (trivial) ?_
   refine ai (ai (by show (0:Int)≤0;decide) (by show (0:Int)<5;decide)) ?_
   have hA:aK (.node 0 i l) n=if l.length<0∨0<l.length then 3 else if i<0∨1<i then 2 else 0:=hA
   refine ah (p:=0<l.length) (aB (by dsimp only;omega)) (fun h4=>?_) (fun h4=>?_)
   ·refine eN (iP (aK (.node 0 i l) n)) ?_
    rw[hA,if_pos (.inr h4)]
    exact rfl
   rw[if_neg (fun h=>h.elim (aeo _) h4)] at hA
   refine ah (p:=i<0) (aB Iff.rfl) (fun h5=>?_) (fun h5=>?_)
   ·refine eN (iP (aK (.node 0 i l) n)) ?_
    rw[hA,if_pos (.inl h5)]
    exact rfl
   refine ah (p:=1<i) (by first | exact aB Iff.rfl | exact aB (by rw[ko (n:=n-1) (by omega) (by omega)])) (fun h6=>?_) (fun h6=>?_)
   ·refine eN (iP (aK (.node 0 i l) n)) ?_
    rw[hA,if_pos (.inr h6)]
    exact rfl
   ·refine eN (iP (aK (.node 0 i l) n)) ?_
    rw[hA,if_neg (fun h=>h.elim h5 h6)]
    exact rfl
  ·refine cK (jH) (()) (by exact trivial) (trivial) ?_
   refine ai (ai (by show (0:Int)≤0;decide) (by show (0:Int)<5;decide)) ?_
   have hA:aK (.node 0 i l) n=if l.length<0∨0<l.length then 3 else if i<0∨1<i then 2 else 0:=hA
   refine ah (p:=0<l.length) (aB (by dsimp only;omega)) (fun h4=>?_) (fun h4=>?_)
   ·refine eN (iP (aK (.node 0 i l) n)) ?_
    rw[hA,if_pos (.inr h4)]
    exact rfl
   rw[if_neg (fun h=>h.elim (aeo _) h4)] at hA
   refine ah (p:=i<0) (aB Iff.rfl) (fun h5=>?_) (fun h5=>?_)
   ·refine eN (iP (aK (.node 0 i l) n)) ?_
    rw[hA,if_pos (.inl h5)]
    exact rfl
   refine ah (p:=1<i) (by first | exact aB Iff.rfl | exact aB (by rw[ko (n:=n-1) (by omega) (by omega)])) (fun h6=>?_) (fun h6=>?_)
   ·refine eN (iP (aK (.node 0 i l) n)) ?_
    rw[hA,if_pos (.inr h6)]
    exact rfl
   ·refine eN (iP (aK (.node 0 i l) n)) ?_
    rw[hA,if_neg (fun h=>h.elim h5 h6)]
    exact rfl
 ·refine dR (.one 1 (.one 2 (.alt 0 (.one 3 (.one 4 (.one 5 .done))) (.alt 4 (.one 0 (.one 3 (.one 5 .done))) .stop)))) ?_
  refine ai ?_ (ai ?_ trivial)
  ·refine cK (jH) (()) (by exact trivial) (trivial) ?_
   refine ai (ai (by show (0:Int)≤1;decide) (by show (1:Int)<5;decide)) ?_
   have hA:aK (.node 1 i l) n=if l.length<0∨0<l.length then 3 else if i<0∨(n-1)<i then 2 else 0:=hA
   refine ah (p:=0<l.length) (aB (by dsimp only;omega)) (fun h4=>?_) (fun h4=>?_)
   ·refine eN (iP (aK (.node 1 i l) n)) ?_
    rw[hA,if_pos (.inr h4)]
    exact rfl
   rw[if_neg (fun h=>h.elim (aeo _) h4)] at hA
   refine ah (p:=i<0) (aB Iff.rfl) (fun h5=>?_) (fun h5=>?_)
   ·refine eN (iP (aK (.node 1 i l) n)) ?_
    rw[hA,if_pos (.inl h5)]
    exact rfl
   refine ah (p:=(n-1)<i) (by first | exact aB Iff.rfl | exact aB (by rw[ko (n:=n-1) (by omega) (by omega)])) (fun h6=>?_) (fun h6=>?_)
   ·refine eN (iP (aK (.node 1 i l) n)) ?_
    rw[hA,if_pos (.inr h6)]
    exact rfl
   ·refine eN (iP (aK (.node 1 i l) n)) ?_
    rw[hA,if_neg (fun h=>h.elim h5 h6)]
    exact rfl
  ·refine cK (jH) (()) (by exact trivial) (trivial) ?_
   refine ai (ai (by show (0:Int)≤1;decide) (by show (1:Int)<5;decide)) ?_
   have hA:aK (.node 1 i l) n=if l.length<0∨0<l.length then 3 else if i<0∨(n-1)<i then 2 else 0:=hA
   refine ah (p:=0<l.length) (aB (by dsimp only;omega)) (fun h4=>?_) (fun h4=>?_)
   ·refine eN (iP (aK (.node 1 i l) n)) ?_
    rw[hA,if_pos (.inr h4)]
    exact rfl
   rw[if_neg (fun h=>h.elim (aeo _) h4)] at hA
   refine ah (p:=i<0) (aB Iff.rfl) (fun h5=>?_) (fun h5=>?_)
   ·refine eN (iP (aK (.node 1 i l) n)) ?_
    rw[hA,if_pos (.inl h5)]
    exact rfl
   refine ah (p:=(n-1)<i) (by first | exact aB Iff.rfl | exact aB (by rw[ko (n:=n-1) (by omega) (by omega)])) (fun h6=>?_) (fun h6=>?_)
   ·refine eN (iP (aK (.node 1 i l) n)) ?_
    rw[hA,if_pos (.inr h6)]
    exact rfl
   ·refine eN (iP (aK (.node 1 i l) n)) ?_
    rw[hA,if_neg (fun h=>h.elim h5 h6)]
    exact rfl
 ·refine dR (.one 1 (.one 2 (.alt 0 (.one 3 (.one 4 (.one 5 .done))) (.alt 4 (.one 0 (.one 3 (.one 5 .done))) .stop)))) ?_
  refine ai ?_ (ai ?_ trivial)
  ·refine cK (jH) (()) (by exact trivial) (trivial) ?_
   refine ai (ai (by show (0:Int)≤2;decide) (by show (2:Int)<5;decide)) ?_
   have hA:aK (.node 2 i l) n=if l.length<1∨1<l.length then 3 else if i<0∨0<i then 2 else 0:=hA
   refine ah (p:=l.length<1) (aB (by dsimp only;omega)) (fun h3=>?_) (fun h3=>?_)
   ·refine eN (iP (aK (.node 2 i l) n)) ?_
    rw[hA,if_pos (.inl h3)]
    exact rfl
   refine ah (p:=1<l.length) (aB (by dsimp only;omega)) (fun h4=>?_) (fun h4=>?_)
   ·refine eN (iP (aK (.node 2 i l) n)) ?_
    rw[hA,if_pos (.inr h4)]
    exact rfl
   rw[if_neg (fun h=>h.elim h3 h4)] at hA
   refine ah (p:=i<0) (aB Iff.rfl) (fun h5=>?_) (fun h5=>?_)
   ·refine eN (iP (aK (.node 2 i l) n)) ?_
    rw[hA,if_pos (.inl h5)]
    exact rfl
   skip
   refine ah (p:=0<i) (aB Iff.rfl) (fun h6=>?_) (fun h6=>?_)
   ·refine eN (iP (aK (.node 2 i l) n)) ?_
    rw[hA,if_pos (.inr h6)]
    exact rfl
   ·refine eN (iP (aK (.node 2 i l) n)) ?_
    rw[hA,if_neg (fun h=>h.elim h5 h6)]
    exact rfl
  ·refine cK (jH) (()) (by exact trivial) (trivial) ?_
   refine ai (ai (by show (0:Int)≤2;decide) (by show (2:Int)<5;decide)) ?_
   have hA:aK (.node 2 i l) n=if l.length<1∨1<l.length then 3 else if i<0∨0<i then 2 else 0:=hA
   refine ah (p:=l.length<1) (aB (by dsimp only;omega)) (fun h3=>?_) (fun h3=>?_)
   ·refine eN (iP (aK (.node 2 i l) n)) ?_
    rw[hA,if_pos (.inl h3)]
    exact rfl
   refine ah (p:=1<l.length) (aB (by dsimp only;omega)) (fun h4=>?_) (fun h4=>?_)
   ·refine eN (iP (aK (.node 2 i l) n)) ?_
    rw[hA,if_pos (.inr h4)]
    exact rfl
   rw[if_neg (fun h=>h.elim h3 h4)] at hA
   refine ah (p:=i<0) (aB Iff.rfl) (fun h5=>?_) (fun h5=>?_)
   ·refine eN (iP (aK (.node 2 i l) n)) ?_
    rw[hA,if_pos (.inl h5)]
    exact rfl
   skip
   refine ah (p:=0<i) (aB Iff.rfl) (fun h6=>?_) (fun h6=>?_)
   ·refine eN (iP (aK (.node 2 i l) n)) ?_
    rw[hA,if_pos (.inr h6)]
    exact rfl
   ·refine eN (iP (aK (.node 2 i l) n)) ?_
    rw[hA,if_neg (fun h=>h.elim h5 h6)]
    exact rfl
 ·refine dR (.one 1 (.one 2 (.alt 0 (.one 3 (.one 4 (.one 5 .done))) (.alt 4 (.one 0 (.one 3 (.one 5 .done))) .stop)))) ?_
  refine ai ?_ (ai ?_ trivial)
  ·refine cK (jH) (()) (by exact trivial) (trivial) ?_
   refine ai (ai (by show (0:Int)≤3;decide) (by show (3:Int)<5;decide)) ?_
   have hA:aK (.node 3 i l) n=if l.length<2∨256<l.length then 3 else if i<0∨0<i then 2 else 0:=hA
   refine ah (p:=l.length<2) (aB (by dsimp only;omega)) (fun h3=>?_) (fun h3=>?_)
   ·refine eN (iP (aK (.node 3 i l) n)) ?_
    rw[hA,if_pos (.inl h3)]
    exact rfl
   refine ah (p:=256<l.length) (aB (by dsimp only;omega)) (fun h4=>?_) (fun h4=>?_)
   ·refine eN (iP (aK (.node 3 i l) n)) ?_
    rw[hA,if_pos (.inr h4)]
    exact rfl
   rw[if_neg (fun h=>h.elim h3 h4)] at hA
   refine ah (p:=i<0) (aB Iff.rfl) (fun h5=>?_) (fun h5=>?_)
   ·refine eN (iP (aK (.node 3 i l) n)) ?_
    rw[hA,if_pos (.inl h5)]
    exact rfl
   skip
   refine ah (p:=0<i) (aB Iff.rfl) (fun h6=>?_) (fun h6=>?_)
   ·refine eN (iP (aK (.node 3 i l) n)) ?_
    rw[hA,if_pos (.inr h6)]
    exact rfl
   ·refine eN (iP (aK (.node 3 i l) n)) ?_
    rw[hA,if_neg (fun h=>h.elim h5 h6)]
    exact rfl
  ·refine cK (jH) (()) (by exact trivial) (trivial) ?_
   refine ai (ai (by show (0:Int)≤3;decide) (by show (3:Int)<5;decide)) ?_
   have hA:aK (.node 3 i l) n=if l.length<2∨256<l.length then 3 else if i<0∨0<i then 2 else 0:=hA
   refine ah (p:=l.length<2) (aB (by dsimp only;omega)) (fun h3=>?_) (fun h3=>?_)
   ·refine eN (iP (aK (.node 3 i l) n)) ?_
    rw[hA,if_pos (.inl h3)]
    exact rfl
   refine ah (p:=256<l.length) (aB (by dsimp only;omega)) (fun h4=>?_) (fun h4=>?_)
   ·refine eN (iP (aK (.node 3 i l) n)) ?_
    rw[hA,if_pos (.inr h4)]
    exact rfl
   rw[if_neg (fun h=>h.elim h3 h4)] at hA
   refine ah (p:=i<0) (aB Iff.rfl) (fun h5=>?_) (fun h5=>?_)
   ·refine eN (iP (aK (.node 3 i l) n)) ?_
    rw[hA,if_pos (.inl h5)]
    exact rfl
   skip
   refine ah (p:=0<i) (aB Iff.rfl) (fun h6=>?_) (fun h6=>?_)
   ·refine eN (iP (aK (.node 3 i l) n)) ?_
    rw[hA,if_pos (.inr h6)]
    exact rfl
   ·refine eN (iP (aK (.node 3 i l) n)) ?_
    rw[hA,if_neg (fun h=>h.elim h5 h6)]
    exact rfl
 ·refine dR (.one 1 (.one 2 (.alt 0 (.one 3 (.one 4 (.one 5 .done))) (.alt 4 (.one 0 (.one 3 (.one 5 .done))) .stop)))) ?_
  refine ai ?_ (ai ?_ trivial)
  ·refine cK (jH) (()) (by exact trivial) (trivial) ?_
   refine ai (ai (by show (0:Int)≤4;decide) (by show (4:Int)<5;decide)) ?_
   have hA:aK (.node 4 i l) n=if l.length<2∨256<l.length then 3 else if i<0∨0<i then 2 else 0:=hA
   refine ah (p:=l.length<2) (aB (by dsimp only;omega)) (fun h3=>?_) (fun h3=>?_)
   ·refine eN (iP (aK (.node 4 i l) n)) ?_
    rw[hA,if_pos (.inl h3)]
    exact rfl
   refine ah (p:=256<l.length) (aB (by dsimp only;omega)) (fun h4=>?_) (fun h4=>?_)
   ·refine eN (iP (aK (.node 4 i l) n)) ?_
    rw[hA,if_pos (.inr h4)]
    exact rfl
   rw[if_neg (fun h=>h.elim h3 h4)] at hA
   refine ah (p:=i<0) (aB Iff.rfl) (fun h5=>?_) (fun h5=>?_)
   ·refine eN (iP (aK (.node 4 i l) n)) ?_
    rw[hA,if_pos (.inl h5)]
    exact rfl
   skip
   refine ah (p:=0<i) (aB Iff.rfl) (fun h6=>?_) (fun h6=>?_)
   ·refine eN (iP (aK (.node 4 i l) n)) ?_
    rw[hA,if_pos (.inr h6)]
    exact rfl
   ·refine eN (iP (aK (.node 4 i l) n)) ?_
    rw[hA,if_neg (fun h=>h.elim h5 h6)]
    exact rfl
  ·refine cK (jH) (()) (by exact trivial) (trivial) ?_
   refine ai (ai (by show (0:Int)≤4;decide) (by show (4:Int)<5;decide)) ?_
   have hA:aK (.node 4 i l) n=if l.length<2∨256<l.length then 3 else if i<0∨0<i then 2 else 0:=hA
   refine ah (p:=l.length<2) (aB (by dsimp only;omega)) (fun h3=>?_) (fun h3=>?_)
   ·refine eN (iP (aK (.node 4 i l) n)) ?_
    rw[hA,if_pos (.inl h3)]
    exact rfl
   refine ah (p:=256<l.length) (aB (by dsimp only;omega)) (fun h4=>?_) (fun h4=>?_)
   ·refine eN (iP (aK (.node 4 i l) n)) ?_
    rw[hA,if_pos (.inr h4)]
    exact rfl
   rw[if_neg (fun h=>h.elim h3 h4)] at hA
   refine ah (p:=i<0) (aB Iff.rfl) (fun h5=>?_) (fun h5=>?_)
   ·refine eN (iP (aK (.node 4 i l) n)) ?_
    rw[hA,if_pos (.inl h5)]
    exact rfl
   skip
   refine ah (p:=0<i) (aB Iff.rfl) (fun h6=>?_) (fun h6=>?_)
   ·refine eN (iP (aK (.node 4 i l) n)) ?_
    rw[hA,if_pos (.inr h6)]
    exact rfl
   ·refine eN (iP (aK (.node 4 i l) n)) ?_
    rw[hA,if_neg (fun h=>h.elim h5 h6)]
    exact rfl
def fA (l:List (Nat×Ex)) (n:Int):Int:=((l.map fun y=>aK y.2 n).find? (fun e=>e != 0)).getD 0
def bf (x:Ex) (n:Int):Int:=if n<0∨256<n then 2 else if x.size≤256∧x.deep≤16 then fA (dJ 1 x) n else 5
theorem ah8 {α:Type} {p:α→Bool}:∀{l:List α} {k:Nat},(∀j,j<k→∀y,l[j]?=some y→p y=false)→∀{y:α},l[k]?=some y→p y=true→l.find? p=some y
 | [],k,_,y,h,_=>by simp at h
 | z :: l,0,_,y,h,hp=>by simp at h;subst h;simp[hp]
 | z :: l,k+1,hs,y,h,hp=>by
  have h0:=hs 0 (by omega) z rfl
  rw[List.find?_cons,h0]
  exact ah8 (k:=k) (fun j hj y hy=>hs (j+1) (by omega) y (by simpa using hy)) (by simpa using h) hp
theorem ahP {l:List (Nat×Ex)} {n:Int} {k d:Nat} {x:Ex} (h0:∀z∈l.take k,aK z.2 n=0) (h:l[k]?=some (d,x)) (hn:aK x n≠0):fA l n=aK x n:=by
 unfold fA
 rw[ah8 (k:=k) (y:=aK x n)]
 ·rfl
 ·intro j hj y hy
  rw[alh] at hy
  cases hc:l[j]? with
  | none=>rw[hc] at hy;simp at hy
  | some z=>
   rw[hc] at hy;simp at hy;subst hy
   have:z∈l.take k:=by
    have:(l.take k)[j]?=some z:=by rw[auL];simp[hj,hc]
    exact aa0 this
   simp[h0 z this]
 ·rw[alh,h];rfl
 ·simpa using hn
theorem aaK {l:List (Nat×Ex)} {n:Int} (h0:∀z∈l,aK z.2 n=0):fA l n=0:=by
 unfold fA
 rw[axS.2]
 ·rfl
 ·intro y hy
  obtain ⟨z,hz,rfl⟩:=aup.1 hy
  simp[h0 z hz]
theorem afR {l:List (Nat×Ex)} {n:Int}:fA l n=0↔∀z∈l,aK z.2 n=0:=by
 constructor
 ·intro h z hz
  refine Classical.byContradiction fun hne=>?_
  unfold fA at h
  cases hf:(l.map fun y=>aK y.2 n).find? (fun e=>e != 0) with
  | none=>
   have:=axS.1 hf (aK z.2 n) (List.mem_map_of_mem hz)
   simp at this;exact hne this
  | some e=>
   rw[hf] at h
   have:=List.find?_some hf
   simp at h;simp[h] at this
 ·exact aaK
mutual
theorem aiX:∀(x:Ex) (d:Nat) (z:Nat×Ex),z∈dJ d x→z.2.size≤x.size
 | .node o i l,d,z,h=>by
  rw[vD] at h
  rcases ahy.1 h with rfl | h
  ·exact abm _
  ·unfold iU at h
   rw[Ex.size]
   split at h
   ·have:=ahL l (d+1) z h;omega
   ·simp at h
theorem ahL:∀(l:List Ex) (d:Nat) (z:Nat×Ex),z∈iw d l→z.2.size≤sizes l
 | [],d,z,h=>by rw[iw] at h;simp at h
 | x :: l,d,z,h=>by
  rw[iw] at h
  rw[sizes]
  rcases acE.1 h with h | h
  ·have:=aiX x d z h;omega
  ·have:=ahL l d z h;omega
end
theorem aby (x:Ex):x.args.length<x.size:=by rw[x.size_eq];have:=oU x.args;omega
def au8:Spec:=bH (fun y:Ex×Int=>[jB y.1,iA y.2]) (fun y=>y.1.size≤1000000) (fun y=>iP (bf y.1 y.2))
theorem qR:ay Tryz.prog 179 au8:=by
 refine vF Tryz.func179 ?_
 rintro ⟨x,n⟩ hpre
 have hpre:x.size≤1000000:=hpre
 refine bL (n<0) (fun h1=>?_) fun h1=>?_
 ·refine eN (iP (bf x n)) ?_
  rw[bf,if_pos (.inl h1)]
  exact rfl
 refine bL (256<n) (fun h2=>?_) fun h2=>?_
 ·refine eN (iP (bf x n)) ?_
  rw[bf,if_pos (.inr h2)]
  exact rfl
 have hA:bf x n=if x.size≤256∧x.deep≤16 then fA (dJ 1 x) n else 5:=by
  unfold bf;rw[if_neg (fun h=>h.elim h1 h2)]
 by_cases hm:x.size≤256∧x.deep≤16
 ·have e1:nI x=.tup [iP x.size,iP x.deep,bP true]:=by unfold nI xU;rw[if_pos hm]
  rw[if_pos hm] at hA
  refine cK ((wF adH x hpre e1)) (()) (by exact (ai rfl (ai rfl (ai rfl (fun _ _=>rfl))))) (trivial) ?_
  refine cK (ao7) (x) (by exact (ai rfl (ai rfl (ai rfl (fun _ _=>rfl))))) (trivial) ?_
  refine ai (ai rfl rfl) (ei preS (ai ajB (ei x (ai ?_ (ai hpre (ai aoK (ei { X:=Nat,uo:=fun k=>[],inv:=fun k y=>y=k∧∀z∈(dJ 1 x).take k,aK z.2 n=0,x0:=0 } (ai ?_ (ai ?_ (ai ?_ (ai ?_ ?_)))))))))))
  ·exact (ai rfl rfl)
  ·exact (ai rfl (ai rfl (ai rfl rfl)))
  ·exact trivial
  ·exact ⟨rfl,by simp⟩
  ·rintro k (y:Nat) vs ⟨hy,hall⟩ hvs
   subst hy
   obtain ⟨d,z,hg,rfl⟩:=anE hvs
   have hz:=aa0 hg
   have hzs:z.size≤x.size:=aiX x 1 _ hz
   have hza:=aby z
   refine cK (atn) ((z,n)) (by exact (ai (ai rfl (ai rfl (ai rfl (fun _ _=>rfl)))) rfl)) (⟨by show z.args.length≤1000000;omega,by show 0≤n;omega,by show n≤256;omega⟩) ?_
   refine aX (p:=aK z n=0) (bK (by dsimp only;omega)) (fun h3=>?_) (fun h3=>?_)
   ·refine eN (iP (bf x n)) ?_
    rw[hA,ahP hall hg h3]
    exact rfl
   refine ei (y+1) (ai rfl (ai (ai (ai rfl rfl) (ai (ai rfl rfl) ?_)) ⟨rfl,?_⟩))
   ·exact trivial
   ·intro w hw
    have hs:(dJ 1 x).take (y+1)=(dJ 1 x).take y++[(d,z)]:=by rw[axq,hg];rfl
    rw[hs] at hw
    rcases acE.1 hw with hw | hw
    ·exact hall w hw
    ·simp at hw;subst hw;exact h3
  ·rintro (y:Nat) ⟨hy,hall⟩
   have hl:(preS.xs x).length=(dJ 1 x).length:=ahn _
   rw[hl] at hy hall
   subst hy
   rw[acI] at hall
   refine eN (iP (bf x n)) ?_
   rw[hA,aaK hall]
   exact rfl
 ·have e1:nI x=.tup [iP 0,iP 0,bP false]:=by unfold nI xU;rw[if_neg hm]
  rw[if_neg hm] at hA
  refine cK ((wF adH x hpre e1)) (()) (by exact (ai rfl (ai rfl (ai rfl (fun _ _=>rfl))))) (trivial) ?_
  refine eN (iP (bf x n)) ?_
  rw[hA]
  exact rfl
mutual
def fV (vs:List Bool):Ex→Bool
 | .node o i l=>if o=0 then decide (i=1) else if o=1 then vs.getD i.toNat false else if o=2 then (ab0 vs l).all (·==false) else if o=3 then (ab0 vs l).all (·==true) else !(ab0 vs l).all (·==false)
def ab0 (vs:List Bool):List Ex→List Bool
 | []=>[]
 | x :: l=>fV vs x :: ab0 vs l
end
theorem aht (vs:List Bool):∀l:List Ex,ab0 vs l=l.map (fV vs)
 | []=>by rw[ab0];rfl
 | x :: l=>by rw[ab0,aht vs l];rfl
theorem asi (vs:List Bool) (o i:Int) (l:List Ex):fV vs (.node o i l)=if o=0 then decide (i=1) else if o=1 then vs.getD i.toNat false else if o=2 then (l.map (fV vs)).all (·==false) else if o=3 then (l.map (fV vs)).all (·==true) else !(l.map (fV vs)).all (·==false):=by
 rw[fV,aht]
mutual
def jU (n:Int):Ex→Prop
 | .node o i l=>aK (.node o i l) n=0∧wO n l
def wO (n:Int):List Ex→Prop
 | []=>True
 | x :: l=>jU n x∧wO n l
end
theorem af3 (n:Int):∀l:List Ex,wO n l↔∀x∈l,jU n x
 | []=>by rw[wO];simp
 | x :: l=>by rw[wO,af3 n l];simp
theorem qO (n:Int) (x:Ex):jU n x↔aK x n=0∧∀y∈x.args,jU n y:=by
 cases x;rw[jU,af3]
mutual
theorem ajA (n:Int):∀(x:Ex) (d:Nat),x.deep+d≤17→((∀z∈dJ d x,aK z.2 n=0)↔jU n x)
 | .node o i l,d,h=>by
  rw[Ex.deep] at h
  rw[vD,jU]
  unfold iU
  rw[if_pos (by omega),←ahE n l (d+1) (by omega)]
  constructor
  ·exact fun h=>⟨h _ auO,fun z hz=>h z (arP _ hz)⟩
  ·rintro ⟨h1,h2⟩ z hz
   rcases ahy.1 hz with rfl | hz
   ·exact h1
   ·exact h2 z hz
theorem ahE (n:Int):∀(l:List Ex) (d:Nat),gN l+d≤17→((∀z∈iw d l,aK z.2 n=0)↔wO n l)
 | [],d,h=>by rw[iw,wO];simp
 | x :: l,d,h=>by
  rw[gN] at h
  rw[iw,wO,←ajA n x d (by omega),←ahE n l d (by omega)]
  constructor
  ·exact fun h=>⟨fun z hz=>h z (axM _ hz),fun z hz=>h z (axF _ hz)⟩
  ·rintro ⟨h1,h2⟩ z hz
   rcases acE.1 hz with hz | hz
   ·exact h1 z hz
   ·exact h2 z hz
end
theorem eO {x:Ex} {n:Int}:bf x n=0↔(0≤n∧n≤256)∧(x.size≤256∧x.deep≤16)∧jU n x:=by
 unfold bf
 by_cases h1:n<0∨256<n
 ·rw[if_pos h1]
  constructor
  ·intro h;exact absurd h (by decide)
  ·rintro ⟨h,_⟩;omega
 ·rw[if_neg h1]
  by_cases h2:x.size≤256∧x.deep≤16
  ·rw[if_pos h2,afR,ajA n x 1 (by omega)]
   exact ⟨fun h=>⟨by omega,h2,h⟩,fun h=>h.2.2⟩
  ·rw[if_neg h2]
   constructor
   ·intro h;exact absurd h (by decide)
   ·rintro ⟨_,h,_⟩;exact absurd h h2
def aiy (a:Ex×List Bool):Prop:=jU a.2.length a.1∧a.1.size≤256∧a.2.length≤256
def evS:Spec:=bH (fun a:Ex×List Bool=>[jB a.1,rX a.2]) aiy (fun a=>bP (fV a.2 a.1))
def evN (n:Nat):Spec:={ evS with pre:=fun a=>evS.pre a∧a.1.size≤n }
def arD (a:Ex×List Bool):PV:=.fn 229 [.pt (kC a.1) 0,.pt [kD a.2] 0]
def agp (n:Nat):ug:={ A:=Ex×List Bool,capt:=fun a=>[.pt (kC a.1) 0,.pt [kD a.2] 0],pre:=fun a=>aiy a∧a.1.size≤n+1,xs:=fun a=>a.1.args.map fun y=>[bP (fV a.2 y)] }
theorem aoP (n:Nat) (ih:ay Tryz.prog 180 (evN n)):aga Tryz.prog 229 (agp n):=by
 refine av1 (Tb:=tab) mixed gJ Tryz.func229 rfl rfl ?_
 rintro (a:Ex×List Bool) hpre
 refine ai rfl ?_
 obtain ⟨⟨hg,hs,hv⟩,hn⟩:=hpre
 have hn:a.1.size≤n+1:=hn
 have hal:=aby a.1
 intro l
 refine ei (mg.inv { X:=Nat,up:=fun k=>[(9,.s (iA k))],uo:=fun _=>[],inv:=fun k=>k≤a.1.args.length,meas:=fun k=>a.1.args.length-k,x0:=0,cnt:=fun k=>some k }) ?_
 refine ai (ai (ai (by exact (a4 (ai rfl rfl))) (by exact (ai (ai (ai (fun _=>rfl) rfl) rfl) trivial))) rfl) (ai ?_ ?_)
 ·exact akx _
 intro (k:Nat) (hk:k≤a.1.args.length)
 refine bL (k<a.1.args.length) (fun h1=>?_) fun h1=>?_
 ·refine ai (ai (aa1 _) (by show (k:Int)<(a.1.args.length:Int);omega)) ?_
  have hy:a.1.args.getD k bM∈a.1.args:=aa0 (acd h1)
  have hys:(a.1.args.getD k bM).size≤n:=by have:=jd hy;have:=a.1.size_eq;omega
  refine ai rfl ?_
  refine cK (ih) ((a.1.args.getD k bM,a.2)) (by exact (ai (ai (iE (by simp only[zz,reduceCtorEq])) (ai (iE (by simp only[zz,reduceCtorEq])) (ai rfl (xA _)))) (ai rfl (fun _ _=>rfl)))) (ai ⟨((qO _ _).1 hg).2 _ hy,by show (a.1.args.getD k bM).size≤256;have:=jd hy;have:=a.1.size_eq;omega,hv⟩ hys) ?_
  refine ai rfl (ei [bP (fV a.2 (a.1.args.getD k bM))] (ai ?_ (ai ?_ (ai ?_ ?_))))
  ·show (a.1.args.map fun y=>[bP (fV a.2 y)])[k]?=_
   rw[alh,acd h1];rfl
  ·exact (ai trivial rfl)
  ·refine ei (k+1) (ai (ai rfl rfl) (ai (ai ?_ ?_) (ai ?_ ?_)))
   ·exact (ai rfl (ai (ai rfl rfl) (ai (ai rfl rfl) (ai (ai (ai (fun _=>rfl) (aH (by omega))) rfl) trivial))))
   ·rfl
   ·show k+1≤a.1.args.length;omega
   ·show a.1.args.length-(k+1)<a.1.args.length-k;omega
  ·exact ai trivial trivial
 ·obtain rfl:k=a.1.args.length:=by omega
  refine ai trivial ?_
  show a.1.args.length=(a.1.args.map fun y=>[bP (fV a.2 y)]).length
  simp
def atc (n:Nat):Spec:=bH (fun b:(Ex×List Bool)×Bool=>[.p false (arD b.1),.p false (.pt [bP b.2] 0)]) (fun b=>aiy b.1∧b.1.1.size≤n+1) (fun b=>bP ((b.1.1.args.map (fV b.1.2)).all (·==b.2)))
theorem asF {l:List Bool} {v x:Bool} {k:Nat} (h:l[k]?=some x) (hx:x≠v):l.all (·==v)=false:=by
 rw[atX]
 exact ⟨x,aa0 h,by simpa using hx⟩
theorem adf (n:Nat) (ih:ay Tryz.prog 180 (evN n)):ay Tryz.prog 282 (atc n):=by
 refine vF Tryz.func282 ?_
 rintro (b:(Ex×List Bool)×Bool) hpre
 have hlen:∀w∈(agp n).xs b.1,w.length=1:=fun w hw=>by obtain ⟨y,_,rfl⟩:=aup.1 hw;rfl
 refine ai (ai rfl rfl) (ei (agp n) (ai (aoP n ih) (ei b.1 (ai ?_ (ai hpre (ai hlen (ei { X:=Nat,uo:=fun k=>[],inv:=fun k y=>y=k∧∀z∈(b.1.1.args.map (fV b.1.2)).take k,z=b.2,x0:=0 } (ai ?_ (ai ?_ (ai ?_ (ai ?_ ?_)))))))))))
 ·exact (ai (ai rfl rfl) (ai rfl rfl))
 ·exact (ai rfl (ai rfl (ai rfl rfl)))
 ·exact trivial
 ·exact ⟨rfl,by simp⟩
 ·rintro k (y:Nat) vs ⟨hy,hall⟩ hvs
  subst hy
  have hvs:(b.1.1.args.map fun y=>[bP (fV b.1.2 y)])[y]?=some vs:=hvs
  rw[alh] at hvs
  cases hc:b.1.1.args[y]? with
  | none=>rw[hc] at hvs;cases hvs
  | some c=>
   rw[hc] at hvs
   simp only[apr,Option.some.injEq] at hvs
   subst hvs
   have hg:(b.1.1.args.map (fV b.1.2))[y]?=some (fV b.1.2 c):=by rw[alh,hc];rfl
   refine aX (p:=fV b.1.2 c=b.2) (by exact (arR.1 rfl).trans bne_iff_ne) (fun h3=>?_) (fun h3=>?_)
   ·refine eN (bP ((b.1.1.args.map (fV b.1.2)).all (·==b.2))) ?_
    rw[asF hg h3]
    exact rfl
   refine ei (y+1) (ai rfl (ai (ai (ai rfl rfl) (ai (ai rfl rfl) ?_)) ⟨rfl,?_⟩))
   ·exact trivial
   ·intro w hw
    rw[axq,hg] at hw
    rcases acE.1 hw with hw | hw
    ·exact hall w hw
    ·simp at hw;subst hw;exact h3
 ·rintro (y:Nat) ⟨hy,hall⟩
  have hl:((agp n).xs b.1).length=(b.1.1.args.map (fV b.1.2)).length:=(ahn _).trans (ahn _).symm
  rw[hl] at hy hall
  subst hy
  rw[acI] at hall
  refine eN (bP ((b.1.1.args.map (fV b.1.2)).all (·==b.2))) ?_
  rw[aot.2 (fun z hz=>by simp[hall z hz])]
  exact rfl
def ar5 (n:Nat):Spec:=bH (fun b:Ex×List Bool=>[.p false (arD b)]) (fun b=>aiy b∧b.1.size≤n+1) (fun b=>bP (!(b.1.args.map (fV b.2)).all (·==false)))
theorem an6 (n:Nat) (ih:ay Tryz.prog 180 (evN n)):ay Tryz.prog 265 (ar5 n):=by
 refine vF Tryz.func265 ?_
 rintro (b:Ex×List Bool) hpre
 refine cK (ae3) (false) (by exact rfl) (trivial) ?_
 refine cK (adf n ih) ((b,false)) (by exact (ai (ai rfl rfl) (ai rfl rfl))) (hpre) ?_
 refine eN _ ?_
 exact rfl
theorem uW {x:Ex} {n:Int} (h:aK x n=0):(0≤x.op∧x.op<5)∧(yS x.op≤x.args.length∧x.args.length≤abr x.op)∧(0≤x.idx∧x.idx≤uN x.op n):=by
 unfold aK at h
 split at h
 ·exact absurd h (by decide)
 ·split at h
  ·exact absurd h (by decide)
  ·split at h
   ·exact absurd h (by decide)
   ·omega
theorem anF:∀n,ay Tryz.prog 180 (evN n)
 | 0=>by
  refine vI [3000024] Tryz.func180 ?_
  rintro (a:Ex×List Bool) hpre
  have:=size_pos a.1
  exact absurd hpre.2 (by show ¬a.1.size≤0;omega)
 | n+1=>by
  have ih:=anF n
  refine vI [3000024] Tryz.func180 ?_
  rintro (a:Ex×List Bool) hpre
  obtain ⟨hev,hn⟩:=hpre
  have hg:jU a.2.length a.1:=hev.1
  obtain ⟨hn0,-⟩:=(qO _ _).1 hg
  obtain ⟨ho,-,hi⟩:=uW hn0
  have hA:fV a.2 a.1=if a.1.op=0 then decide (a.1.idx=1) else if a.1.op=1 then a.2.getD a.1.idx.toNat false else if a.1.op=2 then (a.1.args.map (fV a.2)).all (·==false) else if a.1.op=3 then (a.1.args.map (fV a.2)).all (·==true) else !(a.1.args.map (fV a.2)).all (·==false):=by
   obtain ⟨⟨o,i,l⟩,vs⟩:=a;exact asi vs o i l
  refine bE (a.1.op=0) (fun h0=>?_) fun h0=>?_
  ·refine eN (bP (fV a.2 a.1)) ?_
   rw[hA,if_pos h0]
   exact rfl
  rw[if_neg h0] at hA
  refine bE (a.1.op=1) (fun h1=>?_) fun h1=>?_
  ·have ht:uN a.1.op a.2.length=a.2.length-1:=by rw[h1];rfl
   rw[ht] at hi
   refine ai (ai hi.1 (by show a.1.idx<(a.2.length:Int);omega)) ?_
   refine ai rfl ?_
   refine eN (bP (fV a.2 a.1)) ?_
   rw[hA,if_pos h1]
   exact rfl
  rw[if_neg h1] at hA
  obtain ⟨⟨o,i,l⟩,vs⟩:=a
  have hA:fV vs (.node o i l)=if o=2 then (l.map (fV vs)).all (·==false) else if o=3 then (l.map (fV vs)).all (·==true) else !(l.map (fV vs)).all (·==false):=hA
  have ho2:o=2∨o=3∨o=4:=by
   have h0:¬o=0:=h0
   have h1:¬o=1:=h1
   have ho:0≤o∧o<5:=ho
   omega
  refine dR (.seq [1,2,5,0,3,4,6,7]) ?_
  rcases ho2 with rfl | rfl | rfl
  ·refine cK (jH) (()) (by exact trivial) (trivial) ?_
   refine ai ho ?_
   refine cK (adf n ih) (((.node 2 i l,vs),false)) (by exact (ai (ai rfl rfl) (ai rfl rfl))) (ai hev hn) ?_
   refine eN (bP (fV vs (.node 2 i l))) ?_
   rw[hA,if_pos rfl]
   exact rfl
  ·refine cK (jH) (()) (by exact trivial) (trivial) ?_
   refine ai ho ?_
   refine cK (adf n ih) (((.node 3 i l,vs),true)) (by exact (ai (ai rfl rfl) (ai rfl rfl))) (ai hev hn) ?_
   refine eN (bP (fV vs (.node 3 i l))) ?_
   rw[hA,if_neg (show ¬(3:Int)=2 by decide),if_pos rfl]
   exact rfl
  ·refine cK (jH) (()) (by exact trivial) (trivial) ?_
   refine ai ho ?_
   refine cK (an6 n ih) ((.node 4 i l,vs)) (by exact (ai rfl rfl)) (ai hev hn) ?_
   refine eN (bP (fV vs (.node 4 i l))) ?_
   rw[hA,if_neg (show ¬(4:Int)=2 by decide),if_neg (show ¬(4:Int)=3 by decide)]
   exact rfl
theorem asx:ay Tryz.prog 180 evS:=nJ (fun a=>a.1.size) anF
def eu (x:Ex) (vs:List Bool):Bool×Int:=if bf x vs.length=0 then (fV vs x,0) else (false,bf x vs.length)
def av0:Spec:=bH (fun a:Ex×List Bool=>[jB a.1,rX a.2]) (fun a=>a.1.size≤1000000) (fun a=>.tup [bP (eu a.1 a.2).1,iP (eu a.1 a.2).2])
theorem vR:ay Tryz.prog 122 av0:=by
 refine vF Tryz.func122 ?_
 rintro (a:Ex×List Bool) hpre
 refine cK (qR) ((a.1,(a.2.length:Int))) (by exact (ai (ai rfl (ai rfl (ai rfl (fun _ _=>rfl)))) rfl)) (hpre) ?_
 refine aX (p:=bf a.1 a.2.length=0) (bK (by dsimp only;omega)) (fun h1=>?_) (fun h1=>?_)
 ·have e:eu a.1 a.2=(false,bf a.1 a.2.length):=if_neg h1
  refine eN (.tup [bP (eu a.1 a.2).1,iP (eu a.1 a.2).2]) ?_
  rw[e]
  exact (ai rfl rfl)
 have e:eu a.1 a.2=(fV a.2 a.1,0):=if_pos h1
 obtain ⟨h2,h3,h4⟩:=eO.1 h1
 refine cK (asx) (a) (by exact (ai (ai rfl (ai rfl (ai rfl (fun _ _=>rfl)))) (ai rfl (fun _ _=>rfl)))) (⟨h4,h3.1,by omega⟩) ?_
 refine eN (.tup [bP (eu a.1 a.2).1,iP (eu a.1 a.2).2]) ?_
 rw[e]
 exact (ai rfl rfl)
theorem qx:∀(a b:List Ex),sizes (a++b)=sizes a+sizes b
 | [],b=>by rw[sizes,List.nil_append];omega
 | x :: a,b=>by rw[List.cons_append,sizes,sizes,qx a b];omega
theorem afX {l:List Ex} {k:Nat} (h:k<l.length):sizes (l.take (k+1))=sizes (l.take k)+(l.getD k bM).size:=by
 rw[aQ bM h,qx];show _+(_+sizes [])=_;rw[sizes];rfl
theorem amV (l:List Ex) (k:Nat):sizes (l.take k)≤sizes l:=by
 conv=>rhs;rw[←axh k l,qx]
 omega
def akq:Spec:=bH (fun a:Ex×Nat=>[jB a.1,iA a.2]) (fun a=>a.2≤1000000) (fun a=>iP (min a.1.size (a.2+1):Nat))
def avu (n:Nat):Spec:={ akq with pre:=fun a=>akq.pre a∧a.1.size≤n }
theorem alS:∀n,ay Tryz.prog 142 (avu n)
 | 0=>by
  refine vF Tryz.func142 ?_
  rintro (a:Ex×Nat) hpre
  have:=size_pos a.1
  exact absurd hpre.2 (by show ¬a.1.size≤0;omega)
 | n+1=>by
  have ih:=alS n
  refine vF Tryz.func142 ?_
  rintro (a:Ex×Nat) hpre
  obtain ⟨hm,hn⟩:=hpre
  have hm:a.2≤1000000:=hm
  have hn:a.1.size≤n+1:=hn
  have hsz:=a.1.size_eq
  refine ei (mg.inv { X:=Nat,up:=fun k=>[(6,.s (iA k)),(5,.s (iA (min (1+sizes (a.1.args.take k)) (a.2+1):Nat)))],uo:=fun _=>[],inv:=fun k=>k≤a.1.args.length∧k≤sizes (a.1.args.take k)∧k≤a.2,meas:=fun k=>a.2-k,x0:=0 }) ?_
  refine ai (ai (ai (by exact (a4 (ai rfl rfl))) (ai ?_ ?_)) ?_) (ai ?_ ?_)
  ·exact (ai (ai (ai (fun _=>rfl) (iE (by simp only[zz,reduceCtorEq];rfl))) rfl) (ai (ai (fun _=>rfl) (iE (by simp only[zz,reduceCtorEq];rfl))) rfl))
  ·exact trivial
  ·exact rfl
  ·exact ⟨akx _,akx _,akx _⟩
  rintro (k:Nat) ⟨hk1,hk2,hk3⟩
  refine bL (k<a.1.args.length) (fun h1=>?_) fun h1=>?_
  ·refine ah (p:=1+sizes (a.1.args.take k)≤a.2) (by exact fZ (by show ((min (1+sizes (a.1.args.take k)) (a.2+1):Nat):Int)≤(a.2:Int)↔_;omega)) (fun h2=>?_) (fun h2=>?_)
   ·refine ai (ai (aa1 _) (by show (k:Int)<(a.1.args.length:Int);omega)) ?_
    refine ai rfl ?_
    have e1:min (1+sizes (a.1.args.take k)) (a.2+1)=1+sizes (a.1.args.take k):=by omega
    have hw:IntKind.i64.wrap ((a.2:Int)-((min (1+sizes (a.1.args.take k)) (a.2+1):Nat):Int))=((a.2-(1+sizes (a.1.args.take k)):Nat):Int):=by
     rw[e1,ko (by omega) (by omega)];omega
    have hy:a.1.args.getD k bM∈a.1.args:=aa0 (acd h1)
    have hys:(a.1.args.getD k bM).size≤n:=by have:=jd hy;omega
    refine cK (ih) ((a.1.args.getD k bM,a.2-(1+sizes (a.1.args.take k)))) (by exact (ai (ai (iE (by simp only[zz,reduceCtorEq])) (ai (iE (by simp only[zz,reduceCtorEq])) (ai rfl (xA _)))) (iE (by simp only[zz,reduceCtorEq];omega)))) (ai (by show a.2-(1+sizes (a.1.args.take k))≤1000000;omega) hys) ?_
    refine ei ((k+1)) (ai (ai rfl rfl) (ai (ai ?_ ?_) (ai ?_ ?_)))
    ·refine (ai rfl (ai (ai rfl rfl) (ai (ai rfl rfl) (ai (ai (ai (ai (fun _=>rfl) (aH (by omega))) rfl) (ai (ai (fun _=>rfl) ?_) rfl)) trivial))))
     show IntKind.i64.wrap (((min (1+sizes (a.1.args.take k)) (a.2+1):Nat):Int)+((min (a.1.args.getD k bM).size (a.2-(1+sizes (a.1.args.take k))+1):Nat):Int))=_
     rw[ko (by omega) (by omega),afX h1];omega
    ·exact rfl
    ·have:=size_pos (a.1.args.getD k bM)
     exact ⟨h1,by rw[afX h1];omega,by omega⟩
    ·show a.2-(k+1)<a.2-k;omega
   ·have:=amV a.1.args k
    refine eN (iP (min a.1.size (a.2+1):Nat)) ?_
    rw[show min a.1.size (a.2+1)=min (1+sizes (a.1.args.take k)) (a.2+1) by omega]
    exact rfl
  ·obtain rfl:k=a.1.args.length:=by omega
   rw[acI] at hk2
   refine eN (iP (min a.1.size (a.2+1):Nat)) ?_
   rw[show min a.1.size (a.2+1)=min (1+sizes (a.1.args.take a.1.args.length)) (a.2+1) by rw[acI];omega]
   exact rfl
theorem ajs:ay Tryz.prog 142 akq:=nJ (fun a=>a.1.size) alS
def ami:Spec:=bH (fun a:Ex×Int=>[jB a.1,iA a.2]) (fun a=>a.2≤1000000∧a.1.size≤1000000) (fun a=>bP (decide ((a.1.deep:Int)≤a.2)))
def awi (n:Nat):Spec:={ ami with pre:=fun a=>ami.pre a∧a.1.size≤n }
theorem apV {l:List Ex} {m:Nat} (h:∀x∈l,x.deep≤m):gN l≤m:=by
 induction l with
 | nil=>rw[gN];omega
 | cons x l ih=>
  rw[gN]
  have:=h x (by simp)
  have:=ih fun y hy=>h y (by simp[hy])
  omega
theorem apL (x:Ex):decide ((x.deep:Int)≤1)=((x.args.length:Int)==0):=by
 have hde:=x.x9
 cases hl:x.args with
 | nil=>rw[hl,gN] at hde;rw[hde];rfl
 | cons y l=>
  rw[hl,gN] at hde
  have:=ajk y
  rw[decide_eq_false (by omega)]
  symm;rw[beq_eq_false_iff_ne];simp;omega
theorem aog:∀n,ay Tryz.prog 143 (awi n)
 | 0=>by
  refine vF Tryz.func143 ?_
  rintro (a:Ex×Int) hpre
  have:=size_pos a.1
  exact absurd hpre.2 (by show ¬a.1.size≤0;omega)
 | n+1=>by
  have ih:=aog n
  refine vF Tryz.func143 ?_
  rintro (a:Ex×Int) hpre
  obtain ⟨hm,hn⟩:=hpre
  have hm1:a.2≤1000000:=hm.1
  have hm2:a.1.size≤1000000:=hm.2
  have hn:a.1.size≤n+1:=hn
  have hsz:=a.1.size_eq
  have hde:=a.1.x9
  refine bL (a.2<1) (fun h1=>?_) fun h1=>?_
  ·refine eN (bP (decide ((a.1.deep:Int)≤a.2))) ?_
   rw[show decide ((a.1.deep:Int)≤a.2)=false from decide_eq_false (by omega)]
   exact rfl
  refine bE (a.2=1) (fun h2=>?_) fun h2=>?_
  ·refine eN (bP (decide ((a.1.deep:Int)≤a.2))) ?_
   rw[show decide ((a.1.deep:Int)≤a.2)=((a.1.args.length:Int)==0) by rw[h2];exact apL a.1]
   exact rfl
  have hal:=aby a.1
  refine fR (a.1.args.length) (fun k=>[(5,.s (iA k))]) (fun k=>[]) (fun k=>∀y∈a.1.args.take k,(y.deep:Int)≤a.2-1) (by exact (ai (ai (fun _=>rfl) (iE (by omega))) rfl)) (by exact trivial) ?_ ?_
  ·exact fun y hy=>absurd hy (by simp)
  intro (k:Nat) ⟨hk,hall⟩
  refine bL (k<a.1.args.length) (fun h3=>?_) fun h3=>?_
  ·refine iX (k) (a.1.args.length) ?_
   have hy:a.1.args.getD k bM∈a.1.args:=aa0 (acd h3)
   have hms:=jd hy
   have hys:(a.1.args.getD k bM).size≤n:=by omega
   have hw:IntKind.i64.wrap (a.2-1)=a.2-1:=ko (by omega) (by omega)
   refine cK (ih) ((a.1.args.getD k bM,a.2-1)) (by exact (ai (ai (iE (by simp only[zz,reduceCtorEq])) (ai (iE (by simp only[zz,reduceCtorEq])) (ai rfl (xA _)))) (iE (by simp only[zz,reduceCtorEq];omega)))) (ai ⟨by show a.2-1≤1000000;omega,by show (a.1.args.getD k bM).size≤1000000;omega⟩ hys) ?_
   refine aX (p:=((a.1.args.getD k bM).deep:Int)≤a.2-1) (by exact Iff.trans (by show (!decide ((a.1.args.getD k bM).deep≤a.2-1))=true↔_;simp) Iff.rfl) (fun h4=>?_) (fun h4=>?_)
   ·have:=acg hy
    refine eN (bP (decide ((a.1.deep:Int)≤a.2))) ?_
    rw[show decide ((a.1.deep:Int)≤a.2)=false from decide_eq_false (by omega)]
    exact rfl
   refine nX (k) (ai (ai (fun _=>rfl) (aH (by omega))) rfl) trivial ?_
   intro y hy
   rw[aQ bM h3] at hy
   rcases acE.1 hy with hy | hy
   ·exact hall y hy
   ·simp only[acN] at hy;subst hy;exact h4
  ·obtain rfl:k=a.1.args.length:=by omega
   rw[acI] at hall
   have:gN a.1.args≤(a.2-1).toNat:=apV fun y hy=>by have:=hall y hy;omega
   refine eN (bP (decide ((a.1.deep:Int)≤a.2))) ?_
   rw[show decide ((a.1.deep:Int)≤a.2)=true from decide_eq_true (by omega)]
   exact rfl
theorem alo:ay Tryz.prog 143 ami:=nJ (fun a=>a.1.size) aog
def gQ (x:Ex):Bool:=decide (x.size≤256)&&decide (x.deep≤16)
theorem jy {x:Ex}:gQ x=true↔x.size≤256∧x.deep≤16:=by unfold gQ;simp
def auo:Spec:=bH (fun x:Ex=>[jB x]) (fun x=>True) (fun x=>bP (gQ x))
theorem aqK:ay Tryz.prog 166 auo:=by
 refine vF Tryz.func166 ?_
 rintro (x:Ex) hpre
 refine cK (ajs) ((x,256)) (by exact (ai (ai rfl (ai rfl (ai rfl (fun _ _=>rfl)))) (iE (by simp only[zz,reduceCtorEq];rfl)))) ((by show 256≤1000000;omega)) ?_
 refine ah (p:=x.size≤256) (by exact fZ (by show ((min x.size (256+1):Nat):Int)≤256↔_;omega)) (fun h1=>?_) (fun h1=>?_)
 ·refine cK (alo) ((x,16)) (by exact (ai (ai rfl (ai rfl (ai rfl (fun _ _=>rfl)))) rfl)) (⟨by show (16:Int)≤1000000;omega,by show x.size≤1000000;omega⟩) ?_
  refine eN (bP (gQ x)) ?_
  rw[show gQ x=decide ((x.deep:Int)≤16) by unfold gQ;rw[decide_eq_true h1,acP];exact decide_eq_decide.2 (by omega)]
  exact rfl
 ·refine eN (bP (gQ x)) ?_
  rw[show gQ x=false by unfold gQ;rw[decide_eq_false h1];rfl]
  exact rfl
def auG:Spec:=bH (fun y:Ex×Int=>[jB y.1,iA y.2]) (fun y=>y.1.args.length≤256) (fun y=>iP (aK y.1 y.2))
theorem aqE {x:Ex} {n:Int} (h0:¬x.op<0) (h1:¬5≤x.op):aK x n=if x.args.length<yS x.op∨abr x.op<x.args.length then 3 else if x.idx<0∨uN x.op n<x.idx then 2 else 0:=by
 unfold aK;rw[if_neg (by omega)]
theorem aqL:ay Tryz.prog 223 auG:=by
 refine vF Tryz.func223 ?_
 rintro ⟨⟨o,i,l⟩,n⟩ hpre
 have hl:l.length≤256:=hpre
 refine ah (p:=o<0) (aB Iff.rfl) (fun h1=>?_) (fun h1=>?_)
 ·refine eN (iP (aK (.node o i l) n)) ?_
  rw[aK,if_pos (.inl h1)]
  exact rfl
 refine ah (p:=5≤o) (fZ Iff.rfl) (fun h2=>?_) (fun h2=>?_)
 ·refine eN (iP (aK (.node o i l) n)) ?_
  rw[aK,if_pos (.inr h2)]
  exact rfl
 have hA:aK (.node o i l) n=if l.length<yS o∨abr o<l.length then 3 else if i<0∨uN o n<i then 2 else 0:=aqE h1 h2
 have ho:o=0∨o=1∨o=2∨o=3∨o=4:=by omega
 rcases ho with rfl | rfl | rfl | rfl | rfl
 ·have hA:aK (.node 0 i l) n=if l.length<0∨0<l.length then 3 else if i<0∨1<i then 2 else 0:=hA
  refine aX (p:=l.length=0) (bK (by dsimp only;omega)) (fun h3=>?_) (fun h3=>?_)
  ·refine eN (iP (aK (.node 0 i l) n)) ?_
   rw[hA,if_pos (show l.length<0∨0<l.length by omega)]
   exact rfl
  rw[if_neg (show ¬(l.length<0∨0<l.length) by omega)] at hA
  refine ah (p:=i<0) (aB Iff.rfl) (fun h5=>?_) (fun h5=>?_)
  ·refine eN (iP (aK (.node 0 i l) n)) ?_
   rw[hA,if_pos (.inl h5)]
   exact rfl
  refine ah (p:=2≤i) (fZ Iff.rfl) (fun h6=>?_) (fun h6=>?_)
  ·refine eN (iP (aK (.node 0 i l) n)) ?_
   rw[hA,if_pos (.inr (by omega))]
   exact rfl
  ·refine eN (iP (aK (.node 0 i l) n)) ?_
   rw[hA,if_neg (show ¬(i<0∨1<i) by omega)]
   exact rfl
 ·have hA:aK (.node 1 i l) n=if l.length<0∨0<l.length then 3 else if i<0∨(n-1)<i then 2 else 0:=hA
  refine aX (p:=l.length=0) (bK (by dsimp only;omega)) (fun h3=>?_) (fun h3=>?_)
  ·refine eN (iP (aK (.node 1 i l) n)) ?_
   rw[hA,if_pos (show l.length<0∨0<l.length by omega)]
   exact rfl
  rw[if_neg (show ¬(l.length<0∨0<l.length) by omega)] at hA
  refine ah (p:=i<0) (aB Iff.rfl) (fun h5=>?_) (fun h5=>?_)
  ·refine eN (iP (aK (.node 1 i l) n)) ?_
   rw[hA,if_pos (.inl h5)]
   exact rfl
  refine ah (p:=n≤i) (fZ Iff.rfl) (fun h6=>?_) (fun h6=>?_)
  ·refine eN (iP (aK (.node 1 i l) n)) ?_
   rw[hA,if_pos (.inr (by omega))]
   exact rfl
  ·refine eN (iP (aK (.node 1 i l) n)) ?_
   rw[hA,if_neg (show ¬(i<0∨(n-1)<i) by omega)]
   exact rfl
 ·have hA:aK (.node 2 i l) n=if l.length<1∨1<l.length then 3 else if i<0∨0<i then 2 else 0:=hA
  refine aX (p:=l.length=1) (bK (by dsimp only;omega)) (fun h3=>?_) (fun h3=>?_)
  ·refine eN (iP (aK (.node 2 i l) n)) ?_
   rw[hA,if_pos (show l.length<1∨1<l.length by omega)]
   exact rfl
  rw[if_neg (show ¬(l.length<1∨1<l.length) by omega)] at hA
  refine ah (p:=i<0) (aB Iff.rfl) (fun h5=>?_) (fun h5=>?_)
  ·refine eN (iP (aK (.node 2 i l) n)) ?_
   rw[hA,if_pos (.inl h5)]
   exact rfl
  refine ah (p:=1≤i) (fZ Iff.rfl) (fun h6=>?_) (fun h6=>?_)
  ·refine eN (iP (aK (.node 2 i l) n)) ?_
   rw[hA,if_pos (.inr (by omega))]
   exact rfl
  ·refine eN (iP (aK (.node 2 i l) n)) ?_
   rw[hA,if_neg (show ¬(i<0∨0<i) by omega)]
   exact rfl
 ·have hA:aK (.node 3 i l) n=if l.length<2∨256<l.length then 3 else if i<0∨0<i then 2 else 0:=hA
  refine ah (p:=l.length<2) (aB (by dsimp only;omega)) (fun h3=>?_) (fun h3=>?_)
  ·refine eN (iP (aK (.node 3 i l) n)) ?_
   rw[hA,if_pos (show l.length<2∨256<l.length by omega)]
   exact rfl
  rw[if_neg (show ¬(l.length<2∨256<l.length) by omega)] at hA
  refine ah (p:=i<0) (aB Iff.rfl) (fun h5=>?_) (fun h5=>?_)
  ·refine eN (iP (aK (.node 3 i l) n)) ?_
   rw[hA,if_pos (.inl h5)]
   exact rfl
  refine ah (p:=1≤i) (fZ Iff.rfl) (fun h6=>?_) (fun h6=>?_)
  ·refine eN (iP (aK (.node 3 i l) n)) ?_
   rw[hA,if_pos (.inr (by omega))]
   exact rfl
  ·refine eN (iP (aK (.node 3 i l) n)) ?_
   rw[hA,if_neg (show ¬(i<0∨0<i) by omega)]
   exact rfl
 ·have hA:aK (.node 4 i l) n=if l.length<2∨256<l.length then 3 else if i<0∨0<i then 2 else 0:=hA
  refine ah (p:=l.length<2) (aB (by dsimp only;omega)) (fun h3=>?_) (fun h3=>?_)
  ·refine eN (iP (aK (.node 4 i l) n)) ?_
   rw[hA,if_pos (show l.length<2∨256<l.length by omega)]
   exact rfl
  rw[if_neg (show ¬(l.length<2∨256<l.length) by omega)] at hA
  refine ah (p:=i<0) (aB Iff.rfl) (fun h5=>?_) (fun h5=>?_)
  ·refine eN (iP (aK (.node 4 i l) n)) ?_
   rw[hA,if_pos (.inl h5)]
   exact rfl
  refine ah (p:=1≤i) (fZ Iff.rfl) (fun h6=>?_) (fun h6=>?_)
  ·refine eN (iP (aK (.node 4 i l) n)) ?_
   rw[hA,if_pos (.inr (by omega))]
   exact rfl
  ·refine eN (iP (aK (.node 4 i l) n)) ?_
   rw[hA,if_neg (show ¬(i<0∨0<i) by omega)]
   exact rfl
theorem xk (a b:List (Nat×Ex)) (n:Int):fA (a++b) n=if fA a n=0 then fA b n else fA a n:=by
 by_cases h:fA a n=0
 ·rw[if_pos h]
  have h0:=afR.1 h
  unfold fA
  rw[aoZ,List.find?_append,axS.2]
  ·rfl
  ·intro y hy
   obtain ⟨z,hz,rfl⟩:=aup.1 hy
   simp[h0 z hz]
 ·rw[if_neg h]
  unfold fA at h ⊢
  rw[aoZ,List.find?_append]
  cases hc:(a.map fun y=>aK y.2 n).find? (fun e=>e != 0) with
  | none=>rw[hc] at h;exact absurd rfl h
  | some e=>rfl
theorem ak9 (d:Nat) (x:Ex) (l:List (Nat×Ex)) (n:Int):fA ((d,x) :: l) n=if aK x n=0 then fA l n else aK x n:=by
 have:fA [(d,x)] n=aK x n:=by
  by_cases h:aK x n=0
  ·rw[h];exact aaK (by simpa using h)
  ·exact ahP (k:=0) (by simp) rfl h
 rw[show (d,x) :: l=[(d,x)]++l from rfl,xk,this]
def aiR:Spec:=bH (fun a:Ex×Int×Nat=>[jB a.1,iA a.2.1]) (fun a=>a.1.deep+a.2.2≤17∧a.1.size≤256) (fun a=>iP (fA (dJ a.2.2 a.1) a.2.1))
def auX (n:Nat):Spec:={ aiR with pre:=fun a=>aiR.pre a∧a.1.size≤n }
theorem alK:∀n,ay Tryz.prog 173 (auX n)
 | 0=>by
  refine vF Tryz.func173 ?_
  rintro (a:Ex×Int×Nat) hpre
  have:=size_pos a.1
  exact absurd hpre.2 (by show ¬a.1.size≤0;omega)
 | n+1=>by
  have ih:=alK n
  refine vF Tryz.func173 ?_
  rintro (a:Ex×Int×Nat) hpre
  obtain ⟨hm,hn⟩:=hpre
  have hm1:a.1.deep+a.2.2≤17:=hm.1
  have hm2:a.1.size≤256:=hm.2
  have hn:a.1.size≤n+1:=hn
  have hsz:=a.1.size_eq
  have hde:=a.1.x9
  have hal:=aby a.1
  have hdd:a.2.2≤16:=by omega
  have hA:fA (dJ a.2.2 a.1) a.2.1=if aK a.1 a.2.1=0 then fA (iU a.2.2 a.1.args) a.2.1 else aK a.1 a.2.1:=by rw[ae0,ak9]
  refine cK (aqL) ((a.1,a.2.1)) (by exact (ai (ai rfl (ai rfl (ai rfl (fun _ _=>rfl)))) rfl)) ((by show a.1.args.length≤256;omega)) ?_
  refine aX (p:=aK a.1 a.2.1=0) (bK (by dsimp only;omega)) (fun h1=>?_) (fun h1=>?_)
  ·refine eN (iP (fA (dJ a.2.2 a.1) a.2.1)) ?_
   rw[hA,if_neg h1]
   exact rfl
  rw[if_pos h1] at hA
  refine fR (a.1.args.length) (fun k=>[(6,.s (iA k))]) (fun k=>[]) (fun k=>fA (iU a.2.2 (a.1.args.take k)) a.2.1=0) (by exact (ai (ai (fun _=>rfl) (iE (by omega))) rfl)) (by exact trivial) ?_ ?_
  ·rw[List.take_zero];unfold iU;rw[if_pos hdd,iw];rfl
  intro (k:Nat) ⟨hk,hall⟩
  refine bL (k<a.1.args.length) (fun h3=>?_) fun h3=>?_
  ·refine iX (k) (a.1.args.length) ?_
   have hy:a.1.args.getD k bM∈a.1.args:=aa0 (acd h3)
   have hms:=jd hy
   have hmd:=acg hy
   have hys:(a.1.args.getD k bM).size≤n:=by omega
   have hsn:fA (iU a.2.2 (a.1.args.take (k+1))) a.2.1=fA (dJ (a.2.2+1) (a.1.args.getD k bM)) a.2.1:=by
    rw[ah9 hdd (acd h3),xk,if_pos hall]
   refine cK (ih) ((a.1.args.getD k bM,a.2.1,a.2.2+1)) (by exact (ai (ai (iE (by simp only[zz,reduceCtorEq])) (ai (iE (by simp only[zz,reduceCtorEq])) (ai rfl (xA _)))) rfl)) (ai ⟨by show (a.1.args.getD k bM).deep+(a.2.2+1)≤17;omega,by show (a.1.args.getD k bM).size≤256;omega⟩ hys) ?_
   refine aX (p:=fA (dJ (a.2.2+1) (a.1.args.getD k bM)) a.2.1=0) (bK (by dsimp only;omega)) (fun h4=>?_) (fun h4=>?_)
   ·have hs:iU a.2.2 a.1.args=iU a.2.2 (a.1.args.take (k+1))++iU a.2.2 (a.1.args.drop (k+1)):=by
     unfold iU;rw[if_pos hdd,if_pos hdd,if_pos hdd,←uI,axh]
    refine eN (iP (fA (dJ a.2.2 a.1) a.2.1)) ?_
    rw[hA,hs,xk,hsn,if_neg h4]
    exact rfl
   refine nX (k) (ai (ai (fun _=>rfl) (aH (by omega))) rfl) trivial (iE (by omega))
  ·obtain rfl:k=a.1.args.length:=by omega
   rw[acI] at hall
   refine eN (iP (fA (dJ a.2.2 a.1) a.2.1)) ?_
   rw[hA,hall]
   exact rfl
theorem ap9:ay Tryz.prog 173 aiR:=nJ (fun a=>a.1.size) alK
def asz:Spec:=bH (fun y:Ex×Int=>[jB y.1,iA y.2]) (fun y=>True) (fun y=>iP (bf y.1 y.2))
theorem ads:ay Tryz.prog 116 asz:=by
 refine vF Tryz.func116 ?_
 rintro (y:Ex×Int) hpre
 refine bL (y.2<0) (fun h1=>?_) fun h1=>?_
 ·refine eN (iP (bf y.1 y.2)) ?_
  rw[bf,if_pos (.inl h1)]
  exact rfl
 refine bL (256<y.2) (fun h2=>?_) fun h2=>?_
 ·refine eN (iP (bf y.1 y.2)) ?_
  rw[bf,if_pos (.inr h2)]
  exact rfl
 have hA:bf y.1 y.2=if y.1.size≤256∧y.1.deep≤16 then fA (dJ 1 y.1) y.2 else 5:=by
  unfold bf;rw[if_neg (fun h=>h.elim h1 h2)]
 refine cK (aqK) (y.1) (by exact (ai rfl (ai rfl (ai rfl (fun _ _=>rfl))))) (trivial) ?_
 refine aC (b:=!gQ y.1) rfl (fun h3=>?_) (fun h3=>?_)
 ·have h3:¬(y.1.size≤256∧y.1.deep≤16):=fun h=>by rw[jy.2 h] at h3;exact absurd h3 (by decide)
  refine eN (iP (bf y.1 y.2)) ?_
  rw[hA,if_neg h3]
  exact rfl
 have h3:y.1.size≤256∧y.1.deep≤16:=jy.1 (by simpa using h3)
 refine cK (ap9) ((y.1,y.2,1)) (by exact (ai (ai rfl (ai rfl (ai rfl (fun _ _=>rfl)))) rfl)) (⟨by show y.1.deep+1≤17;omega,h3.1⟩) ?_
 refine eN (iP (bf y.1 y.2)) ?_
 rw[hA,if_pos h3]
 exact rfl
def ou (x:Ex):Bool:=decide (x.size≤40)||(decide (256<x.size)&&decide (x.size≤512)&&decide (x.deep≤40))
theorem ao6 {x:Ex} (h:ou x=true):x.size≤512:=by
 unfold ou at h;simp at h;omega
def axa:Spec:=bH (fun x:Ex=>[jB x]) (fun x=>True) (fun x=>bP (ou x))
theorem avt:ay Tryz.prog 88 axa:=by
 refine vF Tryz.func88 ?_
 rintro (x:Ex) hpre
 refine cK (ajs) ((x,512)) (by exact (ai (ai rfl (ai rfl (ai rfl (fun _ _=>rfl)))) (iE (by simp only[zz,reduceCtorEq];rfl)))) ((by show 512≤1000000;omega)) ?_
 refine ah (p:=x.size≤40) (by exact fZ (by show ((min x.size (512+1):Nat):Int)≤40↔_;omega)) (fun h1=>?_) (fun h1=>?_)
 ·refine eN (bP (ou x)) ?_
  rw[show ou x=true by unfold ou;rw[decide_eq_true h1];rfl]
  exact rfl
 refine ah (p:=256<x.size) (by exact aB (by show (256:Int)<((min x.size (512+1):Nat):Int)↔_;omega)) (fun h2=>?_) (fun h2=>?_)
 ·refine ah (p:=x.size≤512) (by exact fZ (by show ((min x.size (512+1):Nat):Int)≤512↔_;omega)) (fun h3=>?_) (fun h3=>?_)
  ·refine cK (alo) ((x,40)) (by exact (ai (ai rfl (ai rfl (ai rfl (fun _ _=>rfl)))) rfl)) (⟨by show (40:Int)≤1000000;omega,by show x.size≤1000000;omega⟩) ?_
   refine eN (bP (ou x)) ?_
   rw[show ou x=decide ((x.deep:Int)≤40) by unfold ou;rw[decide_eq_false h1,decide_eq_true h2,decide_eq_true h3,arA,acP,acP];exact decide_eq_decide.2 (by omega)]
   exact rfl
  ·refine eN (bP (ou x)) ?_
   rw[show ou x=false by unfold ou;rw[decide_eq_false h1,decide_eq_false h3];simp]
   exact rfl
 ·refine eN (bP (ou x)) ?_
  rw[show ou x=false by unfold ou;rw[decide_eq_false h1,decide_eq_false h2];simp]
  exact rfl
theorem iR {P:Program} {f:Nat} {S:Spec} (h:ay P f S) {res:S.A→PV} (e:∀a,S.pre a→fP (S.res a) (res a)):ay P f { S with res:=res }:=
 ⟨h.1,fun a hp E vs w hg hh hA=>(h.2 a hp E vs w hg hh hA).mono fun e' w' ⟨v,E',h1,h2,h3⟩=>⟨v,E',h1,wK (e a hp) h2,h3⟩⟩
def SLe:List SV→List SV→Prop
 | [],[]=>True
 | s :: l,t :: m=>(s=t∨∃d d',s=.p false d∧t=.p false d'∧fP d d')∧SLe l m
 | _,_=>False
theorem SLe.get:∀{l m:List SV},SLe l m→l.length=m.length∧∀(k:Nat) (s t:SV),l[k]?=some s→m[k]?=some t→s=t∨∃d d',s=.p false d∧t=.p false d'∧fP d d'
 | [],[],_=>⟨rfl,fun k s t h=>by simp at h⟩
 | [],_ :: _,h=>h.elim
 | _ :: _,[],h=>h.elim
 | s :: l,t :: m,⟨h1,h2⟩=>by
  obtain ⟨g1,g2⟩:=SLe.get h2
  refine ⟨by simp[g1],fun k x y hx hy=>?_⟩
  cases k with
  | zero=>simp at hx hy;subst hx;subst hy;exact h1
  | succ k=>exact g2 k x y (by simpa using hx) (by simpa using hy)
theorem akl {P:Program} {f:Nat} {S:Spec} (h:ay P f S) {args:S.A→List SV} (e:∀a,S.pre a→SLe (args a) (S.args a)):ay P f { S with args:=args }:=
 ⟨h.1,fun a hp E vs w hg hh hA=>by
  refine h.2 a hp E vs w hg hh ?_
  obtain ⟨g1,g2⟩:=(e a hp).get
  obtain ⟨h1,h2⟩:=hA
  refine ⟨h1.trans g1,fun k u t hu ht=>?_⟩
  obtain ⟨s,hs⟩:=wP g1 ht
  have hr:=h2 k u s hu hs
  rcases g2 k s t hs ht with e | ⟨d,d',e1,e2,hle⟩
  ·subst e;exact hr
  ·subst e1;subst e2
   cases hr with
   | p _ _ _ hx=>exact .p _ _ _ (wK hle hx)⟩
abbrev Sk := Int × Bool
structure Stp where
 st:List Sk
 wt:Int
structure rP where
 fr:List Int
 to:List Int
 wh:Ex
structure aA where
 act:Int
 ins:List (List UInt8)
 sts:List Stp
 trs:List rP
def skK (x:Sk):List PV:=[iP x.1,bP x.2]
def skA (x:Sk):SV:=.p false (.agg (skK x))
def bV:Sk:=(0,false)
def acU (l:List Sk):PV:=.seq l.length (fun k=>skK (l.getD k bV))
def aml (l:List Sk):SV:=.p false (acU l)
def stK (x:Stp):List PV:=[acU x.st,iP x.wt]
def stA (x:Stp):SV:=.p false (.agg (stK x))
def st0:Stp:=⟨[],0⟩
def aaL (l:List Stp):PV:=.seq l.length (fun k=>stK (l.getD k st0))
def trK (x:rP):List PV:=[fD x.fr,fD x.to,iP x.wh.op,iP x.wh.idx,.seq x.wh.args.length (jo x.wh.args)]
def trA (x:rP):SV:=.p false (.agg (trK x))
def aZ:rP:=⟨[],[],bM⟩
def ac5 (l:List rP):PV:=.seq l.length (fun k=>trK (l.getD k aZ))
def chK (c:aA):List PV:=[iP c.act,xB c.ins,aaL c.sts,ac5 c.trs]
def chP (c:aA):PV:=.agg (chK c)
def jS (c:aA):SV:=.p false (chP c)
def jk {α:Type} (p:α→Bool) (l:List α):Int:=match l.findIdx? p with
 | some k=>k
 | none=>-1
theorem rA {α:Type} {p:α→Bool}:∀{l:List α} {k:Nat} {d:α},k<l.length→p (l.getD k d)=true→(∀y∈l.take k,p y=false)→jk p l=k
 | [],k,d,h,_,_=>by simp at h
 | x :: l,0,d,_,h,_=>by
  have h:p x=true:=h
  unfold jk;simp[List.findIdx?_cons,h]
 | x :: l,k+1,d,hk,h,hn=>by
  have h1:p x=false:=hn x (by simp)
  have h2:=rA (l:=l) (k:=k) (d:=d) (by simpa using hk) (by simpa using h) (fun y hy=>hn y (by simp[hy]))
  unfold jk at h2 ⊢
  rw[List.findIdx?_cons,h1]
  cases hc:l.findIdx? p with
  | none=>rw[hc] at h2;simp only at h2;omega
  | some q=>rw[hc] at h2;simp only at h2;simp;omega
theorem tL {α:Type} {p:α→Bool} {l:List α} (h:∀y∈l,p y=false):jk p l=-1:=by
 unfold jk
 rw[axk.2 (by simpa using h)]
theorem qy {α:Type} (p:α→Bool) (l:List α):decide (0≤jk p l)=l.any p:=by
 unfold jk
 cases hc:l.findIdx? p with
 | none=>
  have:=axk.1 hc
  symm;rw[show decide ((0:Int)≤-1)=false by decide,arU]
  intro x hx;simp[this x hx]
 | some k=>
  simp only
  rw[decide_eq_true (by omega)]
  symm;rw[al0]
  obtain ⟨h,h1,_⟩:=List.findIdx?_eq_some_iff_getElem.1 hc
  exact ⟨_,List.getElem_mem h,h1⟩
theorem ahF {a b:List UInt8}:strOf a=strOf b↔a=b:=by
 constructor
 ·intro h
  have:(strOf a).data.toList=(strOf b).data.toList:=by rw[h]
  simpa [strOf] using this
 ·rintro rfl;rfl
def ash:Spec:=bH (fun a:List (Int)×(Int)=>[isA a.1,iA a.2]) (fun a=>a.1.length≤1000000) (fun a=>iP (jk (fun y=>a.2==y) a.1))
theorem aoG:ay Tryz.prog 84 ash:=by
 refine vF Tryz.func84 ?_
 rintro (a:List (Int)×(Int)) hpre
 have hl:a.1.length≤1000000:=hpre
 refine fR (a.1.length) (fun k=>[(8,.s (iA k))]) (fun k=>[]) (fun k=>∀y∈a.1.take k,(a.2==y)=false) (by exact (ai (ai (fun _=>rfl) (iE (by omega))) rfl)) (by exact trivial) ?_ ?_
 ·exact fun y hy=>absurd hy (by simp)
 intro (k:Nat) ⟨hk,hall⟩
 refine bL (k<a.1.length) (fun h1=>?_) fun h1=>?_
 ·refine iX (k) (a.1.length) ?_
  refine ah (p:=(a.2==a.1.getD k 0)=true) (by exact Iff.rfl) (fun h2=>?_) (fun h2=>?_)
  ·refine eN (iP (jk (fun y=>a.2==y) a.1)) ?_
   rw[rA (d:=0) h1 h2 hall]
   exact rfl
  refine nX (k) (ai (ai (fun _=>rfl) (aH (by omega))) rfl) trivial ?_
  intro y hy
  rw[aQ 0 h1] at hy
  rcases acE.1 hy with hy | hy
  ·exact hall y hy
  ·simp only[acN] at hy;subst hy;simpa using h2
 ·obtain rfl:k=a.1.length:=by omega
  rw[acI] at hall
  refine eN (iP (jk (fun y=>a.2==y) a.1)) ?_
  rw[tL hall]
  exact rfl
def avU:Spec:=bH (fun a:List (Int)×(Int)=>[isA a.1,iA a.2]) (fun a=>a.1.length≤1000000) (fun a=>bP (a.1.any fun y=>a.2==y))
theorem agA:ay Tryz.prog 44 avU:=by
 refine vF Tryz.func44 ?_
 rintro (a:List (Int)×(Int)) hpre
 refine cK (aoG) (a) (by exact (ai (ai rfl (fun _ _=>rfl)) rfl)) (hpre) ?_
 refine eN (bP (a.1.any fun y=>a.2==y)) ?_
 rw[(qy (fun y=>a.2==y) a.1).symm]
 exact rfl
def asC:Spec:=bH (fun a:List (List UInt8)×(List UInt8)=>[ssA a.1,sA a.2]) (fun a=>a.1.length≤1000000) (fun a=>iP (jk (fun y=>a.2==y) a.1))
theorem apw:ay Tryz.prog 253 asC:=by
 refine vF Tryz.func253 ?_
 rintro (a:List (List UInt8)×(List UInt8)) hpre
 have hl:a.1.length≤1000000:=hpre
 refine fR (a.1.length) (fun k=>[(8,.s (iA k))]) (fun k=>[]) (fun k=>∀y∈a.1.take k,(a.2==y)=false) (by exact (ai (ai (fun _=>rfl) (iE (by omega))) rfl)) (by exact trivial) ?_ ?_
 ·exact fun y hy=>absurd hy (by simp)
 intro (k:Nat) ⟨hk,hall⟩
 refine bL (k<a.1.length) (fun h1=>?_) fun h1=>?_
 ·refine iX (k) (a.1.length) ?_
  refine ah (p:=(a.2==a.1.getD k [])=true) (by exact Iff.rfl) (fun h2=>?_) (fun h2=>?_)
  ·refine eN (iP (jk (fun y=>a.2==y) a.1)) ?_
   rw[rA (d:=[]) h1 h2 hall]
   exact rfl
  refine nX (k) (ai (ai (fun _=>rfl) (aH (by omega))) rfl) trivial ?_
  intro y hy
  rw[aQ [] h1] at hy
  rcases acE.1 hy with hy | hy
  ·exact hall y hy
  ·simp only[acN] at hy;subst hy;simpa using h2
 ·obtain rfl:k=a.1.length:=by omega
  rw[acI] at hall
  refine eN (iP (jk (fun y=>a.2==y) a.1)) ?_
  rw[tL hall]
  exact rfl
def awe:Spec:=bH (fun a:List (List UInt8)×(List UInt8)=>[ssA a.1,sA a.2]) (fun a=>a.1.length≤1000000) (fun a=>bP (a.1.any fun y=>a.2==y))
theorem asN:ay Tryz.prog 201 awe:=by
 refine vF Tryz.func201 ?_
 rintro (a:List (List UInt8)×(List UInt8)) hpre
 refine cK (apw) (a) (by exact (ai (ai rfl (fun _ _=>rfl)) rfl)) (hpre) ?_
 refine eN (bP (a.1.any fun y=>a.2==y)) ?_
 rw[(qy (fun y=>a.2==y) a.1).symm]
 exact rfl
def arZ:Spec:=bH (fun a:List (Bool)×(Bool)=>[rX a.1,bA a.2]) (fun a=>a.1.length≤1000000) (fun a=>iP (jk (fun y=>a.2==y) a.1))
theorem apu:ay Tryz.prog 199 arZ:=by
 refine vF Tryz.func199 ?_
 rintro (a:List (Bool)×(Bool)) hpre
 have hl:a.1.length≤1000000:=hpre
 refine fR (a.1.length) (fun k=>[(8,.s (iA k))]) (fun k=>[]) (fun k=>∀y∈a.1.take k,(a.2==y)=false) (by exact (ai (ai (fun _=>rfl) (iE (by omega))) rfl)) (by exact trivial) ?_ ?_
 ·exact fun y hy=>absurd hy (by simp)
 intro (k:Nat) ⟨hk,hall⟩
 refine bL (k<a.1.length) (fun h1=>?_) fun h1=>?_
 ·refine iX (k) (a.1.length) ?_
  refine ah (p:=(a.2==a.1.getD k false)=true) (by exact Iff.rfl) (fun h2=>?_) (fun h2=>?_)
  ·refine eN (iP (jk (fun y=>a.2==y) a.1)) ?_
   rw[rA (d:=false) h1 h2 hall]
   exact rfl
  refine nX (k) (ai (ai (fun _=>rfl) (aH (by omega))) rfl) trivial ?_
  intro y hy
  rw[aQ false h1] at hy
  rcases acE.1 hy with hy | hy
  ·exact hall y hy
  ·simp only[acN] at hy;subst hy;simpa using h2
 ·obtain rfl:k=a.1.length:=by omega
  rw[acI] at hall
  refine eN (iP (jk (fun y=>a.2==y) a.1)) ?_
  rw[tL hall]
  exact rfl
def avI:Spec:=bH (fun a:List (Bool)×(Bool)=>[rX a.1,bA a.2]) (fun a=>a.1.length≤1000000) (fun a=>bP (a.1.any fun y=>a.2==y))
theorem att:ay Tryz.prog 146 avI:=by
 refine vF Tryz.func146 ?_
 rintro (a:List (Bool)×(Bool)) hpre
 refine cK (apu) (a) (by exact (ai (ai rfl (fun _ _=>rfl)) rfl)) (hpre) ?_
 refine eN (bP (a.1.any fun y=>a.2==y)) ?_
 rw[(qy (fun y=>a.2==y) a.1).symm]
 exact rfl
theorem ng {s:List UInt8} {k:Nat} (h:k<s.length):(strOf s)[k]?=some (s.getD k 0):=by
 have h1:s[k]?=some (s.getD k 0):=bC 0 h
 show (if h:k<(strOf s).size then some ((strOf s).get k h) else none)=_
 have h2:k<(strOf s).size:=by rw[bZ];exact h
 rw[dif_pos h2,←h1,aav h];rfl
def dw (f:Nat→Int):Nat→Int
 | 0=>0
 | n+1=>if f 0=0 then dw (fun k=>f (k+1)) n else f 0
theorem dL:∀{n:Nat} {f:Nat→Int} {k:Nat},k<n→(∀j,j<k→f j=0)→f k≠0→dw f n=f k
 | 0,_,_,h,_,_=>by omega
 | n+1,f,0,_,_,h=>by rw[dw,if_neg h]
 | n+1,f,k+1,hk,h0,h=>by
  rw[dw,if_pos (h0 0 (by omega))]
  exact dL (f:=fun k=>f (k+1)) (k:=k) (by omega) (fun j hj=>h0 (j+1) (by omega)) h
theorem gH:∀{n:Nat} {f:Nat→Int},(∀j,j<n→f j=0)→dw f n=0
 | 0,_,_=>rfl
 | n+1,f,h=>by rw[dw,if_pos (h 0 (by omega))];exact gH fun j hj=>h (j+1) (by omega)
theorem pJ {n:Nat} {f:Nat→Int} (h:dw f n=0):∀j,j<n→f j=0:=by
 induction n generalizing f with
 | zero=>intro j hj;omega
 | succ n ih=>
  intro j hj
  rw[dw] at h
  by_cases h0:f 0=0
  ·rw[if_pos h0] at h
   cases j with
   | zero=>exact h0
   | succ j=>exact ih h j (by omega)
  ·rw[if_neg h0] at h;exact absurd h h0
theorem atx {l:List (List UInt8)} {k:Nat} (hk:k≤l.length):∀j,j<k→[sP (l.getD j [])]=[sP ((l.take k).getD j [])]:=by
 intro j hj
 rw[aam,aam,auL,if_pos hj]
end Go.Sx.Pe
namespace Go.Proofs
open Go.Shelf
def Tryz.alb:Go.Shelf.Ren:=⟨fun | 171=>209 | 243=>254 | 246=>277 | 283=>286 | 284=>287 | 285=>288 | 286=>289 | 129=>249 | 317=>298 | 318=>299 | 319=>300 | 320=>301 | 337=>310 | 338=>311 | n=>n,fun | 3=>3 | 9=>9 | 2=>2 | 4=>4 | 171=>317 | 0=>0 | 53=>286 | 37=>294 | 5=>5 | 173=>319 | 212=>330 | 51=>284 | 20=>20 | 213=>331 | 46=>242 | 232=>339 | 233=>340 | n=>n,fun | 17=>0 | 18=>2 | 19=>3 | n=>n⟩
theorem Tryz.ar2 : Go.Proofs.Lays.n171 Tryz.prog Tryz.alb := {
  mixed := by kernel_rfl
  f129 := Tryz.func249.trans (congrArg some (by kernel_rfl))
  f171 := Tryz.func209.trans (congrArg some (by kernel_rfl))
  f243 := Tryz.func254.trans (congrArg some (by kernel_rfl))
  f246 := Tryz.func277.trans (congrArg some (by kernel_rfl))
  f283 := Tryz.func286.trans (congrArg some (by kernel_rfl))
  f284 := Tryz.func287.trans (congrArg some (by kernel_rfl))
  f285 := Tryz.func288.trans (congrArg some (by kernel_rfl))
  f286 := Tryz.func289.trans (congrArg some (by kernel_rfl))
  f317 := Tryz.func298.trans (congrArg some (by kernel_rfl))
  f318 := Tryz.func299.trans (congrArg some (by kernel_rfl))
  f319 := Tryz.func300.trans (congrArg some (by kernel_rfl))
  f320 := Tryz.func301.trans (congrArg some (by kernel_rfl))
  f337 := Tryz.func310.trans (congrArg some (by kernel_rfl))
  f338 := Tryz.func311.trans (congrArg some (by kernel_rfl))
  t0 := Tryz.underlying0
  a0 := Tryz.isAgg0
  z0 := Tryz.sizeOf0
  v0 := Tryz.zeroValue0
  t2 := Tryz.underlying2
  a2 := Tryz.isAgg2
  z2 := Tryz.sizeOf2
  v2 := Tryz.zeroValue2
  t3 := Tryz.underlying3
  a3 := Tryz.isAgg3
  z3 := Tryz.sizeOf3
  v3 := Tryz.zeroValue3
  t4 := Tryz.underlying4
  a4 := Tryz.isAgg4
  z4 := Tryz.sizeOf4
  v4 := Tryz.zeroValue4
  t5 := Tryz.underlying5
  a5 := Tryz.isAgg5
  z5 := Tryz.sizeOf5
  v5 := Tryz.zeroValue5
  t9 := Tryz.underlying9
  a9 := Tryz.isAgg9
  z9 := Tryz.sizeOf9
  v9 := Tryz.zeroValue9
  t20 := Tryz.underlying20
  a20 := Tryz.isAgg20
  z20 := Tryz.sizeOf20
  v20 := Tryz.zeroValue20
  t37 := Tryz.underlying294
  a37 := Tryz.isAgg294
  z37 := Tryz.sizeOf294
  v37 := Tryz.zeroValue294
  t46 := Tryz.underlying242
  a46 := Tryz.isAgg242
  z46 := Tryz.sizeOf242
  v46 := Tryz.zeroValue242
  t51 := Tryz.underlying284
  a51 := Tryz.isAgg284
  z51 := Tryz.sizeOf284
  v51 := Tryz.zeroValue284
  t53 := Tryz.underlying286
  a53 := Tryz.isAgg286
  z53 := Tryz.sizeOf286
  v53 := Tryz.zeroValue286
  t171 := Tryz.underlying317
  a171 := Tryz.isAgg317
  z171 := Tryz.sizeOf317
  v171 := Tryz.zeroValue317
  t173 := Tryz.underlying319
  a173 := Tryz.isAgg319
  z173 := Tryz.sizeOf319
  v173 := Tryz.zeroValue319
  t212 := Tryz.underlying330
  a212 := Tryz.isAgg330
  z212 := Tryz.sizeOf330
  v212 := Tryz.zeroValue330
  t213 := Tryz.underlying331
  a213 := Tryz.isAgg331
  z213 := Tryz.sizeOf331
  t232 := Tryz.underlying339
  a232 := Tryz.isAgg339
  z232 := Tryz.sizeOf339
  v232 := Tryz.zeroValue339
  t233 := Tryz.underlying340
  a233 := Tryz.isAgg340
  z233 := Tryz.sizeOf340
  v233 := Tryz.zeroValue340
  g17 := by kernel_rfl
  g18 := by kernel_rfl
  g19 := by kernel_rfl }
open Go.RowKit Go.Sort Go.Lib in
theorem Tryz.strconv_Itoa_small (i:Nat) (hi:i<100) (w:World) :
  Calls Tryz.prog 209 #[.int .i64 i] w fun e w'=>e=.returned (.string ⟨(Lib.decDigits i).toArray⟩)∧w'=w:=Any.strconv_Itoa_small Tryz.ar2 i hi w
def Tryz.ak5:Go.Shelf.Ren:=⟨fun | 144=>275 | 143=>284 | 219=>290 | 217=>302 | 225=>303 | 224=>304 | 267=>305 | 266=>312 | 314=>313 | n=>n,fun | 9=>9 | 4=>4 | 3=>3 | 5=>5 | 46=>242 | 146=>336 | 51=>284 | n=>n,fun | 1=>1 | n=>n⟩
theorem Tryz.atd : Go.Proofs.Lays.n144 Tryz.prog Tryz.ak5 := {
  mixed := by kernel_rfl
  f143 := Tryz.func284.trans (congrArg some (by kernel_rfl))
  f144 := Tryz.func275.trans (congrArg some (by kernel_rfl))
  f217 := Tryz.func302.trans (congrArg some (by kernel_rfl))
  f219 := Tryz.func290.trans (congrArg some (by kernel_rfl))
  f224 := Tryz.func304.trans (congrArg some (by kernel_rfl))
  f225 := Tryz.func303.trans (congrArg some (by kernel_rfl))
  f266 := Tryz.func312.trans (congrArg some (by kernel_rfl))
  f267 := Tryz.func305.trans (congrArg some (by kernel_rfl))
  f314 := Tryz.func313.trans (congrArg some (by kernel_rfl))
  t3 := Tryz.underlying3
  a3 := Tryz.isAgg3
  z3 := Tryz.sizeOf3
  v3 := Tryz.zeroValue3
  t4 := Tryz.underlying4
  a4 := Tryz.isAgg4
  z4 := Tryz.sizeOf4
  v4 := Tryz.zeroValue4
  t5 := Tryz.underlying5
  a5 := Tryz.isAgg5
  z5 := Tryz.sizeOf5
  v5 := Tryz.zeroValue5
  t9 := Tryz.underlying9
  a9 := Tryz.isAgg9
  z9 := Tryz.sizeOf9
  v9 := Tryz.zeroValue9
  t46 := Tryz.underlying242
  a46 := Tryz.isAgg242
  z46 := Tryz.sizeOf242
  v46 := Tryz.zeroValue242
  t51 := Tryz.underlying284
  a51 := Tryz.isAgg284
  z51 := Tryz.sizeOf284
  v51 := Tryz.zeroValue284
  t146 := Tryz.underlying336
  a146 := Tryz.isAgg336
  z146 := Tryz.sizeOf336
  v146 := Tryz.zeroValue336
  g1 := by kernel_rfl }
open Go.RowKit Go.Lib in
theorem Tryz.strings_Contains_one (s:ByteArray) (c:UInt8) (w:World) :
  Calls Tryz.prog 275 #[.string s,.string ⟨#[c]⟩] w fun e w'=>e=.returned (.bool (decide (0≤Lib.indexByte s.data.toList c)))∧w'=w:=Any.strings_Contains_one Tryz.atd s c w
def Tryz.ajh:Go.Shelf.Ren:=⟨fun | 17=>184 | 15=>231 | 20=>266 | n=>n,fun | 9=>9 | 23=>228 | 4=>4 | 3=>3 | 0=>0 | 21=>21 | n=>n,fun | n=>n⟩
theorem Tryz.aqx : Go.Proofs.LaysGw.n17 Tryz.prog Tryz.ajh := {
  mixed := by kernel_rfl
  f15 := Tryz.func231.trans (congrArg some (by kernel_rfl))
  f17 := Tryz.func184.trans (congrArg some (by kernel_rfl))
  f20 := Tryz.func266.trans (congrArg some (by kernel_rfl))
  t0 := Tryz.underlying0
  a0 := Tryz.isAgg0
  z0 := Tryz.sizeOf0
  v0 := Tryz.zeroValue0
  i0 := by kernel_rfl
  t3 := Tryz.underlying3
  a3 := Tryz.isAgg3
  z3 := Tryz.sizeOf3
  v3 := Tryz.zeroValue3
  i3 := by kernel_rfl
  t4 := Tryz.underlying4
  a4 := Tryz.isAgg4
  z4 := Tryz.sizeOf4
  v4 := Tryz.zeroValue4
  i4 := by kernel_rfl
  t9 := Tryz.underlying9
  a9 := Tryz.isAgg9
  z9 := Tryz.sizeOf9
  v9 := Tryz.zeroValue9
  i9 := by kernel_rfl
  t21 := Tryz.underlying21
  a21 := Tryz.isAgg21
  z21 := Tryz.sizeOf21
  v21 := Tryz.zeroValue21
  i21 := by kernel_rfl
  t23 := Tryz.underlying228
  a23 := Tryz.isAgg228
  z23 := Tryz.sizeOf228
  v23 := Tryz.zeroValue228
  i23 := by kernel_rfl }
open Go.RowKit Go.Lib in
theorem Tryz.strings_ContainsFunc (g:Nat) (lb:Array Value) (eg:∀args w,(callFunc g args).run Tryz.prog w=.ok (.enter g args) w) (p:Nat→Bool) (s:ByteArray) (w:World) (hp:PredAt Tryz.prog g lb encR p w) :
  Calls Tryz.prog 184 #[.string s,.func (.func g) #[] lb] w fun e w'=>e=.returned (.bool (decide (0≤Lib.idxFunc p true s)))∧Below w.heap.size w w':=Any.strings_ContainsFunc Tryz.aqx g lb eg p s w hp
end Go.Proofs
namespace Go.Sx.Pe
open Go Go.Proofs Go.Sx.Pn
def eD (c:UInt8):Bool:=decide (48≤c.toNat)&&decide (c.toNat≤57)
def jf (c:UInt8):Bool:=decide (97≤c.toNat)&&decide (c.toNat≤122)
def uz (c:UInt8):Bool:=decide (65≤c.toNat)&&decide (c.toNat≤90)
def dW (c:UInt8):Bool:=eD c||jf c||uz c||decide (c.toNat=95)
def dS (c:UInt8):Bool:=[97,98,99,100,101,102,116,120,121,122].any (fun y:UInt8=>c==y)
def oz (c:UInt8):Bool:=decide (97≤c.toNat)&&decide (c.toNat≤102)
theorem zo:ay Tryz.prog 222 (bH (fun c:UInt8=>[cA c]) (fun _=>True) (fun c=>bP (eD c))):=by
 refine vF Tryz.func222 ?_
 rintro (c:UInt8) hpre
 repeat' (refine gV (fun h=>?_) (fun h=>?_))
 all_goals
  refine ai (ai (fun _=>trivial) ?_) trivial
  show (_:Bool)=eD c
  rw[arR]
  simp only[abj,aru,decide_eq_true_eq,decide_eq_false_iff_not,beq_iff_eq,beq_eq_false_iff_ne,ne_eq,eD,jf,uz,dW,oz,true_iff,iff_true,reduceCtorEq,false_iff] at *
  omega
theorem ajW:ay Tryz.prog 220 (bH (fun c:UInt8=>[cA c]) (fun _=>True) (fun c=>bP (jf c))):=by
 refine vF Tryz.func220 ?_
 rintro (c:UInt8) hpre
 repeat' (refine gV (fun h=>?_) (fun h=>?_))
 all_goals
  refine ai (ai (fun _=>trivial) ?_) trivial
  show (_:Bool)=jf c
  rw[arR]
  simp only[abj,aru,decide_eq_true_eq,decide_eq_false_iff_not,beq_iff_eq,beq_eq_false_iff_ne,ne_eq,eD,jf,uz,dW,oz,true_iff,iff_true,reduceCtorEq,false_iff] at *
  omega
theorem amo:ay Tryz.prog 252 (bH (fun c:UInt8=>[cA c]) (fun _=>True) (fun c=>bP (dW c))):=by
 refine vF Tryz.func252 ?_
 rintro (c:UInt8) hpre
 repeat' (refine gV (fun h=>?_) (fun h=>?_))
 all_goals
  refine ai (ai (fun _=>trivial) ?_) trivial
  show (_:Bool)=dW c
  rw[arR]
  simp only[abj,aru,decide_eq_true_eq,decide_eq_false_iff_not,beq_iff_eq,beq_eq_false_iff_ne,ne_eq,eD,jf,uz,dW,oz,true_iff,iff_true,reduceCtorEq,false_iff] at *
  omega
def resE:List UInt8→Bool
 | []=>false
 | c :: t=>!t.isEmpty&&((dS c&&t.all eD)||(oz c&&(t==[112]||t==[109])))
theorem aho:∀(l:List UInt8) (c:UInt8),decide (0≤Lib.indexByte l c)=l.any fun y=>c==y
 | [],c=>by simp[Lib.indexByte]
 | x :: l,c=>by
  have ih:=aho l c
  have hge:=Lib.indexByte_ge l c
  unfold Lib.indexByte
  rw[axu]
  by_cases h:x=c
  ·subst h;simp
  ·rw[show (c==x)=false by simpa using fun e=>h e.symm,arA,←ih]
   simp only[beq_iff_eq,h,if_false]
   split
   ·rename_i h2;rw[h2]
   ·exact decide_eq_decide.2 (by omega)
theorem agw:ay Tryz.prog 275 (bH (fun a:List UInt8×UInt8=>[sA a.1,sA [a.2]]) (fun _=>True) (fun a=>bP (a.1.any fun y=>a.2==y))):=
 aku (ahp (α:=List UInt8×UInt8) Tryz.func275 rfl rfl (vals:=fun a=>[.string (strOf a.1),.string (strOf [a.2])]) (pre:=fun _=>True) (ret:=fun a=>.bool (decide (0≤Lib.indexByte a.1 a.2))) (fun _ _=>rfl)
  fun a _ w=>(Tryz.strings_Contains_one (strOf a.1) a.2 w).mono fun e w' h=>by
   obtain ⟨h1,h2⟩:=h
   subst h2
   exact ⟨h1,RowKit.Below.refl _ _⟩) id
  (fun _ _=>rfl) (fun _ _=>rfl) (fun _ _=>rfl) (fun a _=>by show PV.val (.bool (decide (0≤Lib.indexByte a.1 a.2)))=_;rw[aho];rfl) (fun _ _=>trivial)
theorem apY:ay Tryz.prog 221 (bH (fun s:List UInt8=>[sA s]) (fun s=>s.length≤1000000) (fun s=>bP (resE s))):=by
 refine vF Tryz.func221 ?_
 rintro (s:List UInt8) hpre
 have hl:s.length≤1000000:=hpre
 have hz:=bZ s
 refine ah (p:=s.length<2) (by exact aB (by rw[hz];omega)) (fun h1=>?_) (fun h1=>?_)
 ·have e:resE s=false:=by
   cases s with
   | nil=>rfl
   | cons c t=>cases t with
    | nil=>rfl
    | cons d t=>simp at h1;omega
  refine eN (bP (resE s)) ?_
  rw[e]
  exact rfl
 obtain ⟨c,d,t,rfl⟩:∃c d t,s=c :: d :: t:=by
  cases s with
  | nil=>simp at h1
  | cons c t=>cases t with
   | nil=>simp at h1
   | cons d t=>exact ⟨c,d,t,rfl⟩
 have i0:(strOf (c :: d :: t))[(0:Int).toNat]?=some c:=ng (s:=c :: d :: t) (k:=0) (by simp)
 have i1:(strOf (c :: d :: t))[(1:Int).toNat]?=some d:=ng (s:=c :: d :: t) (k:=1) (by simp)
 have hl2:(d :: t).length≤1000000:=by simp only[apl] at hl ⊢;omega
 have hR:resE (c :: d :: t)=((dS c&&(d :: t).all eD)||(oz c&&((d :: t)==[112]||(d :: t)==[109]))):=rfl
 refine ah (p:=t=[]) (by exact uT (by show (((strOf (c :: d :: t)).size:Nat):Int)=2↔_;rw[hz];cases t with | nil=>simp | cons y t=>simp;omega)) (fun h2=>?_) (fun h2=>?_)
 ·refine ei c (ai (ai (by decide) i0) ?_)
  refine bG (97≤c.toNat) (fun h3=>?_) fun h3=>?_
  ·refine ei c (ai (ai (by decide) i0) ?_)
   refine bG (c.toNat≤102) (fun h4=>?_) fun h4=>?_
   ·refine ei d (ai (ai (by decide) i1) ?_)
    have hac:oz c=true:=by unfold oz;rw[decide_eq_true h3,decide_eq_true h4];rfl
    refine ah (p:=d=112) (by exact dO rfl) (fun h5=>?_) (fun h5=>?_)
    ·refine eN (bP (resE (c :: d :: t))) ?_
     rw[show resE (c :: d :: t)=true by rw[hR,hac,h5,h2];simp]
     exact rfl
    ·refine ei d (ai (ai (by decide) i1) ?_)
     refine ah (p:=d=109) (by exact dO rfl) (fun h6=>?_) (fun h6=>?_)
     ·refine eN (bP (resE (c :: d :: t))) ?_
      rw[show resE (c :: d :: t)=true by rw[hR,hac,h6,h2];simp]
      exact rfl
     ·have hN:(oz c&&((d :: t)==[112]||(d :: t)==[109]))=false:=by rw[hac,h2];simp[h5,h6]
      refine fR ((d :: t).length) (fun k=>[(3,.s (iA (k+1:Nat)))]) (fun k=>[]) (fun k=>∀x∈(d :: t).take k,eD x=true) (by exact (ai (ai (fun _=>rfl) (iE (by omega))) rfl)) (by exact trivial) ?_ ?_
      ·exact fun y hy=>absurd hy (by simp)
      intro (k:Nat) ⟨hk,hall⟩
      refine ah (p:=k<(d :: t).length) (by exact aB (by rw[hz];simp only[apl];omega)) (fun h8=>?_) (fun h8=>?_)
      ·refine ei ((d :: t).getD k 0) (ai (ai (aa1 _) (ng (s:=c :: d :: t) (k:=k+1) (by simp at h8 ⊢;omega))) ?_)
       refine cK (zo) ((d :: t).getD k 0) (by exact rfl) (trivial) ?_
       refine aC (b:=!eD ((d :: t).getD k 0)) rfl (fun h9=>?_) (fun h9=>?_)
       ·have e:(d :: t).all eD=false:=by
         rw[atX]
         exact ⟨_,aa0 (bC 0 h8),by simpa using h9⟩
        refine eN (bP (resE (c :: d :: t))) ?_
        rw[hR,e,arX,arA,hN]
        exact rfl
       refine nX (k) (ai (ai (fun _=>rfl) (aH (by omega))) rfl) trivial ?_
       intro y hy
       rw[aQ 0 h8] at hy
       rcases acE.1 hy with hy | hy
       ·exact hall y hy
       ·simp only[acN] at hy;subst hy;simpa using h9
      ·obtain rfl:k=(d :: t).length:=by omega
       rw[acI] at hall
       have e:(d :: t).all eD=true:=aot.2 hall
       refine ai (by decide) ?_
       refine ei (mg.unroll 11) ?_
       refine ai (ai (by decide) (by decide)) ?_
       refine ai rfl ?_
       refine ei c (ai (ai (by decide) i0) ?_)
       refine ah (p:=c=97) (by exact dO rfl) (fun m97=>?_) (fun m97=>?_)
       ·have e2:dS c=true:=by rw[m97];rfl
        refine eN (bP (resE (c :: d :: t))) ?_
        rw[hR,e,e2,acP,afq]
        exact rfl
       refine ai (ai (by decide) (by decide)) ?_
       refine ai rfl ?_
       refine ei c (ai (ai (by decide) i0) ?_)
       refine ah (p:=c=98) (by exact dO rfl) (fun m98=>?_) (fun m98=>?_)
       ·have e2:dS c=true:=by rw[m98];rfl
        refine eN (bP (resE (c :: d :: t))) ?_
        rw[hR,e,e2,acP,afq]
        exact rfl
       refine ai (ai (by decide) (by decide)) ?_
       refine ai rfl ?_
       refine ei c (ai (ai (by decide) i0) ?_)
       refine ah (p:=c=99) (by exact dO rfl) (fun m99=>?_) (fun m99=>?_)
       ·have e2:dS c=true:=by rw[m99];rfl
        refine eN (bP (resE (c :: d :: t))) ?_
        rw[hR,e,e2,acP,afq]
        exact rfl
       refine ai (ai (by decide) (by decide)) ?_
       refine ai rfl ?_
       refine ei c (ai (ai (by decide) i0) ?_)
       refine ah (p:=c=100) (by exact dO rfl) (fun m100=>?_) (fun m100=>?_)
       ·have e2:dS c=true:=by rw[m100];rfl
        refine eN (bP (resE (c :: d :: t))) ?_
        rw[hR,e,e2,acP,afq]
        exact rfl
       refine ai (ai (by decide) (by decide)) ?_
       refine ai rfl ?_
       refine ei c (ai (ai (by decide) i0) ?_)
       refine ah (p:=c=101) (by exact dO rfl) (fun m101=>?_) (fun m101=>?_)
       ·have e2:dS c=true:=by rw[m101];rfl
        refine eN (bP (resE (c :: d :: t))) ?_
        rw[hR,e,e2,acP,afq]
        exact rfl
       refine ai (ai (by decide) (by decide)) ?_
       refine ai rfl ?_
       refine ei c (ai (ai (by decide) i0) ?_)
       refine ah (p:=c=102) (by exact dO rfl) (fun m102=>?_) (fun m102=>?_)
       ·have e2:dS c=true:=by rw[m102];rfl
        refine eN (bP (resE (c :: d :: t))) ?_
        rw[hR,e,e2,acP,afq]
        exact rfl
       refine ai (ai (by decide) (by decide)) ?_
       refine ai rfl ?_
       refine ei c (ai (ai (by decide) i0) ?_)
       refine ah (p:=c=116) (by exact dO rfl) (fun m116=>?_) (fun m116=>?_)
       ·have e2:dS c=true:=by rw[m116];rfl
        refine eN (bP (resE (c :: d :: t))) ?_
        rw[hR,e,e2,acP,afq]
        exact rfl
       refine ai (ai (by decide) (by decide)) ?_
       refine ai rfl ?_
       refine ei c (ai (ai (by decide) i0) ?_)
       refine ah (p:=c=120) (by exact dO rfl) (fun m120=>?_) (fun m120=>?_)
       ·have e2:dS c=true:=by rw[m120];rfl
        refine eN (bP (resE (c :: d :: t))) ?_
        rw[hR,e,e2,acP,afq]
        exact rfl
       refine ai (ai (by decide) (by decide)) ?_
       refine ai rfl ?_
       refine ei c (ai (ai (by decide) i0) ?_)
       refine ah (p:=c=121) (by exact dO rfl) (fun m121=>?_) (fun m121=>?_)
       ·have e2:dS c=true:=by rw[m121];rfl
        refine eN (bP (resE (c :: d :: t))) ?_
        rw[hR,e,e2,acP,afq]
        exact rfl
       refine ai (ai (by decide) (by decide)) ?_
       refine ai rfl ?_
       refine ei c (ai (ai (by decide) i0) ?_)
       refine ah (p:=c=122) (by exact dO rfl) (fun m122=>?_) (fun m122=>?_)
       ·have e2:dS c=true:=by rw[m122];rfl
        refine eN (bP (resE (c :: d :: t))) ?_
        rw[hR,e,e2,acP,afq]
        exact rfl
       have e2:dS c=false:=by unfold dS;simp[m97,m98,m99,m100,m101,m102,m116,m120,m121,m122]
       refine eN (bP (resE (c :: d :: t))) ?_
       rw[hR,e2,arQ,arA,hN]
       exact rfl
   ·have hN:(oz c&&((d :: t)==[112]||(d :: t)==[109]))=false:=by unfold oz;rw[decide_eq_false h4];simp
    refine fR ((d :: t).length) (fun k=>[(3,.s (iA (k+1:Nat)))]) (fun k=>[]) (fun k=>∀x∈(d :: t).take k,eD x=true) (by exact (ai (ai (fun _=>rfl) (iE (by omega))) rfl)) (by exact trivial) ?_ ?_
    ·exact fun y hy=>absurd hy (by simp)
    intro (k:Nat) ⟨hk,hall⟩
    refine ah (p:=k<(d :: t).length) (by exact aB (by rw[hz];simp only[apl];omega)) (fun h8=>?_) (fun h8=>?_)
    ·refine ei ((d :: t).getD k 0) (ai (ai (aa1 _) (ng (s:=c :: d :: t) (k:=k+1) (by simp at h8 ⊢;omega))) ?_)
     refine cK (zo) ((d :: t).getD k 0) (by exact rfl) (trivial) ?_
     refine aC (b:=!eD ((d :: t).getD k 0)) rfl (fun h9=>?_) (fun h9=>?_)
     ·have e:(d :: t).all eD=false:=by
       rw[atX]
       exact ⟨_,aa0 (bC 0 h8),by simpa using h9⟩
      refine eN (bP (resE (c :: d :: t))) ?_
      rw[hR,e,arX,arA,hN]
      exact rfl
     refine nX (k) (ai (ai (fun _=>rfl) (aH (by omega))) rfl) trivial ?_
     intro y hy
     rw[aQ 0 h8] at hy
     rcases acE.1 hy with hy | hy
     ·exact hall y hy
     ·simp only[acN] at hy;subst hy;simpa using h9
    ·obtain rfl:k=(d :: t).length:=by omega
     rw[acI] at hall
     have e:(d :: t).all eD=true:=aot.2 hall
     refine ai (by decide) ?_
     refine ei (mg.unroll 11) ?_
     refine ai (ai (by decide) (by decide)) ?_
     refine ai rfl ?_
     refine ei c (ai (ai (by decide) i0) ?_)
     refine ah (p:=c=97) (by exact dO rfl) (fun m97=>?_) (fun m97=>?_)
     ·have e2:dS c=true:=by rw[m97];rfl
      refine eN (bP (resE (c :: d :: t))) ?_
      rw[hR,e,e2,acP,afq]
      exact rfl
     refine ai (ai (by decide) (by decide)) ?_
     refine ai rfl ?_
     refine ei c (ai (ai (by decide) i0) ?_)
     refine ah (p:=c=98) (by exact dO rfl) (fun m98=>?_) (fun m98=>?_)
     ·have e2:dS c=true:=by rw[m98];rfl
      refine eN (bP (resE (c :: d :: t))) ?_
      rw[hR,e,e2,acP,afq]
      exact rfl
     refine ai (ai (by decide) (by decide)) ?_
     refine ai rfl ?_
     refine ei c (ai (ai (by decide) i0) ?_)
     refine ah (p:=c=99) (by exact dO rfl) (fun m99=>?_) (fun m99=>?_)
     ·have e2:dS c=true:=by rw[m99];rfl
      refine eN (bP (resE (c :: d :: t))) ?_
      rw[hR,e,e2,acP,afq]
      exact rfl
     refine ai (ai (by decide) (by decide)) ?_
     refine ai rfl ?_
     refine ei c (ai (ai (by decide) i0) ?_)
     refine ah (p:=c=100) (by exact dO rfl) (fun m100=>?_) (fun m100=>?_)
     ·have e2:dS c=true:=by rw[m100];rfl
      refine eN (bP (resE (c :: d :: t))) ?_
      rw[hR,e,e2,acP,afq]
      exact rfl
     refine ai (ai (by decide) (by decide)) ?_
     refine ai rfl ?_
     refine ei c (ai (ai (by decide) i0) ?_)
     refine ah (p:=c=101) (by exact dO rfl) (fun m101=>?_) (fun m101=>?_)
     ·have e2:dS c=true:=by rw[m101];rfl
      refine eN (bP (resE (c :: d :: t))) ?_
      rw[hR,e,e2,acP,afq]
      exact rfl
     refine ai (ai (by decide) (by decide)) ?_
     refine ai rfl ?_
     refine ei c (ai (ai (by decide) i0) ?_)
     refine ah (p:=c=102) (by exact dO rfl) (fun m102=>?_) (fun m102=>?_)
     ·have e2:dS c=true:=by rw[m102];rfl
      refine eN (bP (resE (c :: d :: t))) ?_
      rw[hR,e,e2,acP,afq]
      exact rfl
     refine ai (ai (by decide) (by decide)) ?_
     refine ai rfl ?_
     refine ei c (ai (ai (by decide) i0) ?_)
     refine ah (p:=c=116) (by exact dO rfl) (fun m116=>?_) (fun m116=>?_)
     ·have e2:dS c=true:=by rw[m116];rfl
      refine eN (bP (resE (c :: d :: t))) ?_
      rw[hR,e,e2,acP,afq]
      exact rfl
     refine ai (ai (by decide) (by decide)) ?_
     refine ai rfl ?_
     refine ei c (ai (ai (by decide) i0) ?_)
     refine ah (p:=c=120) (by exact dO rfl) (fun m120=>?_) (fun m120=>?_)
     ·have e2:dS c=true:=by rw[m120];rfl
      refine eN (bP (resE (c :: d :: t))) ?_
      rw[hR,e,e2,acP,afq]
      exact rfl
     refine ai (ai (by decide) (by decide)) ?_
     refine ai rfl ?_
     refine ei c (ai (ai (by decide) i0) ?_)
     refine ah (p:=c=121) (by exact dO rfl) (fun m121=>?_) (fun m121=>?_)
     ·have e2:dS c=true:=by rw[m121];rfl
      refine eN (bP (resE (c :: d :: t))) ?_
      rw[hR,e,e2,acP,afq]
      exact rfl
     refine ai (ai (by decide) (by decide)) ?_
     refine ai rfl ?_
     refine ei c (ai (ai (by decide) i0) ?_)
     refine ah (p:=c=122) (by exact dO rfl) (fun m122=>?_) (fun m122=>?_)
     ·have e2:dS c=true:=by rw[m122];rfl
      refine eN (bP (resE (c :: d :: t))) ?_
      rw[hR,e,e2,acP,afq]
      exact rfl
     have e2:dS c=false:=by unfold dS;simp[m97,m98,m99,m100,m101,m102,m116,m120,m121,m122]
     refine eN (bP (resE (c :: d :: t))) ?_
     rw[hR,e2,arQ,arA,hN]
     exact rfl
  ·have hN:(oz c&&((d :: t)==[112]||(d :: t)==[109]))=false:=by unfold oz;rw[decide_eq_false h3];simp
   refine fR ((d :: t).length) (fun k=>[(3,.s (iA (k+1:Nat)))]) (fun k=>[]) (fun k=>∀x∈(d :: t).take k,eD x=true) (by exact (ai (ai (fun _=>rfl) (iE (by omega))) rfl)) (by exact trivial) ?_ ?_
   ·exact fun y hy=>absurd hy (by simp)
   intro (k:Nat) ⟨hk,hall⟩
   refine ah (p:=k<(d :: t).length) (by exact aB (by rw[hz];simp only[apl];omega)) (fun h8=>?_) (fun h8=>?_)
   ·refine ei ((d :: t).getD k 0) (ai (ai (aa1 _) (ng (s:=c :: d :: t) (k:=k+1) (by simp at h8 ⊢;omega))) ?_)
    refine cK (zo) ((d :: t).getD k 0) (by exact rfl) (trivial) ?_
    refine aC (b:=!eD ((d :: t).getD k 0)) rfl (fun h9=>?_) (fun h9=>?_)
    ·have e:(d :: t).all eD=false:=by
      rw[atX]
      exact ⟨_,aa0 (bC 0 h8),by simpa using h9⟩
     refine eN (bP (resE (c :: d :: t))) ?_
     rw[hR,e,arX,arA,hN]
     exact rfl
    refine nX (k) (ai (ai (fun _=>rfl) (aH (by omega))) rfl) trivial ?_
    intro y hy
    rw[aQ 0 h8] at hy
    rcases acE.1 hy with hy | hy
    ·exact hall y hy
    ·simp only[acN] at hy;subst hy;simpa using h9
   ·obtain rfl:k=(d :: t).length:=by omega
    rw[acI] at hall
    have e:(d :: t).all eD=true:=aot.2 hall
    refine ai (by decide) ?_
    refine ei (mg.unroll 11) ?_
    refine ai (ai (by decide) (by decide)) ?_
    refine ai rfl ?_
    refine ei c (ai (ai (by decide) i0) ?_)
    refine ah (p:=c=97) (by exact dO rfl) (fun m97=>?_) (fun m97=>?_)
    ·have e2:dS c=true:=by rw[m97];rfl
     refine eN (bP (resE (c :: d :: t))) ?_
     rw[hR,e,e2,acP,afq]
     exact rfl
    refine ai (ai (by decide) (by decide)) ?_
    refine ai rfl ?_
    refine ei c (ai (ai (by decide) i0) ?_)
    refine ah (p:=c=98) (by exact dO rfl) (fun m98=>?_) (fun m98=>?_)
    ·have e2:dS c=true:=by rw[m98];rfl
     refine eN (bP (resE (c :: d :: t))) ?_
     rw[hR,e,e2,acP,afq]
     exact rfl
    refine ai (ai (by decide) (by decide)) ?_
    refine ai rfl ?_
    refine ei c (ai (ai (by decide) i0) ?_)
    refine ah (p:=c=99) (by exact dO rfl) (fun m99=>?_) (fun m99=>?_)
    ·have e2:dS c=true:=by rw[m99];rfl
     refine eN (bP (resE (c :: d :: t))) ?_
     rw[hR,e,e2,acP,afq]
     exact rfl
    refine ai (ai (by decide) (by decide)) ?_
    refine ai rfl ?_
    refine ei c (ai (ai (by decide) i0) ?_)
    refine ah (p:=c=100) (by exact dO rfl) (fun m100=>?_) (fun m100=>?_)
    ·have e2:dS c=true:=by rw[m100];rfl
     refine eN (bP (resE (c :: d :: t))) ?_
     rw[hR,e,e2,acP,afq]
     exact rfl
    refine ai (ai (by decide) (by decide)) ?_
    refine ai rfl ?_
    refine ei c (ai (ai (by decide) i0) ?_)
    refine ah (p:=c=101) (by exact dO rfl) (fun m101=>?_) (fun m101=>?_)
    ·have e2:dS c=true:=by rw[m101];rfl
     refine eN (bP (resE (c :: d :: t))) ?_
     rw[hR,e,e2,acP,afq]
     exact rfl
    refine ai (ai (by decide) (by decide)) ?_
    refine ai rfl ?_
    refine ei c (ai (ai (by decide) i0) ?_)
    refine ah (p:=c=102) (by exact dO rfl) (fun m102=>?_) (fun m102=>?_)
    ·have e2:dS c=true:=by rw[m102];rfl
     refine eN (bP (resE (c :: d :: t))) ?_
     rw[hR,e,e2,acP,afq]
     exact rfl
    refine ai (ai (by decide) (by decide)) ?_
    refine ai rfl ?_
    refine ei c (ai (ai (by decide) i0) ?_)
    refine ah (p:=c=116) (by exact dO rfl) (fun m116=>?_) (fun m116=>?_)
    ·have e2:dS c=true:=by rw[m116];rfl
     refine eN (bP (resE (c :: d :: t))) ?_
     rw[hR,e,e2,acP,afq]
     exact rfl
    refine ai (ai (by decide) (by decide)) ?_
    refine ai rfl ?_
    refine ei c (ai (ai (by decide) i0) ?_)
    refine ah (p:=c=120) (by exact dO rfl) (fun m120=>?_) (fun m120=>?_)
    ·have e2:dS c=true:=by rw[m120];rfl
     refine eN (bP (resE (c :: d :: t))) ?_
     rw[hR,e,e2,acP,afq]
     exact rfl
    refine ai (ai (by decide) (by decide)) ?_
    refine ai rfl ?_
    refine ei c (ai (ai (by decide) i0) ?_)
    refine ah (p:=c=121) (by exact dO rfl) (fun m121=>?_) (fun m121=>?_)
    ·have e2:dS c=true:=by rw[m121];rfl
     refine eN (bP (resE (c :: d :: t))) ?_
     rw[hR,e,e2,acP,afq]
     exact rfl
    refine ai (ai (by decide) (by decide)) ?_
    refine ai rfl ?_
    refine ei c (ai (ai (by decide) i0) ?_)
    refine ah (p:=c=122) (by exact dO rfl) (fun m122=>?_) (fun m122=>?_)
    ·have e2:dS c=true:=by rw[m122];rfl
     refine eN (bP (resE (c :: d :: t))) ?_
     rw[hR,e,e2,acP,afq]
     exact rfl
    have e2:dS c=false:=by unfold dS;simp[m97,m98,m99,m100,m101,m102,m116,m120,m121,m122]
    refine eN (bP (resE (c :: d :: t))) ?_
    rw[hR,e2,arQ,arA,hN]
    exact rfl
 ·have hN:(oz c&&((d :: t)==[112]||(d :: t)==[109]))=false:=by
   cases t with
   | nil=>exact absurd rfl h2
   | cons y t=>simp
  refine fR ((d :: t).length) (fun k=>[(3,.s (iA (k+1:Nat)))]) (fun k=>[]) (fun k=>∀x∈(d :: t).take k,eD x=true) (by exact (ai (ai (fun _=>rfl) (iE (by omega))) rfl)) (by exact trivial) ?_ ?_
  ·exact fun y hy=>absurd hy (by simp)
  intro (k:Nat) ⟨hk,hall⟩
  refine ah (p:=k<(d :: t).length) (by exact aB (by rw[hz];simp only[apl];omega)) (fun h8=>?_) (fun h8=>?_)
  ·refine ei ((d :: t).getD k 0) (ai (ai (aa1 _) (ng (s:=c :: d :: t) (k:=k+1) (by simp at h8 ⊢;omega))) ?_)
   refine cK (zo) ((d :: t).getD k 0) (by exact rfl) (trivial) ?_
   refine aC (b:=!eD ((d :: t).getD k 0)) rfl (fun h9=>?_) (fun h9=>?_)
   ·have e:(d :: t).all eD=false:=by
     rw[atX]
     exact ⟨_,aa0 (bC 0 h8),by simpa using h9⟩
    refine eN (bP (resE (c :: d :: t))) ?_
    rw[hR,e,arX,arA,hN]
    exact rfl
   refine nX (k) (ai (ai (fun _=>rfl) (aH (by omega))) rfl) trivial ?_
   intro y hy
   rw[aQ 0 h8] at hy
   rcases acE.1 hy with hy | hy
   ·exact hall y hy
   ·simp only[acN] at hy;subst hy;simpa using h9
  ·obtain rfl:k=(d :: t).length:=by omega
   rw[acI] at hall
   have e:(d :: t).all eD=true:=aot.2 hall
   refine ai (by decide) ?_
   refine ei (mg.unroll 11) ?_
   refine ai (ai (by decide) (by decide)) ?_
   refine ai rfl ?_
   refine ei c (ai (ai (by decide) i0) ?_)
   refine ah (p:=c=97) (by exact dO rfl) (fun m97=>?_) (fun m97=>?_)
   ·have e2:dS c=true:=by rw[m97];rfl
    refine eN (bP (resE (c :: d :: t))) ?_
    rw[hR,e,e2,acP,afq]
    exact rfl
   refine ai (ai (by decide) (by decide)) ?_
   refine ai rfl ?_
   refine ei c (ai (ai (by decide) i0) ?_)
   refine ah (p:=c=98) (by exact dO rfl) (fun m98=>?_) (fun m98=>?_)
   ·have e2:dS c=true:=by rw[m98];rfl
    refine eN (bP (resE (c :: d :: t))) ?_
    rw[hR,e,e2,acP,afq]
    exact rfl
   refine ai (ai (by decide) (by decide)) ?_
   refine ai rfl ?_
   refine ei c (ai (ai (by decide) i0) ?_)
   refine ah (p:=c=99) (by exact dO rfl) (fun m99=>?_) (fun m99=>?_)
   ·have e2:dS c=true:=by rw[m99];rfl
    refine eN (bP (resE (c :: d :: t))) ?_
    rw[hR,e,e2,acP,afq]
    exact rfl
   refine ai (ai (by decide) (by decide)) ?_
   refine ai rfl ?_
   refine ei c (ai (ai (by decide) i0) ?_)
   refine ah (p:=c=100) (by exact dO rfl) (fun m100=>?_) (fun m100=>?_)
   ·have e2:dS c=true:=by rw[m100];rfl
    refine eN (bP (resE (c :: d :: t))) ?_
    rw[hR,e,e2,acP,afq]
    exact rfl
   refine ai (ai (by decide) (by decide)) ?_
   refine ai rfl ?_
   refine ei c (ai (ai (by decide) i0) ?_)
   refine ah (p:=c=101) (by exact dO rfl) (fun m101=>?_) (fun m101=>?_)
   ·have e2:dS c=true:=by rw[m101];rfl
    refine eN (bP (resE (c :: d :: t))) ?_
    rw[hR,e,e2,acP,afq]
    exact rfl
   refine ai (ai (by decide) (by decide)) ?_
   refine ai rfl ?_
   refine ei c (ai (ai (by decide) i0) ?_)
   refine ah (p:=c=102) (by exact dO rfl) (fun m102=>?_) (fun m102=>?_)
   ·have e2:dS c=true:=by rw[m102];rfl
    refine eN (bP (resE (c :: d :: t))) ?_
    rw[hR,e,e2,acP,afq]
    exact rfl
   refine ai (ai (by decide) (by decide)) ?_
   refine ai rfl ?_
   refine ei c (ai (ai (by decide) i0) ?_)
   refine ah (p:=c=116) (by exact dO rfl) (fun m116=>?_) (fun m116=>?_)
   ·have e2:dS c=true:=by rw[m116];rfl
    refine eN (bP (resE (c :: d :: t))) ?_
    rw[hR,e,e2,acP,afq]
    exact rfl
   refine ai (ai (by decide) (by decide)) ?_
   refine ai rfl ?_
   refine ei c (ai (ai (by decide) i0) ?_)
   refine ah (p:=c=120) (by exact dO rfl) (fun m120=>?_) (fun m120=>?_)
   ·have e2:dS c=true:=by rw[m120];rfl
    refine eN (bP (resE (c :: d :: t))) ?_
    rw[hR,e,e2,acP,afq]
    exact rfl
   refine ai (ai (by decide) (by decide)) ?_
   refine ai rfl ?_
   refine ei c (ai (ai (by decide) i0) ?_)
   refine ah (p:=c=121) (by exact dO rfl) (fun m121=>?_) (fun m121=>?_)
   ·have e2:dS c=true:=by rw[m121];rfl
    refine eN (bP (resE (c :: d :: t))) ?_
    rw[hR,e,e2,acP,afq]
    exact rfl
   refine ai (ai (by decide) (by decide)) ?_
   refine ai rfl ?_
   refine ei c (ai (ai (by decide) i0) ?_)
   refine ah (p:=c=122) (by exact dO rfl) (fun m122=>?_) (fun m122=>?_)
   ·have e2:dS c=true:=by rw[m122];rfl
    refine eN (bP (resE (c :: d :: t))) ?_
    rw[hR,e,e2,acP,afq]
    exact rfl
   have e2:dS c=false:=by unfold dS;simp[m97,m98,m99,m100,m101,m102,m116,m120,m121,m122]
   refine eN (bP (resE (c :: d :: t))) ?_
   rw[hR,e2,arQ,arA,hN]
   exact rfl
def aap (l:List UInt8) (k:Nat):PV:=bP (l.any fun y=>y.toNat==k)
theorem xS:∀(l:List Value) (k:Nat),nH (vals l) k=.val (l.getD k undef)
 | [],k=>rfl
 | v :: l,0=>rfl
 | v :: l,k+1=>by
  show nH (vals l) k=_
  rw[xS l k];rfl
theorem agK (n:Nat) (v:Value) {k:Nat} (h:k<n):(List.replicate n v).getD k undef=v:=by
 rw[aam,avf,if_pos h];rfl
theorem anX {l:List UInt8} {c:UInt8} (k:Nat):vO (aap l) c.toNat (bP true) k=aap (l++[c]) k:=by
 unfold vO aap
 rw[axN]
 by_cases h:k=c.toNat
 ·rw[if_pos h];subst h;simp
 ·rw[if_neg h]
  have:(c.toNat==k)=false:=by simpa using fun e=>h e.symm
  simp[this]
def au9:Spec:=bH (fun l:List UInt8=>[sA l]) (fun l=>l.length≤1000∧∀y∈l,y.toNat<128) (fun l=>.tup [.arr 256 (aap l),bP true])
theorem ap5:ay Tryz.prog 293 au9:=by
 refine vF Tryz.func293 ?_
 rintro (l:List UInt8) hpre
 obtain ⟨hl,ha⟩:=hpre
 have hl:l.length≤1000:=hl
 have hz:=bZ l
 refine fR (l.length) (fun k=>[(4,.s (iA k))]) (fun k=>[⟨0,323,[.ob (.arr 323 256 (aap (l.take k)))]⟩]) (fun k=>True) ?_ ?_ ?_ ?_
 ·exact (ai (ai (fun _=>rfl) (iE (by omega))) rfl)
 ·refine (ai (ai rfl (ai rfl ?_)) trivial)
  intro k hk
  show nH (vals (List.replicate 256 (.bool false))) k=_
  rw[xS,agK 256 _ hk];rfl
 ·trivial
 intro (k:Nat) ⟨hk,_⟩
 refine ah (p:=k<l.length) (by exact aB (by rw[hz];omega)) (fun h1=>?_) (fun h1=>?_)
 ·refine ei (l.getD k 0) (ai (ai (aa1 _) (ng h1)) ?_)
  have hc:=ha _ (aa0 (bC 0 h1))
  refine bG (128≤(l.getD k 0).toNat) (fun h2=>?_) fun h2=>?_
  ·omega
  refine ai (ai (aa1 _) (by show (((l.getD k 0).toNat:Nat):Int)<256;omega)) ?_
  refine ai (by show 0+(((l.getD k 0).toNat:Nat):Int).toNat*1<256;rw[aen];omega) ?_
  refine nX (k) (ai (ai (fun _=>rfl) (aH (by omega))) rfl) (ai (ai rfl (ai rfl ?_)) trivial) trivial
  intro j hj
  show vO (aap (l.take k)) (0+(((l.getD k 0).toNat:Nat):Int).toNat*1) (bP true) j=_
  rw[aen,auY,ajv,anX,aQ 0 h1]
 ·obtain rfl:k=l.length:=by omega
  rw[acI]
  refine eN _ ?_
  exact (ai (ai rfl (fun _ _=>rfl)) rfl)
def gM (l:List UInt8) (c:UInt8):Bool:=l.any fun y=>y.toNat==c.toNat
def awk:Spec:={ A:=List UInt8×UInt8,args:=fun a=>[.own 0 0,cA a.2],objs:=fun a=>[.arr 323 256 (aap a.1)],pre:=fun _=>True,res:=fun a=>bP (gM a.1 a.2),objs':=fun _=>[],fresh:=true,ro:=1 }
theorem ali:ay Tryz.prog 306 awk:=by
 refine vF Tryz.func306 ?_
 rintro (a:List UInt8×UInt8) hpre
 have hc:a.2.toNat<256:=a.2.toNat_lt
 have e0:0+((a.2.toNat:Nat):Int).toNat*1=a.2.toNat:=by simp
 refine ai (ai (aa1 _) (by show ((a.2.toNat:Nat):Int)<256;omega)) ?_
 refine ai (by show 0+((a.2.toNat:Nat):Int).toNat*1<256;rw[e0];exact hc) ?_
 refine ai (ai (fun _=>trivial) ?_) trivial
 show (a.1.any fun y=>y.toNat==0+((a.2.toNat:Nat):Int).toNat*1)=_
 rw[e0];rfl
def xu (p:UInt8→Bool) (s:List UInt8):Nat→Nat
 | 0=>0
 | k+1=>if p (s.getD k 0) then xu p s k else k+1
def trR (p:UInt8→Bool) (s:List UInt8):List UInt8:=s.take (xu p s s.length)
theorem ajc (s:List UInt8) (k:Nat):(strOf s).extract 0 k=strOf (s.take k):=by
 apply ByteArray.ext
 simp[strOf]
theorem ajp (s:List UInt8) (k:Nat):(strOf s).extract k (strOf s).size=strOf (s.drop k):=by
 apply ByteArray.ext
 have:(strOf s).size=s.length:=bZ s
 rw[this]
 simp[strOf]
 rw[avr (by simp)]
def avD (g:List UInt8→List UInt8→List UInt8):Spec:={ A:=List UInt8×List UInt8,args:=fun a=>[sA a.2,.own 0 0],objs:=fun a=>[.arr 323 256 (aap a.1)],pre:=fun a=>a.2.length≤1000000,res:=fun a=>sP (g a.1 a.2),objs':=fun _=>[],fresh:=true,ro:=1 }
theorem aqI:ay Tryz.prog 295 (avD fun l s=>trR (gM l) s):=by
 refine vF Tryz.func295 ?_
 rintro (a:List UInt8×List UInt8) hpre
 have hl:a.2.length≤1000000:=hpre
 refine ei (mg.inv { X:=Nat,up:=fun k=>[(0,.s (sA (a.2.take k)))],uo:=fun _=>[],inv:=fun k=>k≤a.2.length∧xu (gM a.1) a.2 a.2.length=xu (gM a.1) a.2 k,meas:=fun k=>k,x0:=a.2.length }) ?_
 refine ai (ai (ai (by exact (a4 (ai rfl rfl))) (ai ?_ ?_)) ?_) (ai ?_ ?_)
 ·refine (ai (ai nof ?_) rfl)
  show strOf a.2=strOf (a.2.take a.2.length)
  rw[acI]
 ·exact trivial
 ·rfl
 ·exact ⟨abm _,rfl⟩
 intro (k:Nat) ⟨hk,hinv⟩
 have htl:(a.2.take k).length=k:=by rw[arI];omega
 have hz:(strOf (a.2.take k)).size=k:=by rw[bZ,htl]
 refine ah (p:=0<k) (by exact aB (by show (0:Int)<(((strOf (a.2.take k)).size:Nat):Int)↔_;rw[hz];omega)) (fun h1=>?_) (fun h1=>?_)
 ·obtain ⟨k,rfl⟩:∃j,k=j+1:=⟨k-1,by omega⟩
  have hw:IntKind.i64.wrap ((((strOf (a.2.take (k+1))).size:Nat):Int)-1)=(k:Int):=by rw[hz,ko (by omega) (by omega)];omega
  have hg:(a.2.take (k+1)).getD k 0=a.2.getD k 0:=by rw[aam,aam,auL,if_pos (by omega)]
  refine ei (a.2.getD k 0) (ai (ai (by rw[hw];exact aa1 _) (by rw[hw,←hg];exact ng (by omega))) ?_)
  refine ei _ (ai (ali) (ei ((a.1,a.2.getD k 0)) (ei [0] (ai (a4 (ai (fun _=>Or.inl rfl) (ai nof (Or.inl rfl)))) (ai (by exact (ai (ai rfl rfl) rfl)) (ai (by exact (ai rfl (ai rfl (fun _ _=>rfl)))) (ai (trivial) ?_)))))))
  have hT:xu (gM a.1) a.2 (k+1)=if gM a.1 (a.2.getD k 0) then xu (gM a.1) a.2 k else k+1:=rfl
  refine aC (b:=!gM a.1 (a.2.getD k 0)) rfl (fun h2=>?_) (fun h2=>?_)
  ·have h2:gM a.1 (a.2.getD k 0)=false:=by simpa using h2
   have e:trR (gM a.1) a.2=a.2.take (k+1):=by
    unfold trR;rw[hinv,hT,h2];rfl
   refine eN (sP (trR (gM a.1) a.2)) ?_
   rw[e]
   exact rfl
  ·have h2:gM a.1 (a.2.getD k 0)=true:=by simpa using h2
   refine ai (ai (by decide) (ai (by rw[hw];exact aa1 _) (by rw[hw,hz];omega))) ?_
   refine ei (k) (ai (ai rfl rfl) (ai (ai ?_ ?_) (ai ?_ ?_)))
   ·refine (ai rfl (ai (ai rfl rfl) (ai (ai rfl rfl) (ai (ai (ai (fun _=>rfl) ?_) rfl) trivial))))
    show (strOf (a.2.take (k+1))).extract 0 (IntKind.i64.wrap ((((strOf (a.2.take (k+1))).size:Nat):Int)-1)).toNat=strOf (a.2.take k)
    rw[hw,aen,ajc,List.take_take,Nat.min_eq_left (by omega)]
   ·rfl
   ·exact ⟨by omega,by rw[hinv,hT,h2];rfl⟩
   ·show k<k+1;omega
 ·obtain rfl:k=0:=by omega
  have e:trR (gM a.1) a.2=a.2.take 0:=by
   unfold trR;rw[hinv];rfl
  refine eN (sP (trR (gM a.1) a.2)) ?_
  rw[e]
  exact rfl
theorem apH:ay Tryz.prog 294 (avD fun l s=>s.dropWhile (gM l)):=by
 refine vF Tryz.func294 ?_
 rintro (a:List UInt8×List UInt8) hpre
 have hl:a.2.length≤1000000:=hpre
 refine ei (mg.inv { X:=Nat,up:=fun k=>[(0,.s (sA (a.2.drop k)))],uo:=fun _=>[],inv:=fun k=>k≤a.2.length∧a.2.dropWhile (gM a.1)=(a.2.drop k).dropWhile (gM a.1),meas:=fun k=>a.2.length-k,x0:=0 }) ?_
 refine ai (ai (ai (by exact (a4 (ai rfl rfl))) (ai ?_ ?_)) ?_) (ai ?_ ?_)
 ·exact (ai (ai nof rfl) rfl)
 ·exact trivial
 ·rfl
 ·exact ⟨akx _,rfl⟩
 intro (k:Nat) ⟨hk,hinv⟩
 have htl:(a.2.drop k).length=a.2.length-k:=List.length_drop
 have hz:(strOf (a.2.drop k)).size=a.2.length-k:=by rw[bZ,htl]
 refine ah (p:=k<a.2.length) (by exact aB (by show (0:Int)<(((strOf (a.2.drop k)).size:Nat):Int)↔_;rw[hz];omega)) (fun h1=>?_) (fun h1=>?_)
 ·have hcons:a.2.drop k=a.2.getD k 0 :: a.2.drop (k+1):=by
   rw[axj h1,aam,aav h1];rfl
  refine ei (a.2.getD k 0) (ai (ai (by decide) (by rw[hcons];rfl)) ?_)
  refine ei _ (ai (ali) (ei ((a.1,a.2.getD k 0)) (ei [0] (ai (a4 (ai (fun _=>Or.inl rfl) (ai nof (Or.inl rfl)))) (ai (by exact (ai (ai rfl rfl) rfl)) (ai (by exact (ai rfl (ai rfl (fun _ _=>rfl)))) (ai (trivial) ?_)))))))
  refine aC (b:=!gM a.1 (a.2.getD k 0)) rfl (fun h2=>?_) (fun h2=>?_)
  ·have h2:gM a.1 (a.2.getD k 0)=false:=by simpa using h2
   have e:a.2.dropWhile (gM a.1)=a.2.drop k:=by
    rw[hinv,hcons,axQ,if_neg (by rw[h2];decide)]
   refine eN (sP (a.2.dropWhile (gM a.1))) ?_
   rw[e]
   exact rfl
  ·have h2:gM a.1 (a.2.getD k 0)=true:=by simpa using h2
   refine ai (ai (by decide) (ai (by rw[hz];omega) (axA _))) ?_
   refine ei ((k+1)) (ai (ai rfl rfl) (ai (ai ?_ ?_) (ai ?_ ?_)))
   ·refine (ai rfl (ai (ai rfl rfl) (ai (ai rfl rfl) (ai (ai (ai (fun _=>rfl) ?_) rfl) trivial))))
    show (strOf (a.2.drop k)).extract 1 ((((strOf (a.2.drop k)).size:Nat):Int)).toNat=strOf (a.2.drop (k+1))
    rw[aen,ajp,List.drop_drop]
   ·rfl
   ·exact ⟨h1,by rw[hinv,hcons,axQ,if_pos h2]⟩
   ·show a.2.length-(k+1)<a.2.length-k;omega
 ·have e:a.2.dropWhile (gM a.1)=a.2.drop k:=by
   rw[hinv,axB (by omega)];rfl
  refine eN (sP (a.2.dropWhile (gM a.1))) ?_
  rw[e]
  exact rfl
def nW:List UInt8:=[48,49,50,51,52,53,54,55,56,57]
def aix (s:List UInt8):List UInt8:=(trR (gM nW) s).dropWhile (gM nW)
theorem aso:ay Tryz.prog 285 (bH (fun s:List UInt8=>[sA s,sA nW]) (fun s=>s.length≤1000000) (fun s=>sP (aix s))):=by
 refine vF Tryz.func285 ?_
 rintro (s:List UInt8) hpre
 have hl:s.length≤1000000:=hpre
 refine ah (p:=s=[]) (by show (s==[])=true↔_;exact beq_iff_eq) (fun h1=>?_) (fun h1=>?_)
 ·subst h1
  refine eN _ ?_
  exact rfl
 refine cK (ap5) (nW) (by exact rfl) (⟨by show nW.length≤1000;decide,by decide⟩) ?_
 refine ei _ (ai (aqI) (ei ((nW,s)) (ei [0] (ai (a4 (ai (fun _=>Or.inl rfl) (ai nof (Or.inl rfl)))) (ai (by exact (ai rfl (ai rfl rfl))) (ai (by exact (ai rfl (ai rfl (fun _ _=>rfl)))) (ai (hl) ?_)))))))
 refine ei _ (ai (apH) (ei ((nW,trR (gM nW) s)) (ei [0] (ai (a4 (ai (fun _=>Or.inl rfl) (ai nof (Or.inl rfl)))) (ai (by exact (ai rfl (ai rfl rfl))) (ai (by exact (ai rfl (ai rfl (fun _ _=>rfl)))) (ai ((by show (trR (gM nW) s).length≤1000000;unfold trR;rw[arI];omega)) ?_)))))))
 refine eN _ ?_
 exact rfl
theorem aqW (c:UInt8):gM nW c=eD c:=by
 rw[arR]
 unfold gM nW eD
 simp only[axu,axO,axC,aru,abj,beq_iff_eq,decide_eq_true_eq]
 have h48:(48:UInt8).toNat=48:=rfl
 have h49:(49:UInt8).toNat=49:=rfl
 have h50:(50:UInt8).toNat=50:=rfl
 have h51:(51:UInt8).toNat=51:=rfl
 have h52:(52:UInt8).toNat=52:=rfl
 have h53:(53:UInt8).toNat=53:=rfl
 have h54:(54:UInt8).toNat=54:=rfl
 have h55:(55:UInt8).toNat=55:=rfl
 have h56:(56:UInt8).toNat=56:=rfl
 have h57:(57:UInt8).toNat=57:=rfl
 omega
theorem alW {p:UInt8→Bool} {s:List UInt8}:∀{k:Nat},(∀j,j<k→p (s.getD j 0)=true)→xu p s k=0
 | 0,_=>rfl
 | k+1,h=>by rw[xu,if_pos (h k (by omega))];exact alW fun j hj=>h j (by omega)
theorem alu {p:UInt8→Bool} {s:List UInt8}:∀{k:Nat},xu p s k≠0→∃j,xu p s k=j+1∧p (s.getD j 0)=false∧j<k
 | 0,h=>absurd rfl h
 | k+1,h=>by
  by_cases hp:p (s.getD k 0)=true
  ·rw[xu,if_pos hp] at h ⊢
   obtain ⟨j,h1,h2,h3⟩:=alu h
   exact ⟨j,h1,h2,by omega⟩
  ·rw[xu,if_neg hp]
   exact ⟨k,rfl,by simpa using hp,by omega⟩
theorem ah5 {p:UInt8→Bool}:∀{l:List UInt8},l.dropWhile p=[]↔∀x∈l,p x=true
 | []=>by simp
 | y :: l=>by
  rw[axQ]
  by_cases h:p y=true
  ·rw[if_pos h,ah5];simp[h]
  ·rw[if_neg h];simp[h]
theorem aoY (s:List UInt8):(aix s==[])=s.all eD:=by
 have hset:gM nW=eD:=funext aqW
 unfold aix
 rw[hset,arR,beq_iff_eq,ah5,aot]
 constructor
 ·intro h
  by_cases h0:xu eD s s.length=0
  ·intro x hx
   refine Classical.byContradiction fun hn=>?_
   obtain ⟨k,hk,rfl⟩:=apT hx
   have:∀m,k<m→xu eD s m≠0:=by
    intro m hm
    induction m with
    | zero=>omega
    | succ m ih=>
     rw[xu]
     by_cases e:k=m
     ·subst e
      rw[if_neg (by rw[aam,aav hk];exact hn)]
      omega
     ·split
      ·exact ih (by omega)
      ·omega
   exact this _ hk h0
  ·obtain ⟨j,h1,h2,h3⟩:=alu h0
   have:s.getD j 0∈trR eD s:=by
    unfold trR
    rw[h1,aQ 0 h3];simp
   have:=h _ this
   rw[h2] at this;cases this
 ·intro h x hx
  have:xu eD s s.length=0:=alW fun j hj=>h _ (aa0 (bC 0 hj))
  unfold trR at hx
  rw[this] at hx;simp at hx
theorem ao0:ay Tryz.prog 276 (bH (fun s:List UInt8=>[sA s]) (fun s=>s.length≤1000000) (fun s=>bP (!s.isEmpty&&s.all eD))):=by
 refine vF Tryz.func276 ?_
 rintro (s:List UInt8) hpre
 have hl:s.length≤1000000:=hpre
 refine aX (p:=s=[]) (by show (s != [])=true↔_;exact bne_iff_ne) (fun h1=>?_) (fun h1=>?_)
 ·refine cK (aso) (s) (by exact (ai rfl rfl)) (hl) ?_
  have h2:s.isEmpty=false:=by cases s with | nil=>exact absurd rfl h1 | cons x l=>rfl
  refine eN (bP (!s.isEmpty&&s.all eD)) ?_
  rw[show (!s.isEmpty&&s.all eD)=(aix s==[]) by rw[h2,aoY];rfl]
  exact rfl
 ·refine eN (bP (!s.isEmpty&&s.all eD)) ?_
  rw[show (!s.isEmpty&&s.all eD)=false by rw[h1];rfl]
  exact rfl
theorem alr (c:UInt8):(([97,98,99,100,101,102]:List UInt8).any fun y=>c==y)=oz c:=by
 rw[arR]
 unfold oz
 have h97:(97:UInt8).toNat=97:=rfl
 have h98:(98:UInt8).toNat=98:=rfl
 have h99:(99:UInt8).toNat=99:=rfl
 have h100:(100:UInt8).toNat=100:=rfl
 have h101:(101:UInt8).toNat=101:=rfl
 have h102:(102:UInt8).toNat=102:=rfl
 simp only[axu,axO,axC,aru,abj,beq_iff_eq,decide_eq_true_eq,←UInt8.toNat_inj]
 omega
theorem as8:ay Tryz.prog 251 (bH (fun s:List UInt8=>[sA s]) (fun s=>s.length≤1000000) (fun s=>bP (resE s))):=by
 refine vF Tryz.func251 ?_
 rintro (s:List UInt8) hpre
 have hl:s.length≤1000000:=hpre
 refine ah (p:=s=[]) (by show (s==[])=true↔_;exact beq_iff_eq) (fun h1=>?_) (fun h1=>?_)
 ·subst h1
  refine eN _ ?_
  exact rfl
 obtain ⟨c,t,rfl⟩:∃c t,s=c :: t:=by
  cases s with
  | nil=>exact absurd rfl h1
  | cons c t=>exact ⟨c,t,rfl⟩
 have hz:(strOf (c :: t)).size=t.length+1:=by rw[bZ];rfl
 have e1:(strOf (c :: t)).extract (0:Int).toNat (1:Int).toNat=strOf [c]:=ajc (c :: t) 1
 have e2:(strOf (c :: t)).extract (1:Int).toNat ((((strOf (c :: t)).size:Nat):Int)).toNat=strOf t:=by rw[aen];exact ajp (c :: t) 1
 have hR:resE (c :: t)=(!t.isEmpty&&((dS c&&t.all eD)||(oz c&&(t==[112]||t==[109])))):=rfl
 have b1:(0:Int)≤0∧(0:Int)≤1∧(1:Int)≤(((strOf (c :: t)).size:Nat):Int):=⟨by decide,by decide,by rw[hz];omega⟩
 have b2:(0:Int)≤1∧(1:Int)≤(((strOf (c :: t)).size:Nat):Int)∧(((strOf (c :: t)).size:Nat):Int)≤(((strOf (c :: t)).size:Nat):Int):=⟨by decide,by rw[hz];omega,axA _⟩
 have ht:t.length≤1000000:=by simp at hl;omega
 have e3:∀y:UInt8,(((strOf (c :: t)).extract (1:Int).toNat ((((strOf (c :: t)).size:Nat):Int)).toNat).data.toList==[y])=true↔t=[y]:=fun y=>by rw[e2];exact beq_iff_eq
 refine ai b1 ?_
 refine ei _ (ai (agw) (ei (([97,98,99,100,101,102,116,120,121,122],c)) (ei [] (ai (a4 (ai (fun _=>Or.inl rfl) (ai nof (Or.inl rfl)))) (ai ?_ (ai (by exact trivial) (ai (trivial) ?_)))))))
 ·refine (ai rfl ?_)
  exact e1
 refine ah (p:=dS c=true) (by exact Iff.rfl) (fun h2=>?_) (fun h2=>?_)
 ·refine ai b2 ?_
  refine ei _ (ai (ao0) (ei (t) (ei [] (ai (a4 (ai (fun _=>Or.inl rfl) (ai nof (Or.inl rfl)))) (ai ?_ (ai (by exact trivial) (ai (ht) ?_)))))))
  ·skip
   exact e2
  refine ah (p:=(!t.isEmpty&&t.all eD)=true) (by exact Iff.rfl) (fun h3=>?_) (fun h3=>?_)
  ·refine eN (bP (resE (c :: t))) ?_
   rw[show resE (c :: t)=true by rw[hR,h2];simp at h3 ⊢;exact ⟨h3.1,.inl h3.2⟩]
   exact rfl
  ·have hN:resE (c :: t)=(oz c&&(t==[112]||t==[109])):=by
    rw[hR]
    cases t with
    | nil=>simp
    | cons y t=>
     have h3:¬((y :: t).all eD)=true:=fun e=>h3 (by rw[e];rfl)
     rw[awu.2 h3];simp
   refine ai b1 ?_
   refine ei _ (ai (agw) (ei (([97,98,99,100,101,102],c)) (ei [] (ai (a4 (ai (fun _=>Or.inl rfl) (ai nof (Or.inl rfl)))) (ai ?_ (ai (by exact trivial) (ai (trivial) ?_)))))))
   ·refine (ai rfl ?_)
    exact e1
   refine ah (p:=oz c=true) (by rw[alr]) (fun h4=>?_) (fun h4=>?_)
   ·refine ai b2 ?_
    refine ah (p:=t=[112]) (by exact e3 112) (fun h5=>?_) (fun h5=>?_)
    ·refine eN (bP (resE (c :: t))) ?_
     rw[hN,h4,h5]
     exact rfl
    ·refine ai b2 ?_
     refine eN (bP (resE (c :: t))) ?_
     rw[hN,h4,e2]
     skip
     show (t==[109])=(true&&(t==[112]||t==[109]))
     rw[show (t==[112])=false by simpa using h5];rfl
   ·refine eN (bP (resE (c :: t))) ?_
    rw[hN,awu.2 h4,arQ]
    exact rfl
 ·have hN:resE (c :: t)=(oz c&&(t==[112]||t==[109])):=by
   rw[hR,awu.2 h2]
   cases t with
   | nil=>simp
   | cons y t=>simp
  refine ai b1 ?_
  refine ei _ (ai (agw) (ei (([97,98,99,100,101,102],c)) (ei [] (ai (a4 (ai (fun _=>Or.inl rfl) (ai nof (Or.inl rfl)))) (ai ?_ (ai (by exact trivial) (ai (trivial) ?_)))))))
  ·refine (ai rfl ?_)
   exact e1
  refine ah (p:=oz c=true) (by rw[alr]) (fun h4=>?_) (fun h4=>?_)
  ·refine ai b2 ?_
   refine ah (p:=t=[112]) (by exact e3 112) (fun h5=>?_) (fun h5=>?_)
   ·refine eN (bP (resE (c :: t))) ?_
    rw[hN,h4,h5]
    exact rfl
   ·refine ai b2 ?_
    refine eN (bP (resE (c :: t))) ?_
    rw[hN,h4,e2]
    skip
    show (t==[109])=(true&&(t==[112]||t==[109]))
    rw[show (t==[112])=false by simpa using h5];rfl
  ·refine eN (bP (resE (c :: t))) ?_
   rw[hN,awu.2 h4,arQ]
   exact rfl
def fu (s:List UInt8):Int:=if 24<s.length then 17 else if s.isEmpty||!jf (s.getD 0 0)||resE s then 3 else if s.all dW then 0 else 3
theorem asG:ay Tryz.prog 200 (bH (fun s:List UInt8=>[sA s]) (fun s=>True) (fun s=>iP (fu s))):=by
 refine vF Tryz.func200 ?_
 rintro (s:List UInt8) hpre
 have hz:=bZ s
 refine ah (p:=24<s.length) (by exact aB (by rw[hz];omega)) (fun h1=>?_) (fun h1=>?_)
 ·refine eN (iP (fu s)) ?_
  rw[fu,if_pos h1]
  exact rfl
 have hN:fu s=if s.isEmpty||!jf (s.getD 0 0)||resE s then 3 else if s.all dW then 0 else 3:=by unfold fu;rw[if_neg h1]
 refine ah (p:=s=[]) (by show (s==[])=true↔_;exact beq_iff_eq) (fun h2=>?_) (fun h2=>?_)
 ·refine eN (iP (fu s)) ?_
  rw[show fu s=3 by rw[hN,h2];rfl]
  exact rfl
 have hp:0<s.length:=List.length_pos_iff.2 h2
 have he:s.isEmpty=false:=by cases s with | nil=>exact absurd rfl h2 | cons x l=>rfl
 have i0:(strOf s)[(0:Int).toNat]?=some (s.getD 0 0):=ng hp
 refine ei (s.getD 0 0) (ai (ai (by decide) i0) ?_)
 refine bL ((s.getD 0 0).toNat<97) (fun h3=>?_) fun h3=>?_
 ·have hsF:jf (s.getD 0 0)=false:=by unfold jf;rw[decide_eq_false (by omega)];rfl
  refine eN (iP (fu s)) ?_
  rw[show fu s=3 by rw[hN,he,hsF];simp]
  exact rfl
 refine ei (s.getD 0 0) (ai (ai (by decide) i0) ?_)
 refine bL (122<(s.getD 0 0).toNat) (fun h4=>?_) fun h4=>?_
 ·have hsF:jf (s.getD 0 0)=false:=by unfold jf;rw[decide_eq_false (show ¬(s.getD 0 0).toNat≤122 by omega)];simp
  refine eN (iP (fu s)) ?_
  rw[show fu s=3 by rw[hN,he,hsF];simp]
  exact rfl
 have hs:jf (s.getD 0 0)=true:=by unfold jf;rw[decide_eq_true (by omega),decide_eq_true (by omega)];rfl
 rw[he,hs,Bool.not_true,arA,arA] at hN
 refine cK (as8) (s) (by exact rfl) ((by show s.length≤1000000;omega)) ?_
 refine aC (b:=resE s) rfl (fun h5=>?_) (fun h5=>?_)
 ·refine eN (iP (fu s)) ?_
  rw[hN,if_pos h5]
  exact rfl
 rw[if_neg (by rw[h5];decide)] at hN
 refine fR (s.length) (fun k=>[(25,.s (iA k))]) (fun k=>[]) (fun k=>∀c∈s.take k,dW c=true) (by exact (ai (ai (fun _=>rfl) (iE (by omega))) rfl)) (by exact trivial) ?_ ?_
 ·exact fun y hy=>absurd hy (by simp)
 intro (k:Nat) ⟨hk,hall⟩
 refine ah (p:=k<s.length) (by exact aB (by rw[hz];omega)) (fun h6=>?_) (fun h6=>?_)
 ·refine ei (s.getD k 0) (ai (ai (aa1 _) (ng h6)) ?_)
  refine cK (amo) (s.getD k 0) (by exact rfl) (trivial) ?_
  refine aC (b:=!dW (s.getD k 0)) rfl (fun h7=>?_) (fun h7=>?_)
  ·have h8:s.all dW=false:=by
    rw[atX]
    exact ⟨s.getD k 0,aa0 (bC 0 h6),by simpa using h7⟩
   refine eN (iP (fu s)) ?_
   rw[hN,if_neg (show ¬s.all dW=true by rw[h8];decide)]
   exact rfl
  refine nX (k) (ai (ai (fun _=>rfl) (aH (by omega))) rfl) trivial ?_
  intro y hy
  rw[aQ 0 h6] at hy
  rcases acE.1 hy with hy | hy
  ·exact hall y hy
  ·simp only[acN] at hy;subst hy;simpa using h7
 ·obtain rfl:k=s.length:=by omega
  rw[acI] at hall
  refine eN (iP (fu s)) ?_
  rw[hN,if_pos (aot.2 hall)]
  exact rfl
theorem aq1:ay Tryz.prog 172 (bH (fun s:List UInt8=>[sA s]) (fun s=>True) (fun s=>iP (fu s))):=by
 refine vF Tryz.func172 ?_
 rintro (s:List UInt8) hpre
 have hz:=bZ s
 refine ah (p:=24<s.length) (by exact aB (by rw[hz];omega)) (fun h1=>?_) (fun h1=>?_)
 ·refine eN (iP (fu s)) ?_
  rw[fu,if_pos h1]
  exact rfl
 have hN:fu s=if s.isEmpty||!jf (s.getD 0 0)||resE s then 3 else if s.all dW then 0 else 3:=by unfold fu;rw[if_neg h1]
 refine ah (p:=s=[]) (by exact uT (by rw[hz];cases s with | nil=>simp | cons x l=>simp;omega)) (fun h2=>?_) (fun h2=>?_)
 ·refine eN (iP (fu s)) ?_
  rw[show fu s=3 by rw[hN,h2];rfl]
  exact rfl
 have hp:0<s.length:=List.length_pos_iff.2 h2
 have he:s.isEmpty=false:=by cases s with | nil=>exact absurd rfl h2 | cons x l=>rfl
 have i0:(strOf s)[(0:Int).toNat]?=some (s.getD 0 0):=ng hp
 refine ei (s.getD 0 0) (ai (ai (by decide) i0) ?_)
 refine cK (ajW) (s.getD 0 0) (by exact rfl) (trivial) ?_
 refine aC (b:=!jf (s.getD 0 0)) rfl (fun h3=>?_) (fun h3=>?_)
 ·have hsF:jf (s.getD 0 0)=false:=by simpa using h3
  refine eN (iP (fu s)) ?_
  rw[show fu s=3 by rw[hN,he,hsF];simp]
  exact rfl
 have hs:jf (s.getD 0 0)=true:=by simpa using h3
 rw[he,hs,Bool.not_true,arA,arA] at hN
 refine cK (apY) (s) (by exact rfl) ((by show s.length≤1000000;omega)) ?_
 refine aC (b:=resE s) rfl (fun h5=>?_) (fun h5=>?_)
 ·refine eN (iP (fu s)) ?_
  rw[hN,if_pos h5]
  exact rfl
 rw[if_neg (by rw[h5];decide)] at hN
 obtain ⟨c,t,rfl⟩:∃c t,s=c :: t:=by
  cases s with
  | nil=>exact absurd rfl h2
  | cons c t=>exact ⟨c,t,rfl⟩
 have hl2:t.length≤1000000:=by simp at h1;omega
 have hc0:dW c=true:=by
  have hs:jf c=true:=hs
  unfold dW;rw[hs];simp
 refine fR (t.length) (fun k=>[(3,.s (iA (k+1:Nat)))]) (fun k=>[]) (fun k=>∀c∈t.take k,dW c=true) (by exact (ai (ai (fun _=>rfl) (iE (by omega))) rfl)) (by exact trivial) ?_ ?_
 ·exact fun y hy=>absurd hy (by simp)
 intro (k:Nat) ⟨hk,hall⟩
 refine ah (p:=k<t.length) (by exact aB (by rw[hz];simp only[apl];omega)) (fun h6=>?_) (fun h6=>?_)
 ·have i1:(strOf (c :: t))[((k+1:Nat):Int).toNat]?=some (t.getD k 0):=ng (s:=c :: t) (k:=k+1) (by simp;omega)
  refine ei (t.getD k 0) (ai (ai (aa1 _) i1) ?_)
  refine cK (zo) (t.getD k 0) (by exact rfl) (trivial) ?_
  refine aC (b:=!eD (t.getD k 0)) rfl (fun h7=>?_) (fun h7=>?_)
  ·have hd:eD (t.getD k 0)=false:=by simpa using h7
   refine ei (t.getD k 0) (ai (ai (aa1 _) i1) ?_)
   refine cK (ajW) (t.getD k 0) (by exact rfl) (trivial) ?_
   refine aC (b:=!jf (t.getD k 0)) rfl (fun h9=>?_) (fun h9=>?_)
   ·have hm:jf (t.getD k 0)=false:=by simpa using h9
    refine ei (t.getD k 0) (ai (ai (aa1 _) i1) ?_)
    refine bG (65≤(t.getD k 0).toNat) (fun h10=>?_) fun h10=>?_
    ·refine ei (t.getD k 0) (ai (ai (aa1 _) i1) ?_)
     refine aX (p:=(t.getD k 0).toNat≤90) (by (rw[aoF,decide_eq_false_iff_not];omega)) (fun h11=>?_) (fun h11=>?_)
     ·have hcap:uz (t.getD k 0)=false:=by unfold uz;rw[decide_eq_false h11];simp
      refine ei (t.getD k 0) (ai (ai (aa1 _) i1) ?_)
      refine bN ((t.getD k 0).toNat=95) (fun hu=>?_) fun hu=>?_
      ·have h8:(c :: t).all dW=false:=by
        rw[atX]
        exact ⟨t.getD k 0,arP _ (aa0 (bC 0 h6)),by unfold dW;rw[hd,hm,hcap,decide_eq_false hu];decide⟩
       refine eN (iP (fu (c :: t))) ?_
       rw[hN,if_neg (show ¬(c :: t).all dW=true by rw[h8];decide)]
       exact rfl
      ·refine nX (k) (ai (ai (fun _=>rfl) (aH (by omega))) rfl) trivial ?_
       intro y hy
       rw[aQ 0 h6] at hy
       rcases acE.1 hy with hy | hy
       ·exact hall y hy
       ·simp only[acN] at hy;subst hy;unfold dW;rw[decide_eq_true hu];simp
     ·have hcap:uz (t.getD k 0)=true:=by unfold uz;rw[decide_eq_true h10,decide_eq_true h11];rfl
      refine nX (k) (ai (ai (fun _=>rfl) (aH (by omega))) rfl) trivial ?_
      intro y hy
      rw[aQ 0 h6] at hy
      rcases acE.1 hy with hy | hy
      ·exact hall y hy
      ·simp only[acN] at hy;subst hy;unfold dW;rw[hcap];simp
    ·have hcap:uz (t.getD k 0)=false:=by unfold uz;rw[decide_eq_false h10];simp
     refine ei (t.getD k 0) (ai (ai (aa1 _) i1) ?_)
     refine bN ((t.getD k 0).toNat=95) (fun hu=>?_) fun hu=>?_
     ·have h8:(c :: t).all dW=false:=by
       rw[atX]
       exact ⟨t.getD k 0,arP _ (aa0 (bC 0 h6)),by unfold dW;rw[hd,hm,hcap,decide_eq_false hu];decide⟩
      refine eN (iP (fu (c :: t))) ?_
      rw[hN,if_neg (show ¬(c :: t).all dW=true by rw[h8];decide)]
      exact rfl
     ·refine nX (k) (ai (ai (fun _=>rfl) (aH (by omega))) rfl) trivial ?_
      intro y hy
      rw[aQ 0 h6] at hy
      rcases acE.1 hy with hy | hy
      ·exact hall y hy
      ·simp only[acN] at hy;subst hy;unfold dW;rw[decide_eq_true hu];simp
   ·have hm:jf (t.getD k 0)=true:=by simpa using h9
    refine nX (k) (ai (ai (fun _=>rfl) (aH (by omega))) rfl) trivial ?_
    intro y hy
    rw[aQ 0 h6] at hy
    rcases acE.1 hy with hy | hy
    ·exact hall y hy
    ·simp only[acN] at hy;subst hy;unfold dW;rw[hm];simp
  ·have hd:eD (t.getD k 0)=true:=by simpa using h7
   refine nX (k) (ai (ai (fun _=>rfl) (aH (by omega))) rfl) trivial ?_
   intro y hy
   rw[aQ 0 h6] at hy
   rcases acE.1 hy with hy | hy
   ·exact hall y hy
   ·simp only[acN] at hy;subst hy;unfold dW;rw[hd];simp
 ·obtain rfl:k=t.length:=by omega
  rw[acI] at hall
  refine eN (iP (fu (c :: t))) ?_
  rw[hN,if_pos (aot.2 (fun x hx=>by rcases ahy.1 hx with rfl | hx;exact hc0;exact hall x hx))]
  exact rfl
def xw (l:List (List UInt8)) (k:Nat):Int:=if ¬fu (l.getD k [])=0 then fu (l.getD k []) else if (l.take k).any (fun y=>l.getD k []==y)=true then 7 else 0
def fq (l:List (List UInt8)):Int:=if 16<l.length then 5 else dw (xw l) l.length
def alj:Spec:=bH (fun l:List (List UInt8)=>[ssA l]) (fun _=>True) (fun l=>iP (fq l))
theorem anN:ay Tryz.prog 147 alj:=by
 refine vF Tryz.func147 ?_
 rintro (l:List (List UInt8)) hpre
 refine bL (16<l.length) (fun h0=>?_) fun h0=>?_
 ·refine eN (iP (fq l)) ?_
  rw[fq,if_pos h0]
  exact rfl
 have hA:fq l=dw (xw l) l.length:=by unfold fq;rw[if_neg h0]
 refine fR (l.length) (fun k=>[(11,.s (iA k))]) (fun k=>[]) (fun k=>∀j,j<k→xw l j=0) (by exact (ai (ai (fun _=>rfl) (iE (by omega))) rfl)) (by exact trivial) ?_ ?_
 ·exact fun j hj=>absurd hj (aeo _)
 intro (k:Nat) ⟨hk,hall⟩
 refine bL (k<l.length) (fun h1=>?_) fun h1=>?_
 ·refine iX (k) (l.length) ?_
  refine cK (asG) (l.getD k []) (by exact rfl) (trivial) ?_
  refine bN (fu (l.getD k [])=0) (fun h2=>?_) fun h2=>?_
  ·have e:xw l k=fu (l.getD k []):=by unfold xw;rw[if_pos h2]
   refine eN (iP (fq l)) ?_
   rw[hA,dL h1 hall (by rw[e];exact h2),e]
   exact rfl
  refine ai (ai (by decide) (ai (aa1 _) (by show (k:Int)≤(l.length:Int);omega))) (ai (fun _ _=>rfl) ?_)
  have htk:(l.take k).length=k:=by rw[arI];omega
  refine ei _ (ai (asN) (ei ((l.take k,l.getD k [])) (ei [] (ai (a4 (ai (fun _=>Or.inl rfl) (ai nof (Or.inl rfl)))) (ai ?_ (ai (by exact trivial) (ai ((by show (l.take k).length≤1000000;omega)) ?_)))))))
  ·refine (ai (ai ?_ ?_) rfl)
   ·show ((k:Int).toNat-(0:Int).toNat)=(l.take k).length
    rw[htk];simp
   ·intro j hj
    have hj:j<(k:Int).toNat-(0:Int).toNat:=hj
    show [sP (l.getD ((0:Int).toNat+j) [])]=_
    rw[show (0:Int).toNat+j=j by simp]
    exact atx hk j (by simpa using hj)
  refine aC (b:=(l.take k).any (fun y=>l.getD k []==y)) rfl (fun h4=>?_) (fun h4=>?_)
  ·have e:xw l k=7:=by unfold xw;rw[if_neg (fun h=>h h2),if_pos h4]
   refine eN (iP (fq l)) ?_
   rw[hA,dL h1 hall (by rw[e];decide),e]
   exact rfl
  refine nX (k) (ai (ai (fun _=>rfl) (aH (by omega))) rfl) trivial ?_
  intro j hj
  by_cases hjk:j=k
  ·subst hjk;unfold xw;rw[if_neg (fun h=>h h2),if_neg (by rw[h4];decide)]
  ·exact hall j (by omega)
 ·obtain rfl:k=l.length:=by omega
  refine eN (iP (fq l)) ?_
  rw[hA,gH hall]
  exact rfl
theorem afo {α:Type} {p:α→Bool} {l:List α} {k:Nat} {d:α} (h:k<l.length) (hp:p (l.getD k d)=true):l.any p=true:=
 al0.2 ⟨_,aa0 (bC d h),hp⟩
theorem amW:ay Tryz.prog 113 alj:=by
 refine vF Tryz.func113 ?_
 rintro (l:List (List UInt8)) hpre
 refine bL (16<l.length) (fun h0=>?_) fun h0=>?_
 ·refine eN (iP (fq l)) ?_
  rw[fq,if_pos h0]
  exact rfl
 have hA:fq l=dw (xw l) l.length:=by unfold fq;rw[if_neg h0]
 refine fR (l.length) (fun k=>[(3,.s (iA k))]) (fun k=>[]) (fun k=>∀j,j<k→xw l j=0) (by exact (ai (ai (fun _=>rfl) (iE (by omega))) rfl)) (by exact trivial) ?_ ?_
 ·exact fun j hj=>absurd hj (aeo _)
 intro (k:Nat) ⟨hk,hall⟩
 refine bL (k<l.length) (fun h1=>?_) fun h1=>?_
 ·refine iX (k) (l.length) ?_
  refine cK (aq1) (l.getD k []) (by exact rfl) (trivial) ?_
  refine bN (fu (l.getD k [])=0) (fun h2=>?_) fun h2=>?_
  ·have e:xw l k=fu (l.getD k []):=by unfold xw;rw[if_pos h2]
   refine eN (iP (fq l)) ?_
   rw[hA,dL h1 hall (by rw[e];exact h2),e]
   exact rfl
  have htk:(l.take k).length=k:=by rw[arI];omega
  refine fR (k) (fun j=>[(5,.s (iA j))]) (fun j=>[]) (fun j=>∀y∈(l.take k).take j,(l.getD k []==y)=false) (by exact (ai (ai (fun _=>rfl) (iE (by omega))) rfl)) (by exact trivial) ?_ ?_
  ·exact fun y hy=>absurd hy (by simp)
  intro (j:Nat) ⟨hj,hno⟩
  refine bL (j<k) (fun h3=>?_) fun h3=>?_
  ·have hjl:j<(l.take k).length:=by omega
   have hg:(l.take k).getD j []=l.getD j []:=by rw[aam,aam,auL,if_pos h3]
   refine dR (.seq [0,1,2,3,4,5,6,7,8]) ?_
   refine iX (j) (l.length) ?_
   refine iX (k) (l.length) ?_
   refine ah (p:=l.getD j []=l.getD k []) (by exact beq_iff_eq) (fun h4=>?_) (fun h4=>?_)
   ·have e:xw l k=7:=by unfold xw;rw[if_neg (fun h=>h h2),if_pos (afo hjl (by rw[hg,h4];exact beq_self_eq_true _))]
    refine eN (iP (fq l)) ?_
    rw[hA,dL h1 hall (by rw[e];decide),e]
    exact rfl
   refine nX (j) (ai (ai (fun _=>rfl) (aH (by omega))) rfl) trivial ?_
   intro y hy
   rw[aQ [] hjl] at hy
   rcases acE.1 hy with hy | hy
   ·exact hno y hy
   ·simp only[acN] at hy;subst hy;rw[hg];exact beq_eq_false_iff_ne.2 fun e=>h4 e.symm
  ·obtain rfl:j=k:=by omega
   have hno:∀y∈l.take j,(l.getD j []==y)=false:=fun y hy=>hno y (by rw[avr (by omega)];exact hy)
   refine nX (j) (ai (ai (fun _=>rfl) (aH (by omega))) rfl) trivial ?_
   intro i hi
   by_cases hjk:i=j
   ·subst hjk;unfold xw
    rw[if_neg (fun h=>h h2),if_neg]
    rw[al0]
    rintro ⟨y,hy,e⟩
    rw[hno y hy] at e;cases e
   ·exact hall i (by omega)
 ·obtain rfl:k=l.length:=by omega
  refine eN (iP (fq l)) ?_
  rw[hA,gH hall]
  exact rfl
def kV (act:Int) (l:List Sk) (k:Nat):Int:=if (l.getD k bV).1<0∨act≤(l.getD k bV).1 then 2 else if 0<k∧(l.getD k bV).1≤(l.getD (k-1) bV).1 then 9 else 0
def gF (act:Int) (s:Stp):Int:=if ¬dw (kV act s.st) s.st.length=0 then dw (kV act s.st) s.st.length else if s.wt<0∨1000000<s.wt then 2 else 0
def arS:Spec:=bH (fun a:aA×Stp=>[jS a.1,stA a.2]) (fun a=>a.2.st.length≤1000000) (fun a=>iP (gF a.1.act a.2))
theorem step_ok:ay Tryz.prog 148 arS:=by
 refine vF Tryz.func148 ?_
 rintro (a:aA×Stp) hpre
 have hl:a.2.st.length≤1000000:=hpre
 refine fR (a.2.st.length) (fun k=>[(10,.s (iA k))]) (fun k=>[]) (fun k=>∀j,j<k→kV a.1.act a.2.st j=0) (by exact (ai (ai (fun _=>rfl) (iE (by omega))) rfl)) (by exact trivial) ?_ ?_
 ·exact fun j hj=>absurd hj (aeo _)
 intro (k:Nat) ⟨hk,hall⟩
 refine bL (k<a.2.st.length) (fun h1=>?_) fun h1=>?_
 ·refine iX (k) (a.2.st.length) ?_
  refine ah (p:=(a.2.st.getD k bV).1<0) (aB Iff.rfl) (fun h2=>?_) (fun h2=>?_)
  ·have e:kV a.1.act a.2.st k=2:=by unfold kV;rw[if_pos (by omega)]
   have e2:dw (kV a.1.act a.2.st) a.2.st.length=2:=(dL h1 hall (by rw[e];decide)).trans e
   refine eN (iP (gF a.1.act a.2)) ?_
   rw[gF,if_pos (show ¬dw (kV a.1.act a.2.st) a.2.st.length=0 by rw[e2];decide),e2]
   exact rfl
  refine ah (p:=a.1.act≤(a.2.st.getD k bV).1) (fZ Iff.rfl) (fun h3=>?_) (fun h3=>?_)
  ·have e:kV a.1.act a.2.st k=2:=by unfold kV;rw[if_pos (by omega)]
   have e2:dw (kV a.1.act a.2.st) a.2.st.length=2:=(dL h1 hall (by rw[e];decide)).trans e
   refine eN (iP (gF a.1.act a.2)) ?_
   rw[gF,if_pos (show ¬dw (kV a.1.act a.2.st) a.2.st.length=0 by rw[e2];decide),e2]
   exact rfl
  refine dR (.seq [0,1,2,3,4,5,6,7,8,9,10,11,12,13,14]) ?_
  refine bL (0<k) (fun h4=>?_) fun h4=>?_
  ·have hw:IntKind.i64.wrap ((k:Int)-1)=((k-1:Nat):Int):=amD h4 (by omega)
   refine ai (ai (by rw[hw];exact aa1 _) (by rw[hw];show ((k-1:Nat):Int)<(a.2.st.length:Int);omega)) ?_
   refine ai rfl ?_
   refine ah (p:=(a.2.st.getD k bV).1≤(a.2.st.getD (k-1) bV).1) (by exact fZ (by rw[hw];exact Iff.rfl)) (fun h5=>?_) (fun h5=>?_)
   ·have e:kV a.1.act a.2.st k=9:=by unfold kV;rw[if_neg (by omega),if_pos ⟨h4,h5⟩]
    have e2:dw (kV a.1.act a.2.st) a.2.st.length=9:=(dL h1 hall (by rw[e];decide)).trans e
    refine eN (iP (gF a.1.act a.2)) ?_
    rw[gF,if_pos (show ¬dw (kV a.1.act a.2.st) a.2.st.length=0 by rw[e2];decide),e2]
    exact rfl
   ·refine nX (k) (ai (ai (fun _=>rfl) (aH (by omega))) rfl) trivial ?_
    intro j hj
    by_cases hjk:j=k
    ·subst hjk;unfold kV;rw[if_neg (by omega),if_neg (fun h=>h5 h.2)]
    ·exact hall j (by omega)
  ·refine nX (k) (ai (ai (fun _=>rfl) (aH (by omega))) rfl) trivial ?_
   intro j hj
   by_cases hjk:j=k
   ·subst hjk;unfold kV;rw[if_neg (by omega),if_neg (fun h=>h4 h.1)]
   ·exact hall j (by omega)
 ·obtain rfl:k=a.2.st.length:=by omega
  have e2:dw (kV a.1.act a.2.st) a.2.st.length=0:=gH hall
  have hA:gF a.1.act a.2=if a.2.wt<0∨1000000<a.2.wt then 2 else 0:=by unfold gF;rw[if_neg (fun h=>h e2)]
  refine bL (a.2.wt<0) (fun h6=>?_) fun h6=>?_
  ·refine eN (iP (gF a.1.act a.2)) ?_
   rw[hA,if_pos (.inl h6)]
   exact rfl
  refine bL (1000000<a.2.wt) (fun h7=>?_) fun h7=>?_
  ·refine eN (iP (gF a.1.act a.2)) ?_
   rw[hA,if_pos (.inr h7)]
   exact rfl
  ·refine eN (iP (gF a.1.act a.2)) ?_
   rw[hA,if_neg (fun h=>h.elim h6 h7)]
   exact rfl
theorem aqH:ay Tryz.prog 114 arS:=by
 refine vF Tryz.func114 ?_
 rintro (a:aA×Stp) hpre
 have hl:a.2.st.length≤1000000:=hpre
 refine fR (a.2.st.length) (fun k=>[(5,.s (iA k))]) (fun k=>[]) (fun k=>∀j,j<k→kV a.1.act a.2.st j=0) (by exact (ai (ai (fun _=>rfl) (iE (by omega))) rfl)) (by exact trivial) ?_ ?_
 ·exact fun j hj=>absurd hj (aeo _)
 intro (k:Nat) ⟨hk,hall⟩
 refine bL (k<a.2.st.length) (fun h1=>?_) fun h1=>?_
 ·refine iX (k) (a.2.st.length) ?_
  refine ah (p:=(a.2.st.getD k bV).1<0) (aB Iff.rfl) (fun h2=>?_) (fun h2=>?_)
  ·have e:kV a.1.act a.2.st k=2:=by unfold kV;rw[if_pos (by omega)]
   have e2:dw (kV a.1.act a.2.st) a.2.st.length=2:=(dL h1 hall (by rw[e];decide)).trans e
   refine eN (iP (gF a.1.act a.2)) ?_
   rw[gF,if_pos (show ¬dw (kV a.1.act a.2.st) a.2.st.length=0 by rw[e2];decide),e2]
   exact rfl
  refine ah (p:=a.1.act≤(a.2.st.getD k bV).1) (fZ Iff.rfl) (fun h3=>?_) (fun h3=>?_)
  ·have e:kV a.1.act a.2.st k=2:=by unfold kV;rw[if_pos (by omega)]
   have e2:dw (kV a.1.act a.2.st) a.2.st.length=2:=(dL h1 hall (by rw[e];decide)).trans e
   refine eN (iP (gF a.1.act a.2)) ?_
   rw[gF,if_pos (show ¬dw (kV a.1.act a.2.st) a.2.st.length=0 by rw[e2];decide),e2]
   exact rfl
  refine bL (0<k) (fun h4=>?_) fun h4=>?_
  ·have hw:IntKind.i64.wrap ((k:Int)-1)=((k-1:Nat):Int):=amD h4 (by omega)
   refine ai (ai (by rw[hw];exact aa1 _) (by rw[hw];show ((k-1:Nat):Int)<(a.2.st.length:Int);omega)) ?_
   refine ai rfl ?_
   refine ah (p:=(a.2.st.getD k bV).1≤(a.2.st.getD (k-1) bV).1) (by exact fZ (by rw[hw];exact Iff.rfl)) (fun h5=>?_) (fun h5=>?_)
   ·have e:kV a.1.act a.2.st k=9:=by unfold kV;rw[if_neg (by omega),if_pos ⟨h4,h5⟩]
    have e2:dw (kV a.1.act a.2.st) a.2.st.length=9:=(dL h1 hall (by rw[e];decide)).trans e
    refine eN (iP (gF a.1.act a.2)) ?_
    rw[gF,if_pos (show ¬dw (kV a.1.act a.2.st) a.2.st.length=0 by rw[e2];decide),e2]
    exact rfl
   ·refine nX (k) (ai (ai (fun _=>rfl) (aH (by omega))) rfl) trivial ?_
    intro j hj
    by_cases hjk:j=k
    ·subst hjk;unfold kV;rw[if_neg (by omega),if_neg (fun h=>h5 h.2)]
    ·exact hall j (by omega)
  ·refine nX (k) (ai (ai (fun _=>rfl) (aH (by omega))) rfl) trivial ?_
   intro j hj
   by_cases hjk:j=k
   ·subst hjk;unfold kV;rw[if_neg (by omega),if_neg (fun h=>h4 h.1)]
   ·exact hall j (by omega)
 ·obtain rfl:k=a.2.st.length:=by omega
  have e2:dw (kV a.1.act a.2.st) a.2.st.length=0:=gH hall
  have hA:gF a.1.act a.2=if a.2.wt<0∨1000000<a.2.wt then 2 else 0:=by unfold gF;rw[if_neg (fun h=>h e2)]
  refine bL (a.2.wt<0) (fun h6=>?_) fun h6=>?_
  ·refine eN (iP (gF a.1.act a.2)) ?_
   rw[hA,if_pos (.inl h6)]
   exact rfl
  refine bL (1000000<a.2.wt) (fun h7=>?_) fun h7=>?_
  ·refine eN (iP (gF a.1.act a.2)) ?_
   rw[hA,if_pos (.inr h7)]
   exact rfl
  ·refine eN (iP (gF a.1.act a.2)) ?_
   rw[hA,if_neg (fun h=>h.elim h6 h7)]
   exact rfl
def ql (n:Nat) (l:List Int) (k:Nat):Int:=if l.getD k 0<0∨(n:Int)≤l.getD k 0 then 2 else if 0<k∧l.getD k 0≤l.getD (k-1) 0 then 9 else 0
def jD (n:Nat) (l:List Int):Int:=if l.length=0 then 13 else dw (ql n l) l.length
def avp:Spec:=bH (fun a:aA×List Int=>[jS a.1,isA a.2]) (fun a=>a.2.length≤1000000) (fun a=>iP (jD a.1.sts.length a.2))
theorem ahA:ay Tryz.prog 202 avp:=by
 refine vF Tryz.func202 ?_
 rintro (a:aA×List Int) hpre
 have hl:a.2.length≤1000000:=hpre
 refine bE (a.2.length=0) (fun h0=>?_) fun h0=>?_
 ·refine eN (iP (jD a.1.sts.length a.2)) ?_
  rw[jD,if_pos h0]
  exact rfl
 have hA:jD a.1.sts.length a.2=dw (ql a.1.sts.length a.2) a.2.length:=by unfold jD;rw[if_neg h0]
 refine fR (a.2.length) (fun k=>[(12,.s (iA k))]) (fun k=>[]) (fun k=>∀j,j<k→ql a.1.sts.length a.2 j=0) (by exact (ai (ai (fun _=>rfl) (iE (by omega))) rfl)) (by exact trivial) ?_ ?_
 ·exact fun j hj=>absurd hj (aeo _)
 intro (k:Nat) ⟨hk,hall⟩
 refine bL (k<a.2.length) (fun h1=>?_) fun h1=>?_
 ·skip
  refine iX (k) (a.2.length) ?_
  refine ah (p:=a.2.getD k 0<0) (aB Iff.rfl) (fun h2=>?_) (fun h2=>?_)
  ·have e:ql a.1.sts.length a.2 k=2:=by unfold ql;rw[if_pos (by omega)]
   refine eN (iP (jD a.1.sts.length a.2)) ?_
   rw[hA,dL h1 hall (by rw[e];decide),e]
   exact rfl
  skip
  refine ah (p:=(a.1.sts.length:Int)≤a.2.getD k 0) (fZ Iff.rfl) (fun h3=>?_) (fun h3=>?_)
  ·have e:ql a.1.sts.length a.2 k=2:=by unfold ql;rw[if_pos (by omega)]
   refine eN (iP (jD a.1.sts.length a.2)) ?_
   rw[hA,dL h1 hall (by rw[e];decide),e]
   exact rfl
  skip
  refine bL (0<k) (fun h4=>?_) fun h4=>?_
  ·have hw:IntKind.i64.wrap ((k:Int)-1)=((k-1:Nat):Int):=amD h4 (by omega)
   skip
   refine ai (ai (by rw[hw];exact aa1 _) (by rw[hw];show ((k-1:Nat):Int)<(a.2.length:Int);omega)) ?_
   refine ai rfl ?_
   refine ah (p:=a.2.getD k 0≤a.2.getD (k-1) 0) (by exact fZ (by rw[hw];exact Iff.rfl)) (fun h5=>?_) (fun h5=>?_)
   ·have e:ql a.1.sts.length a.2 k=9:=by unfold ql;rw[if_neg (by omega),if_pos ⟨h4,h5⟩]
    refine eN (iP (jD a.1.sts.length a.2)) ?_
    rw[hA,dL h1 hall (by rw[e];decide),e]
    exact rfl
   ·refine nX (k) (ai (ai (fun _=>rfl) (aH (by omega))) rfl) trivial ?_
    intro j hj
    by_cases hjk:j=k
    ·subst hjk;unfold ql;rw[if_neg (by omega),if_neg (fun h=>h5 h.2)]
    ·exact hall j (by omega)
  ·refine nX (k) (ai (ai (fun _=>rfl) (aH (by omega))) rfl) trivial ?_
   intro j hj
   by_cases hjk:j=k
   ·subst hjk;unfold ql;rw[if_neg (by omega),if_neg (fun h=>h4 h.1)]
   ·exact hall j (by omega)
 ·obtain rfl:k=a.2.length:=by omega
  refine eN (iP (jD a.1.sts.length a.2)) ?_
  rw[hA,gH hall]
  exact rfl
theorem ajy:ay Tryz.prog 115 avp:=by
 refine vF Tryz.func115 ?_
 rintro (a:aA×List Int) hpre
 have hl:a.2.length≤1000000:=hpre
 refine bE (a.2.length=0) (fun h0=>?_) fun h0=>?_
 ·refine eN (iP (jD a.1.sts.length a.2)) ?_
  rw[jD,if_pos h0]
  exact rfl
 have hA:jD a.1.sts.length a.2=dw (ql a.1.sts.length a.2) a.2.length:=by unfold jD;rw[if_neg h0]
 refine fR (a.2.length) (fun k=>[(5,.s (iA k))]) (fun k=>[]) (fun k=>∀j,j<k→ql a.1.sts.length a.2 j=0) (by exact (ai (ai (fun _=>rfl) (iE (by omega))) rfl)) (by exact trivial) ?_ ?_
 ·exact fun j hj=>absurd hj (aeo _)
 intro (k:Nat) ⟨hk,hall⟩
 refine bL (k<a.2.length) (fun h1=>?_) fun h1=>?_
 ·refine dR (.seq [0,1,2,3,4,5,6,7,8,9,10,11,12,13,14]) ?_
  refine iX (k) (a.2.length) ?_
  refine ah (p:=a.2.getD k 0<0) (aB Iff.rfl) (fun h2=>?_) (fun h2=>?_)
  ·have e:ql a.1.sts.length a.2 k=2:=by unfold ql;rw[if_pos (by omega)]
   refine eN (iP (jD a.1.sts.length a.2)) ?_
   rw[hA,dL h1 hall (by rw[e];decide),e]
   exact rfl
  refine iX (k) (a.2.length) ?_
  refine ah (p:=(a.1.sts.length:Int)≤a.2.getD k 0) (fZ Iff.rfl) (fun h3=>?_) (fun h3=>?_)
  ·have e:ql a.1.sts.length a.2 k=2:=by unfold ql;rw[if_pos (by omega)]
   refine eN (iP (jD a.1.sts.length a.2)) ?_
   rw[hA,dL h1 hall (by rw[e];decide),e]
   exact rfl
  refine dR (.seq [0,1,2,3,4,5,6,7,8,9,10,11,12,13]) ?_
  refine bL (0<k) (fun h4=>?_) fun h4=>?_
  ·have hw:IntKind.i64.wrap ((k:Int)-1)=((k-1:Nat):Int):=amD h4 (by omega)
   refine iX (k) (a.2.length) ?_
   refine ai (ai (by rw[hw];exact aa1 _) (by rw[hw];show ((k-1:Nat):Int)<(a.2.length:Int);omega)) ?_
   refine ai rfl ?_
   refine ah (p:=a.2.getD k 0≤a.2.getD (k-1) 0) (by exact fZ (by rw[hw];exact Iff.rfl)) (fun h5=>?_) (fun h5=>?_)
   ·have e:ql a.1.sts.length a.2 k=9:=by unfold ql;rw[if_neg (by omega),if_pos ⟨h4,h5⟩]
    refine eN (iP (jD a.1.sts.length a.2)) ?_
    rw[hA,dL h1 hall (by rw[e];decide),e]
    exact rfl
   ·refine nX (k) (ai (ai (fun _=>rfl) (aH (by omega))) rfl) trivial ?_
    intro j hj
    by_cases hjk:j=k
    ·subst hjk;unfold ql;rw[if_neg (by omega),if_neg (fun h=>h5 h.2)]
    ·exact hall j (by omega)
  ·refine nX (k) (ai (ai (fun _=>rfl) (aH (by omega))) rfl) trivial ?_
   intro j hj
   by_cases hjk:j=k
   ·subst hjk;unfold ql;rw[if_neg (by omega),if_neg (fun h=>h4 h.1)]
   ·exact hall j (by omega)
 ·obtain rfl:k=a.2.length:=by omega
  refine eN (iP (jD a.1.sts.length a.2)) ?_
  rw[hA,gH hall]
  exact rfl
def lq (c:aA):Int:=2*c.act+c.ins.length+c.sts.length
def oq (c:aA):Prop:=0≤c.act∧c.act≤1000∧c.ins.length≤1000000∧c.sts.length≤1000000
def arw:Spec:=bH (fun c:aA=>[jS c]) oq (fun c=>iP (lq c))
theorem alx:ay Tryz.prog 136 arw:=by
 refine vF Tryz.func136 ?_
 rintro (c:aA) hpre
 obtain ⟨h1,h2,h3,h4⟩:=hpre
 have h1:0≤c.act:=h1
 have h2:c.act≤1000:=h2
 have h3:c.ins.length≤1000000:=h3
 have h4:c.sts.length≤1000000:=h4
 refine ai (ai (fun _=>trivial) ?_) trivial
 show IntKind.i64.wrap (IntKind.i64.wrap (IntKind.i64.wrap (2*c.act)+(c.ins.length:Int))+(c.sts.length:Int))=lq c
 rw[ko (n:=2*c.act) (by omega) (by omega),ko (n:=2*c.act+(c.ins.length:Int)) (by omega) (by omega),ko (by omega) (by omega)];rfl
theorem ap0:ay Tryz.prog 117 arw:=by
 refine vF Tryz.func117 ?_
 rintro (c:aA) hpre
 obtain ⟨h1,h2,h3,h4⟩:=hpre
 have h1:0≤c.act:=h1
 have h2:c.act≤1000:=h2
 have h3:c.ins.length≤1000000:=h3
 have h4:c.sts.length≤1000000:=h4
 refine ai (ai (fun _=>trivial) ?_) trivial
 show IntKind.i64.wrap (IntKind.i64.wrap (IntKind.i64.wrap (2*c.act)+(c.ins.length:Int))+(c.sts.length:Int))=lq c
 rw[ko (n:=2*c.act) (by omega) (by omega),ko (n:=2*c.act+(c.ins.length:Int)) (by omega) (by omega),ko (by omega) (by omega)];rfl
def kH (c:aA) (t:rP):Int:=if ¬jD c.sts.length t.fr=0 then jD c.sts.length t.fr else if ¬jD c.sts.length t.to=0 then jD c.sts.length t.to else bf t.wh (lq c)
def ams (t:rP):Prop:=t.fr.length≤1000000∧t.to.length≤1000000∧t.wh.size≤1000000
def aw9:Spec:=bH (fun a:aA×rP=>[jS a.1,trA a.2]) (fun a=>oq a.1∧ams a.2) (fun a=>iP (kH a.1 a.2))
theorem au2:ay Tryz.prog 149 aw9:=by
 refine vF Tryz.func149 ?_
 rintro (a:aA×rP) hpre
 obtain ⟨hs,h1,h2,h3⟩:=hpre
 refine ei (mg.unroll 3) ?_
 refine ai (by decide) ?_
 refine ai (by decide) ?_
 refine cK (ahA) ((a.1,a.2.fr)) (by exact (ai (ai rfl (ai (ai rfl (fun _ _=>rfl)) (ai (ai rfl (fun _ _=>rfl)) (ai rfl (fun _ _=>rfl))))) (ai rfl (fun _ _=>rfl)))) (h1) ?_
 refine aX (p:=jD a.1.sts.length a.2.fr=0) (bK (by dsimp only;omega)) (fun g1=>?_) (fun g1=>?_)
 ·refine eN (iP (kH a.1 a.2)) ?_
  rw[kH,if_pos g1]
  exact rfl
 refine ai (by decide) ?_
 refine ai (by decide) ?_
 refine cK (ahA) ((a.1,a.2.to)) (by exact (ai (ai rfl (ai (ai rfl (fun _ _=>rfl)) (ai (ai rfl (fun _ _=>rfl)) (ai rfl (fun _ _=>rfl))))) (ai rfl (fun _ _=>rfl)))) (h2) ?_
 refine aX (p:=jD a.1.sts.length a.2.to=0) (bK (by dsimp only;omega)) (fun g2=>?_) (fun g2=>?_)
 ·refine eN (iP (kH a.1 a.2)) ?_
  rw[kH,if_neg (fun h=>h g1),if_pos g2]
  exact rfl
 refine dR (.seq [0,1,2,3,4,5]) ?_
 refine cK (alx) (a.1) (by exact (ai rfl (ai (ai rfl (fun _ _=>rfl)) (ai (ai rfl (fun _ _=>rfl)) (ai rfl (fun _ _=>rfl)))))) (hs) ?_
 refine cK (qR) ((a.2.wh,lq a.1)) (by exact (ai (ai rfl (ai rfl (ai rfl (fun _ _=>rfl)))) rfl)) (h3) ?_
 refine eN (iP (kH a.1 a.2)) ?_
 rw[kH,if_neg (fun h=>h g1),if_neg (fun h=>h g2)]
 exact rfl
def aqz:Spec:=bH (fun a:aA×List Stp=>[.p false (aaL a.2),.p false (.bnd 148 [chP a.1])]) (fun a=>a.2.length≤1000000∧∀s∈a.2,s.st.length≤1000000) (fun a=>iP (dw (fun k=>gF a.1.act (a.2.getD k st0)) a.2.length))
theorem amJ:ay Tryz.prog 150 aqz:=by
 refine vF Tryz.func150 ?_
 rintro (a:aA×List Stp) hpre
 obtain ⟨hl,hs⟩:=hpre
 have hl:a.2.length≤1000000:=hl
 refine fR (a.2.length) (fun k=>[(10,.s (iA k))]) (fun k=>[]) (fun k=>∀j,j<k→gF a.1.act (a.2.getD j st0)=0) (by exact (ai (ai (fun _=>rfl) (iE (by omega))) rfl)) (by exact trivial) ?_ ?_
 ·exact fun j hj=>absurd hj (aeo _)
 intro (k:Nat) ⟨hk,hall⟩
 refine bL (k<a.2.length) (fun h1=>?_) fun h1=>?_
 ·refine iX (k) (a.2.length) ?_
  refine cK (step_ok) ((a.1,a.2.getD k st0)) (by exact (ai (ai rfl (ai (ai rfl (fun _ _=>rfl)) (ai (ai rfl (fun _ _=>rfl)) (ai rfl (fun _ _=>rfl))))) (ai (ai rfl (fun _ _=>rfl)) (iE (by simp only[zz,reduceCtorEq]))))) (hs _ (aa0 (bC st0 h1))) ?_
  refine aX (p:=gF a.1.act (a.2.getD k st0)=0) (bK (by dsimp only;omega)) (fun h2=>?_) (fun h2=>?_)
  ·refine eN (iP (dw (fun k=>gF a.1.act (a.2.getD k st0)) a.2.length)) ?_
   rw[dL h1 hall h2]
   exact rfl
  refine nX (k) (ai (ai (fun _=>rfl) (aH (by omega))) rfl) trivial ?_
  intro j hj
  by_cases hjk:j=k
  ·subst hjk;exact h2
  ·exact hall j (by omega)
 ·obtain rfl:k=a.2.length:=by omega
  refine eN (iP (dw (fun k=>gF a.1.act (a.2.getD k st0)) a.2.length)) ?_
  rw[gH hall]
  exact rfl
def apI:Spec:=bH (fun a:aA×List rP=>[.p false (ac5 a.2),.p false (.bnd 149 [chP a.1])]) (fun a=>a.2.length≤1000000∧oq a.1∧∀s∈a.2,ams s) (fun a=>iP (dw (fun k=>kH a.1 (a.2.getD k aZ)) a.2.length))
theorem amC:ay Tryz.prog 151 apI:=by
 refine vF Tryz.func151 ?_
 rintro (a:aA×List rP) hpre
 obtain ⟨hl,hc,hs⟩:=hpre
 have hl:a.2.length≤1000000:=hl
 refine fR (a.2.length) (fun k=>[(10,.s (iA k))]) (fun k=>[]) (fun k=>∀j,j<k→kH a.1 (a.2.getD j aZ)=0) (by exact (ai (ai (fun _=>rfl) (iE (by omega))) rfl)) (by exact trivial) ?_ ?_
 ·exact fun j hj=>absurd hj (aeo _)
 intro (k:Nat) ⟨hk,hall⟩
 refine bL (k<a.2.length) (fun h1=>?_) fun h1=>?_
 ·refine iX (k) (a.2.length) ?_
  refine cK (au2) ((a.1,a.2.getD k aZ)) (by exact (ai (ai rfl (ai (ai rfl (fun _ _=>rfl)) (ai (ai rfl (fun _ _=>rfl)) (ai rfl (fun _ _=>rfl))))) (ai (ai rfl (fun _ _=>rfl)) (ai (ai rfl (fun _ _=>rfl)) (ai (iE (by simp only[zz,reduceCtorEq])) (ai (iE (by simp only[zz,reduceCtorEq])) (ai rfl (fun _ _=>rfl)))))))) (⟨hc,hs _ (aa0 (bC aZ h1))⟩) ?_
  refine aX (p:=kH a.1 (a.2.getD k aZ)=0) (bK (by dsimp only;omega)) (fun h2=>?_) (fun h2=>?_)
  ·refine eN (iP (dw (fun k=>kH a.1 (a.2.getD k aZ)) a.2.length)) ?_
   rw[dL h1 hall h2]
   exact rfl
  refine nX (k) (ai (ai (fun _=>rfl) (aH (by omega))) rfl) trivial ?_
  intro j hj
  by_cases hjk:j=k
  ·subst hjk;exact h2
  ·exact hall j (by omega)
 ·obtain rfl:k=a.2.length:=by omega
  refine eN (iP (dw (fun k=>kH a.1 (a.2.getD k aZ)) a.2.length)) ?_
  rw[gH hall]
  exact rfl
def bW (c:aA):Int:=
 if c.act<1∨6<c.act then 2 else if ¬fq c.ins=0 then fq c.ins else if c.sts.length=0 then 13 else if 24<c.sts.length∨32<c.trs.length then 5 else
 if ¬dw (fun k=>gF c.act (c.sts.getD k st0)) c.sts.length=0 then dw (fun k=>gF c.act (c.sts.getD k st0)) c.sts.length else dw (fun k=>kH c (c.trs.getD k aZ)) c.trs.length
def jC (c:aA):Prop:=(∀s∈c.sts,s.st.length≤1000000)∧∀t∈c.trs,ams t
theorem xG {l:List (List UInt8)} (h:fq l=0):l.length≤16:=by
 unfold fq at h
 split at h
 ·cases h
 ·omega
def aun:Spec:=bH (fun c:aA=>[jS c]) jC (fun c=>iP (bW c))
theorem abf:ay Tryz.prog 94 aun:=by
 refine vF Tryz.func94 ?_
 rintro (c:aA) hpre
 obtain ⟨hst,htr⟩:=hpre
 refine bL (c.act<1) (fun h1=>?_) fun h1=>?_
 ·refine eN (iP (bW c)) ?_
  rw[bW,if_pos (.inl h1)]
  exact rfl
 refine bL (6<c.act) (fun h2=>?_) fun h2=>?_
 ·refine eN (iP (bW c)) ?_
  rw[bW,if_pos (.inr h2)]
  exact rfl
 have e0:¬(c.act<1∨6<c.act):=fun h=>h.elim h1 h2
 refine cK (anN) (c.ins) (by exact (ai rfl (fun _ _=>rfl))) (trivial) ?_
 refine bN (fq c.ins=0) (fun h3=>?_) fun h3=>?_
 ·refine eN (iP (bW c)) ?_
  rw[bW,if_neg e0,if_pos h3]
  exact rfl
 have h16:=xG h3
 have e1:¬¬fq c.ins=0:=fun h=>h h3
 refine bE (c.sts.length=0) (fun h4=>?_) fun h4=>?_
 ·refine eN (iP (bW c)) ?_
  rw[bW,if_neg e0,if_neg e1,if_pos h4]
  exact rfl
 refine bL (24<c.sts.length) (fun h5=>?_) fun h5=>?_
 ·refine eN (iP (bW c)) ?_
  rw[bW,if_neg e0,if_neg e1,if_neg h4,if_pos (.inl h5)]
  exact rfl
 refine bL (32<c.trs.length) (fun h6=>?_) fun h6=>?_
 ·refine eN (iP (bW c)) ?_
  rw[bW,if_neg e0,if_neg e1,if_neg h4,if_pos (.inr h6)]
  exact rfl
 have e2:¬(24<c.sts.length∨32<c.trs.length):=fun h=>h.elim h5 h6
 refine dR (.seq [0,1,2,3,4,5]) ?_
 refine cK (amJ) ((c,c.sts)) (by exact (ai (ai rfl (fun _ _=>rfl)) (ai rfl rfl))) (⟨by show c.sts.length≤1000000;omega,hst⟩) ?_
 refine aX (p:=dw (fun k=>gF c.act (c.sts.getD k st0)) c.sts.length=0) (bK (by dsimp only;omega)) (fun h7=>?_) (fun h7=>?_)
 ·refine eN (iP (bW c)) ?_
  rw[bW,if_neg e0,if_neg e1,if_neg h4,if_neg e2,if_pos h7]
  exact rfl
 have hsm:oq c:=⟨by omega,by omega,by omega,by omega⟩
 refine cK (amC) ((c,c.trs)) (by exact (ai (ai rfl (fun _ _=>rfl)) (ai rfl rfl))) (⟨by show c.trs.length≤1000000;omega,hsm,htr⟩) ?_
 refine eN (iP (bW c)) ?_
 rw[bW,if_neg e0,if_neg e1,if_neg h4,if_neg e2,if_neg (fun h=>h h7)]
 exact rfl
theorem ag8:ay Tryz.prog 67 aun:=by
 refine vF Tryz.func67 ?_
 rintro (c:aA) hpre
 obtain ⟨hst,htr⟩:=hpre
 refine bL (c.act<1) (fun h1=>?_) fun h1=>?_
 ·refine eN (iP (bW c)) ?_
  rw[bW,if_pos (.inl h1)]
  exact rfl
 refine bL (6<c.act) (fun h2=>?_) fun h2=>?_
 ·refine eN (iP (bW c)) ?_
  rw[bW,if_pos (.inr h2)]
  exact rfl
 have e0:¬(c.act<1∨6<c.act):=fun h=>h.elim h1 h2
 refine cK (amW) (c.ins) (by exact (ai rfl (fun _ _=>rfl))) (trivial) ?_
 refine bN (fq c.ins=0) (fun h3=>?_) fun h3=>?_
 ·refine eN (iP (bW c)) ?_
  rw[bW,if_neg e0,if_pos h3]
  exact rfl
 have h16:=xG h3
 have e1:¬¬fq c.ins=0:=fun h=>h h3
 refine bE (c.sts.length=0) (fun h4=>?_) fun h4=>?_
 ·refine eN (iP (bW c)) ?_
  rw[bW,if_neg e0,if_neg e1,if_pos h4]
  exact rfl
 refine bL (24<c.sts.length) (fun h5=>?_) fun h5=>?_
 ·refine eN (iP (bW c)) ?_
  rw[bW,if_neg e0,if_neg e1,if_neg h4,if_pos (.inl h5)]
  exact rfl
 refine bL (32<c.trs.length) (fun h6=>?_) fun h6=>?_
 ·refine eN (iP (bW c)) ?_
  rw[bW,if_neg e0,if_neg e1,if_neg h4,if_pos (.inr h6)]
  exact rfl
 have e2:¬(24<c.sts.length∨32<c.trs.length):=fun h=>h.elim h5 h6
 have hA:bW c=if ¬dw (fun k=>gF c.act (c.sts.getD k st0)) c.sts.length=0 then dw (fun k=>gF c.act (c.sts.getD k st0)) c.sts.length else dw (fun k=>kH c (c.trs.getD k aZ)) c.trs.length:=by
  unfold bW;rw[if_neg e0,if_neg e1,if_neg h4,if_neg e2]
 refine fR (c.sts.length) (fun k=>[(4,.s (iA k))]) (fun k=>[]) (fun k=>∀j,j<k→gF c.act (c.sts.getD j st0)=0) (by exact (ai (ai (fun _=>rfl) (iE (by omega))) rfl)) (by exact trivial) ?_ ?_
 ·exact fun j hj=>absurd hj (aeo _)
 intro (k:Nat) ⟨hk,hall⟩
 refine bL (k<c.sts.length) (fun g1=>?_) fun g1=>?_
 ·refine dR (.seq [0,1,2,3,4,5,6,7]) ?_
  refine iX (k) (c.sts.length) ?_
  refine cK (aqH) ((c,c.sts.getD k st0)) (by exact (ai (ai rfl (ai (ai rfl (fun _ _=>rfl)) (ai (ai rfl (fun _ _=>rfl)) (ai rfl (fun _ _=>rfl))))) (ai (ai rfl (fun _ _=>rfl)) (iE (by simp only[zz,reduceCtorEq]))))) (hst _ (aa0 (bC st0 g1))) ?_
  refine aX (p:=gF c.act (c.sts.getD k st0)=0) (bK (by dsimp only;omega)) (fun g2=>?_) (fun g2=>?_)
  ·have e:=dL (f:=fun k=>gF c.act (c.sts.getD k st0)) g1 hall g2
   refine eN (iP (bW c)) ?_
   rw[hA,if_pos (show ¬dw (fun k=>gF c.act (c.sts.getD k st0)) c.sts.length=0 by rw[e];exact g2),e]
   exact rfl
  refine nX (k) (ai (ai (fun _=>rfl) (aH (by omega))) rfl) trivial ?_
  intro j hj
  by_cases hjk:j=k
  ·subst hjk;exact g2
  ·exact hall j (by omega)
 ·obtain rfl:k=c.sts.length:=by omega
  rw[if_neg (fun h=>h (gH hall))] at hA
  refine fR (c.trs.length) (fun j=>[(6,.s (iA j))]) (fun j=>[]) (fun j=>∀i,i<j→kH c (c.trs.getD i aZ)=0) (by exact (ai (ai (fun _=>rfl) (iE (by omega))) rfl)) (by exact trivial) ?_ ?_
  ·exact fun i hi=>absurd hi (aeo _)
  intro (j:Nat) ⟨hj,hallt⟩
  refine bL (j<c.trs.length) (fun g3=>?_) fun g3=>?_
  ·refine iX (j) (c.trs.length) ?_
   have hto:=htr _ (aa0 (bC aZ g3))
   refine cK (ajy) ((c,(c.trs.getD j aZ).fr)) (by exact (ai (ai rfl (ai (ai rfl (fun _ _=>rfl)) (ai (ai rfl (fun _ _=>rfl)) (ai rfl (fun _ _=>rfl))))) (ai rfl (fun _ _=>rfl)))) (hto.1) ?_
   refine aX (p:=jD c.sts.length (c.trs.getD j aZ).fr=0) (bK (by dsimp only;omega)) (fun g4=>?_) (fun g4=>?_)
   ·have e:kH c (c.trs.getD j aZ)=jD c.sts.length (c.trs.getD j aZ).fr:=by unfold kH;rw[if_pos g4]
    refine eN (iP (bW c)) ?_
    rw[hA,dL (f:=fun k=>kH c (c.trs.getD k aZ)) g3 hallt (by rw[e];exact g4),e]
    exact rfl
   refine cK (ajy) ((c,(c.trs.getD j aZ).to)) (by exact (ai (ai rfl (ai (ai rfl (fun _ _=>rfl)) (ai (ai rfl (fun _ _=>rfl)) (ai rfl (fun _ _=>rfl))))) (ai rfl (fun _ _=>rfl)))) (hto.2.1) ?_
   refine aX (p:=jD c.sts.length (c.trs.getD j aZ).to=0) (bK (by dsimp only;omega)) (fun g5=>?_) (fun g5=>?_)
   ·have e:kH c (c.trs.getD j aZ)=jD c.sts.length (c.trs.getD j aZ).to:=by unfold kH;rw[if_neg (fun h=>h g4),if_pos g5]
    refine eN (iP (bW c)) ?_
    rw[hA,dL (f:=fun k=>kH c (c.trs.getD k aZ)) g3 hallt (by rw[e];exact g5),e]
    exact rfl
   refine dR (.seq [0,1,2,3,4,5]) ?_
   have hsm:oq c:=⟨by omega,by omega,by omega,by omega⟩
   refine cK (ap0) (c) (by exact (ai rfl (ai (ai rfl (fun _ _=>rfl)) (ai (ai rfl (fun _ _=>rfl)) (ai rfl (fun _ _=>rfl)))))) (hsm) ?_
   refine cK (ads) (((c.trs.getD j aZ).wh,lq c)) (by exact (ai (ai (iE (by simp only[zz,reduceCtorEq])) (ai (iE (by simp only[zz,reduceCtorEq])) (ai rfl (fun _ _=>rfl)))) rfl)) (trivial) ?_
   have e:kH c (c.trs.getD j aZ)=bf (c.trs.getD j aZ).wh (lq c):=by unfold kH;rw[if_neg (fun h=>h g4),if_neg (fun h=>h g5)]
   refine aX (p:=bf (c.trs.getD j aZ).wh (lq c)=0) (bK (by dsimp only;omega)) (fun g6=>?_) (fun g6=>?_)
   ·refine eN (iP (bW c)) ?_
    rw[hA,dL (f:=fun k=>kH c (c.trs.getD k aZ)) g3 hallt (by rw[e];exact g6),e]
    exact rfl
   refine nX (j) (ai (ai (fun _=>rfl) (aH (by omega))) rfl) trivial ?_
   intro i hi
   by_cases hij:i=j
   ·subst hij;rw[e];exact g6
   ·exact hallt i (by omega)
  ·obtain rfl:j=c.trs.length:=by omega
   refine eN (iP (bW c)) ?_
   rw[hA,gH hallt]
   exact rfl
abbrev dec (n : Nat) : List UInt8 := Lib.decDigits n
def aaS (n:Nat):List UInt8:=if n=0 then [] else dec n
theorem ahU (n:Nat):aaS n=if n=0 then [] else aaS (n / 10)++[UInt8.ofNat (48+n % 10)]:=by
 unfold aaS
 by_cases h:n=0
 ·rw[if_pos h,if_pos h]
 ·rw[if_neg h,if_neg h]
  unfold dec
  rw[Lib.decDigits]
  by_cases h2:n<10
  ·rw[dif_pos h2,if_pos (by omega),axl h2];rfl
  ·rw[dif_neg h2,if_neg (by omega)]
def gq:Nat→Nat→List UInt8
 | 0,_=>[]
 | j+1,x=>gq j (x / 10)++[UInt8.ofNat (48+x % 10)]
theorem abv:∀(j n:Nat),n / 10 ^ j≠0→aaS n=aaS (n / 10 ^ j)++gq j n
 | 0,n,_=>by simp[gq]
 | j+1,n,h=>by
  have hn:n≠0:=by rintro rfl;simp at h
  have hd:n / 10 / 10 ^ j=n / 10 ^ (j+1):=by rw[au5,axx,axL]
  rw[ahU,if_neg hn,abv j (n / 10) (by rw[hd];exact h),hd,gq,atQ]
def limbs (n:Nat):List Int:=if n=0 then [] else if n<1000000 then [(n:Int)] else [((n % 1000000:Nat):Int),((n / 1000000:Nat):Int)]
def avZ:Spec:=bS (fun n:Nat=>[iA n]) (fun n=>n<1000000000000) (fun n=>fD (limbs n))
theorem wq (n:Nat) (h:n<1000000000000):IntKind.i64.wrap ((n:Int).tdiv 1000000)=((n / 1000000:Nat):Int):=by
 rw[show ((n:Int).tdiv 1000000)=((n / 1000000:Nat):Int) from rfl];exact xC (by omega)
theorem alX {x:PV} {g:Nat→List PV} (hg:g 0=[x]):∀k,k<1→(g k).length=1:=fun k hk=>by
 obtain rfl:k=0:=by omega
 rw[hg];rfl
theorem as3:ay Tryz.prog 258 avZ:=by
 refine vF Tryz.func258 ?_
 rintro (n:Nat) hpre
 have hn:n<1000000000000:=hpre
 have hq:=wq n hn
 have hq2:n / 1000000<1000000000000:=by omega
 have hq3:=wq (n / 1000000) hq2
 refine ei (mg.unroll 3) ?_
 refine bL (0<n) (fun h1=>?_) fun h1=>?_
 ·refine ai (by decide) ?_
  refine ai (ai (by decide) (by decide)) (ai (alX rfl) ?_)
  refine ai (by decide) ?_
  refine ah (p:=0<n / 1000000) (by exact aB (by rw[hq];omega)) (fun h2=>?_) (fun h2=>?_)
  ·refine ai (by decide) ?_
   refine ai (ai (by decide) (by decide)) (ai (alX rfl) ?_)
   refine ai (by decide) ?_
   refine bF (by exact decide_eq_false (by rw[hq,hq3];omega)) ?_
   have e:limbs n=[((n % 1000000:Nat):Int),((n / 1000000:Nat):Int)]:=by unfold limbs;rw[if_neg (by omega),if_neg (by omega)]
   refine eF (fD (limbs n)) ?_
   rw[e]
   refine (ai rfl ?_)
   intro k hk
   have hk:k<2:=hk
   match k,hk with
   | 0,_=>rfl
   | 1,_=>
    show [PV.val (.int .i64 ((IntKind.i64.wrap ((n:Int).tdiv 1000000)).tmod 1000000))]=[iP ((n / 1000000:Nat):Int)]
    rw[hq]
    show [PV.val (.int .i64 ((n / 1000000 % 1000000:Nat):Int))]=_
    rw[axl (by omega)];rfl
  ·have e:limbs n=[(n:Int)]:=by unfold limbs;rw[if_neg (by omega),if_pos (by omega)]
   refine eF (fD (limbs n)) ?_
   rw[e]
   refine (ai rfl ?_)
   intro k hk
   have hk:k<1:=hk
   obtain rfl:k=0:=by omega
   show [PV.val (.int .i64 ((n % 1000000:Nat):Int))]=[iP (n:Int)]
   rw[axl (by omega)];rfl
 ·have e:limbs n=[]:=by unfold limbs;rw[if_pos (by omega)]
  refine eF (fD (limbs n)) ?_
  rw[e]
  exact rfl
theorem tN (s:List UInt8) (l h:Nat):(strOf s).extract l h=strOf ((s.take h).drop l):=by
 apply ByteArray.ext
 simp only[strOf,ByteArray.data_extract]
 apply Array.ext'
 simp[List.drop_take]
theorem auV {d:Nat} (h:d<10):(nW.take (d+1)).drop d=[UInt8.ofNat (48+d)]:=by
 have:∀d:Fin 10,(nW.take (d.1+1)).drop d.1=[UInt8.ofNat (48+d.1)]:=by decide
 exact this ⟨d,h⟩
theorem tQ:∀(j x:Nat),gq (j+1) x=UInt8.ofNat (48+x / 10 ^ j % 10) :: gq j x
 | 0,x=>by simp[gq]
 | j+1,x=>by
  rw[gq,tQ j (x / 10),au5,show 10*10 ^ j=10 ^ (j+1) by rw[axx,axL]]
  conv=>rhs;rw[gq]
  rfl
theorem zh:∀(j x:Nat),(gq j x).length=j
 | 0,_=>rfl
 | j+1,x=>by rw[tQ];simp[zh j x]
theorem xP {j x:Nat} (h0:x / 10 ^ j=0) (h1:j=0∨x / 10 ^ (j-1)≠0):aaS x=gq j x:=by
 cases j with
 | zero=>
  have:x=0:=by simpa using h0
  subst this;rfl
 | succ j=>
  have h1:x / 10 ^ j≠0:=by rcases h1 with h | h;omega;simpa using h
  rw[abv j x h1,tQ]
  have hlt:x / 10 ^ j<10:=by
   rw[axx,axL,←au5,au5,axL,←au5] at h0
   omega
  rw[ahU,if_neg h1,axr hlt]
  rfl
def vK:List Int→Nat
 | []=>0
 | [x]=>x.toNat
 | x :: y :: _=>x.toNat+1000000*y.toNat
def okL (l:List Int):Prop:=l=[]∨(∃x:Nat,0<x∧x<1000000∧l=[(x:Int)])∨∃x y:Nat,x<1000000∧0<y∧y<1000000∧l=[(x:Int),(y:Int)]
theorem aqe {n:Nat} (h:n<1000000000000):okL (limbs n)∧vK (limbs n)=n:=by
 unfold limbs okL
 by_cases h0:n=0
 ·rw[if_pos h0];exact ⟨.inl rfl,h0.symm⟩
 ·rw[if_neg h0]
  by_cases h1:n<1000000
  ·rw[if_pos h1];exact ⟨.inr (.inl ⟨n,by omega,h1,rfl⟩),rfl⟩
  ·rw[if_neg h1]
   refine ⟨.inr (.inr ⟨n % 1000000,n / 1000000,by omega,by omega,by omega,rfl⟩),?_⟩
   show (((n % 1000000:Nat):Int)).toNat+1000000*(((n / 1000000:Nat):Int)).toNat=n
   rw[aen,aen];omega
def asu:Spec:=bH (fun l:List Int=>[isA l]) okL (fun l=>sP (dec (vK l)))
theorem ak4:ay Tryz.prog 256 asu:=by
 refine vF Tryz.func256 ?_
 rintro (l:List Int) hpre
 have hq:∀a:Nat,a<1000000→IntKind.i64.wrap ((a:Int).tdiv 10)=((a / 10:Nat):Int):=fun a h=>by
  rw[show ((a:Int).tdiv 10)=((a / 10:Nat):Int) from rfl];exact xC (by omega)
 have hr:∀a:Nat,IntKind.i64.wrap ((a:Int).tmod 10+1)=((a % 10+1:Nat):Int):=fun a=>by
  rw[show ((a:Int).tmod 10)=((a % 10:Nat):Int) from rfl];exact ko (by omega) (by omega)
 have hx:∀a:Nat,(strOf nW).extract ((a:Int).tmod 10).toNat (IntKind.i64.wrap ((a:Int).tmod 10+1)).toNat=strOf [UInt8.ofNat (48+a % 10)]:=fun a=>by
  rw[hr,show ((a:Int).tmod 10)=((a % 10:Nat):Int) from rfl,aen,aen,tN,auV (by omega)]
 have hlt:∀x j:Nat,x<1000000→x / 10 ^ j<1000000:=fun x j h=>Nat.lt_of_le_of_lt (Nat.div_le_self _ _) h
 rcases hpre with rfl | ⟨x,hx0,hx1,rfl⟩ | ⟨x',x,hx1',hx0,hx1,rfl⟩
 ·refine eN (sP (dec (vK []))) ?_
  rw[show dec (vK [])=[48] by show Lib.decDigits 0=_;rw[Lib.decDigits];rfl]
  exact rfl
 ·refine ei (mg.unroll 2) ?_
  refine ai (ai (by decide) (by show (0:Int)<1;decide)) ?_
  refine ai rfl ?_
  have hs0:([]:List UInt8).length≤1000:=by decide
  refine ei (mg.inv { X:=Nat,up:=fun j=>[(6,.s (iA j)),(5,.s (iA (((x) / 10 ^ j:Nat)))),(3,.s (sA (gq j (x)++[])))],uo:=fun _=>[],inv:=fun j=>j≤6∧(j=0∨(x) / 10 ^ (j-1)≠0),meas:=fun j=>6-j,x0:=0 }) ?_
  refine ai (ai (ai (by exact (a4 (ai rfl rfl))) (ai ?_ ?_)) ?_) (ai ?_ ?_)
  ·refine (ai (ai (ai (fun _=>rfl) (iE (by simp only[zz,reduceCtorEq];rfl))) rfl) (ai (ai (ai nof ?_) rfl) (ai (ai (fun _=>rfl) rfl) rfl)))
   show ((x:Nat):Int)=(((x) / 10 ^ 0:Nat):Int)
   simp
  ·exact trivial
  ·rfl
  ·exact ⟨akx _,.inl rfl⟩
  intro (j:Nat) ⟨hj,hd⟩
  refine bL (j<6) (fun h5=>?_) fun h5=>?_
  ·refine bL (0<(x) / 10 ^ j) (fun h6=>?_) fun h6=>?_
   ·have hpj:=hlt (x) j hx1
    generalize hz:(x) / 10 ^ j=z at *
    refine ai (by decide) (ai (by decide) ?_)
    refine ai (ai (by show (0:Int)≤((z:Int).tmod 10);exact aa1 _) (ai (by rw[hr];show ((z % 10:Nat):Int)≤_;omega) (by rw[hr];show ((z % 10+1:Nat):Int)≤10;omega))) ?_
    refine ai (by show (((((strOf nW).extract ((z:Int).tmod 10).toNat (IntKind.i64.wrap ((z:Int).tmod 10+1)).toNat).size+(strOf (gq j (x)++[])).size:Nat)):Int)≤9223372036854775807;rw[hx,bZ,bZ,aas,zh,axG];show ((1+(j+([]:List UInt8).length):Nat):Int)≤_;omega) ?_
    refine ai (by decide) ?_
    refine ei ((j+1)) (ai (ai rfl rfl) (ai (ai ?_ ?_) (ai ?_ ?_)))
    ·refine (ai rfl (ai (ai rfl rfl) (ai (ai rfl rfl) (ai (ai (ai (ai (fun _=>rfl) (aH (by omega))) rfl) (ai (ai (ai (fun _=>rfl) ?_) rfl) (ai (ai (fun _=>rfl) ?_) rfl))) trivial))))
     ·show IntKind.i64.wrap ((z:Int).tdiv 10)=((((x) / 10 ^ (j+1):Nat)):Int)
      rw[hq z (by omega),←hz,au5,axx]
     ·show (strOf nW).extract ((z:Int).tmod 10).toNat (IntKind.i64.wrap ((z:Int).tmod 10+1)).toNat++strOf (gq j (x)++[])=strOf (gq (j+1) (x)++[])
      rw[hx,uV,tQ j (x),hz];rfl
    ·rfl
    ·exact ⟨h5,.inr (by show (x) / 10 ^ j≠0;rw[hz];omega)⟩
    ·show 6-(j+1)<6-j;omega
   ·have e:=xP (x:=x) (j:=j) (Nat.eq_zero_of_not_pos h6) hd
    refine eN (sP (dec (vK [(x:Int)]))) ?_
    rw[show dec (vK [(x:Int)])=gq _ x++[] by rw[ao9,←e];unfold aaS;rw[if_neg (by omega)];rfl]
    exact rfl
  ·obtain rfl:j=6:=by omega
   have e:=xP (x:=x) (j:=6) (axr hx1) hd
   refine eN (sP (dec (vK [(x:Int)]))) ?_
   rw[show dec (vK [(x:Int)])=gq _ x++[] by rw[ao9,←e];unfold aaS;rw[if_neg (by omega)];rfl]
   exact rfl
 ·refine ei (mg.unroll 3) ?_
  refine ai (ai (by decide) (by show (0:Int)<2;decide)) ?_
  refine ai rfl ?_
  refine ei (mg.inv { X:=Nat,up:=fun j=>[(6,.s (iA j)),(5,.s (iA ((x' / 10 ^ j:Nat)))),(3,.s (sA (gq j x'++[])))],uo:=fun _=>[],inv:=fun j=>j≤6,meas:=fun j=>6-j,x0:=0 }) ?_
  refine ai (ai (ai (by exact (a4 (ai rfl rfl))) (ai ?_ ?_)) ?_) (ai ?_ ?_)
  ·refine (ai (ai (ai (fun _=>rfl) (iE (by simp only[zz,reduceCtorEq];rfl))) rfl) (ai (ai (ai nof ?_) rfl) (ai (ai (fun _=>rfl) rfl) rfl)))
   show ((x':Nat):Int)=((x' / 10 ^ 0:Nat):Int)
   simp
  ·exact trivial
  ·rfl
  ·exact akx _
  intro (j:Nat) (hj:j≤6)
  refine bL (j<6) (fun h5=>?_) fun h5=>?_
  ·have hs0:([]:List UInt8).length≤1000:=by decide
   have hxx:=hx1
   have hx1:=hx1'
   have hpj:=hlt (x') j hx1
   generalize hz:(x') / 10 ^ j=z at *
   refine ai (by decide) (ai (by decide) ?_)
   refine ai (ai (by show (0:Int)≤((z:Int).tmod 10);exact aa1 _) (ai (by rw[hr];show ((z % 10:Nat):Int)≤_;omega) (by rw[hr];show ((z % 10+1:Nat):Int)≤10;omega))) ?_
   refine ai (by show (((((strOf nW).extract ((z:Int).tmod 10).toNat (IntKind.i64.wrap ((z:Int).tmod 10+1)).toNat).size+(strOf (gq j (x')++[])).size:Nat)):Int)≤9223372036854775807;rw[hx,bZ,bZ,aas,zh,axG];show ((1+(j+([]:List UInt8).length):Nat):Int)≤_;omega) ?_
   refine ai (by decide) ?_
   refine ei ((j+1)) (ai (ai rfl rfl) (ai (ai ?_ ?_) (ai ?_ ?_)))
   ·refine (ai rfl (ai (ai rfl rfl) (ai (ai rfl rfl) (ai (ai (ai (ai (fun _=>rfl) (aH (by omega))) rfl) (ai (ai (ai (fun _=>rfl) ?_) rfl) (ai (ai (fun _=>rfl) ?_) rfl))) trivial))))
    ·show IntKind.i64.wrap ((z:Int).tdiv 10)=((((x') / 10 ^ (j+1):Nat)):Int)
     rw[hq z (by omega),←hz,au5,axx]
    ·show (strOf nW).extract ((z:Int).tmod 10).toNat (IntKind.i64.wrap ((z:Int).tmod 10+1)).toNat++strOf (gq j (x')++[])=strOf (gq (j+1) (x')++[])
     rw[hx,uV,tQ j (x'),hz];rfl
   ·rfl
   ·exact h5
   ·show 6-(j+1)<6-j;omega
  ·obtain rfl:j=6:=by omega
   refine ai (ai (by decide) (by show (1:Int)<2;decide)) ?_
   refine ai rfl ?_
   have hs0:(gq 6 x'++[]).length≤1000:=by rw[ao9,zh];decide
   refine ei (mg.inv { X:=Nat,up:=fun j=>[(6,.s (iA j)),(5,.s (iA (((x) / 10 ^ j:Nat)))),(3,.s (sA (gq j (x)++(gq 6 x'++[]))))],uo:=fun _=>[],inv:=fun j=>j≤6∧(j=0∨(x) / 10 ^ (j-1)≠0),meas:=fun j=>6-j,x0:=0 }) ?_
   refine ai (ai (ai (by exact (a4 (ai rfl rfl))) (ai ?_ ?_)) ?_) (ai ?_ ?_)
   ·refine (ai (ai (ai (fun _=>rfl) (iE (by simp only[zz,reduceCtorEq];rfl))) rfl) (ai (ai (ai nof ?_) rfl) (ai (ai nof rfl) rfl)))
    show ((x:Nat):Int)=(((x) / 10 ^ 0:Nat):Int)
    simp
   ·exact trivial
   ·rfl
   ·exact ⟨akx _,.inl rfl⟩
   intro (j:Nat) ⟨hj,hd⟩
   refine bL (j<6) (fun h5=>?_) fun h5=>?_
   ·refine bL (0<(x) / 10 ^ j) (fun h6=>?_) fun h6=>?_
    ·have hpj:=hlt (x) j hx1
     generalize hz:(x) / 10 ^ j=z at *
     refine ai (by decide) (ai (by decide) ?_)
     refine ai (ai (by show (0:Int)≤((z:Int).tmod 10);exact aa1 _) (ai (by rw[hr];show ((z % 10:Nat):Int)≤_;omega) (by rw[hr];show ((z % 10+1:Nat):Int)≤10;omega))) ?_
     refine ai (by show (((((strOf nW).extract ((z:Int).tmod 10).toNat (IntKind.i64.wrap ((z:Int).tmod 10+1)).toNat).size+(strOf (gq j (x)++(gq 6 x'++[]))).size:Nat)):Int)≤9223372036854775807;rw[hx,bZ,bZ,aas,zh,axG];show ((1+(j+((gq 6 x'++[]):List UInt8).length):Nat):Int)≤_;omega) ?_
     refine ai (by decide) ?_
     refine ei ((j+1)) (ai (ai rfl rfl) (ai (ai ?_ ?_) (ai ?_ ?_)))
     ·refine (ai rfl (ai (ai rfl rfl) (ai (ai rfl rfl) (ai (ai (ai (ai (fun _=>rfl) (aH (by omega))) rfl) (ai (ai (ai (fun _=>rfl) ?_) rfl) (ai (ai (fun _=>rfl) ?_) rfl))) trivial))))
      ·show IntKind.i64.wrap ((z:Int).tdiv 10)=((((x) / 10 ^ (j+1):Nat)):Int)
       rw[hq z (by omega),←hz,au5,axx]
      ·show (strOf nW).extract ((z:Int).tmod 10).toNat (IntKind.i64.wrap ((z:Int).tmod 10+1)).toNat++strOf (gq j (x)++(gq 6 x'++[]))=strOf (gq (j+1) (x)++(gq 6 x'++[]))
       rw[hx,uV,tQ j (x),hz];rfl
     ·rfl
     ·exact ⟨h5,.inr (by show (x) / 10 ^ j≠0;rw[hz];omega)⟩
     ·show 6-(j+1)<6-j;omega
    ·have e:=xP (x:=x) (j:=j) (Nat.eq_zero_of_not_pos h6) hd
     have hdiv:(x'+1000000*x) / 10 ^ 6=x:=by
      show (x'+1000000*x) / 1000000=x
      omega
     have hpad:gq 6 (x'+1000000*x)=gq 6 x':=by
      simp only[gq]
      have e0:(x'+1000000*x) % 10=x' % 10:=by omega
      have e1:(x'+1000000*x) / 10 % 10=x' / 10 % 10:=by omega
      have e2:(x'+1000000*x) / 10 / 10 % 10=x' / 10 / 10 % 10:=by omega
      have e3:(x'+1000000*x) / 10 / 10 / 10 % 10=x' / 10 / 10 / 10 % 10:=by omega
      have e4:(x'+1000000*x) / 10 / 10 / 10 / 10 % 10=x' / 10 / 10 / 10 / 10 % 10:=by omega
      have e5:(x'+1000000*x) / 10 / 10 / 10 / 10 / 10 % 10=x' / 10 / 10 / 10 / 10 / 10 % 10:=by omega
      rw[e0,e1,e2,e3,e4,e5]
     refine eN (sP (dec (vK [(x':Int),(x:Int)]))) ?_
     rw[show dec (vK [(x':Int),(x:Int)])=gq _ x++(gq 6 x'++[]) by rw[ao9,←e];show dec (x'+1000000*x)=_;have h:=abv 6 (x'+1000000*x) (by rw[hdiv];omega);rw[hdiv,hpad] at h;rw[←h];unfold aaS;rw[if_neg (by omega)]]
     exact rfl
   ·obtain rfl:j=6:=by omega
    have e:=xP (x:=x) (j:=6) (axr hx1) hd
    have hdiv:(x'+1000000*x) / 10 ^ 6=x:=by
     show (x'+1000000*x) / 1000000=x
     omega
    have hpad:gq 6 (x'+1000000*x)=gq 6 x':=by
     simp only[gq]
     have e0:(x'+1000000*x) % 10=x' % 10:=by omega
     have e1:(x'+1000000*x) / 10 % 10=x' / 10 % 10:=by omega
     have e2:(x'+1000000*x) / 10 / 10 % 10=x' / 10 / 10 % 10:=by omega
     have e3:(x'+1000000*x) / 10 / 10 / 10 % 10=x' / 10 / 10 / 10 % 10:=by omega
     have e4:(x'+1000000*x) / 10 / 10 / 10 / 10 % 10=x' / 10 / 10 / 10 / 10 % 10:=by omega
     have e5:(x'+1000000*x) / 10 / 10 / 10 / 10 / 10 % 10=x' / 10 / 10 / 10 / 10 / 10 % 10:=by omega
     rw[e0,e1,e2,e3,e4,e5]
    refine eN (sP (dec (vK [(x':Int),(x:Int)]))) ?_
    rw[show dec (vK [(x':Int),(x:Int)])=gq _ x++(gq 6 x'++[]) by rw[ao9,←e];show dec (x'+1000000*x)=_;have h:=abv 6 (x'+1000000*x) (by rw[hdiv];omega);rw[hdiv,hpad] at h;rw[←h];unfold aaS;rw[if_neg (by omega)]]
    exact rfl
theorem aop:ay Tryz.prog 212 (bH (fun n:Nat=>[iA n]) (fun n=>n<1000000000000) (fun n=>sP (dec n))):=by
 refine vF Tryz.func212 ?_
 rintro (n:Nat) hpre
 have hn:n<1000000000000:=hpre
 obtain ⟨h1,h2⟩:=aqe hn
 refine cK (as3) (n) (by exact rfl) (hn) ?_
 refine cK (ak4) (limbs n) (by exact (ai rfl (fun _ _=>rfl))) (h1) ?_
 refine eN (sP (dec n)) ?_
 rw[show dec n=dec (vK (limbs n)) by rw[h2]]
 exact rfl
theorem ari:ay Tryz.prog 159 (bH (fun n:Nat=>[iA n]) (fun n=>n<1000000000000) (fun n=>sP (dec n))):=by
 refine vF Tryz.func159 ?_
 rintro (n:Nat) hpre
 refine cK (aop) (n) (by exact rfl) (hpre) ?_
 refine eN _ ?_
 exact rfl
theorem aqh:ay Tryz.prog 209 (bH (fun n:Nat=>[iA n]) (fun n=>n<100) (fun n=>sP (dec n))):=
 aku (ahp (α:=Nat) Tryz.func209 rfl rfl (vals:=fun n=>[.int .i64 n]) (pre:=fun n=>n<100) (ret:=fun n=>.string (strOf (dec n))) (fun _ _=>rfl)
  fun n hn w=>(Tryz.strconv_Itoa_small n hn w).mono fun e w' h=>by
   obtain ⟨h1,h2⟩:=h
   subst h2
   exact ⟨h1,RowKit.Below.refl _ _⟩) id
  (fun _ _=>rfl) (fun _ _=>rfl) (fun _ _=>rfl) (fun _ _=>rfl) (fun _ h=>h)
theorem gB {l:List PV} (n:Nat) (h:l.length=n):∀k,k<n→(aU 1 l k).length=1:=by
 intro k hk
 subst h
 induction l generalizing k with
 | nil=>simp at hk
 | cons d l ih=>
  cases k with
  | zero=>rfl
  | succ k=>
   have h1:=ih k (by simpa using hk)
   show (aU 1 (d :: l) (k+1)).length=1
   have:aU 1 (d :: l) (k+1)=aU 1 l k:=by
    unfold aU
    rw[auY,auY];rfl
   rw[this];exact h1
theorem kN {c:aA} (h:bW c=0):(1≤c.act∧c.act≤6)∧fq c.ins=0∧(0<c.sts.length∧c.sts.length≤24)∧c.trs.length≤32∧(∀k,k<c.sts.length→gF c.act (c.sts.getD k st0)=0)∧∀k,k<c.trs.length→kH c (c.trs.getD k aZ)=0:=by
 unfold bW at h
 split at h
 ·cases h
 split at h
 ·rename_i h1 h2;exact absurd h h2
 split at h
 ·cases h
 split at h
 ·cases h
 split at h
 ·rename_i h1;exact absurd h h1
 rename_i h1 h2 h3 h4 h5
 refine ⟨by omega,akB.1 h2,by omega,by omega,fun k hk=>pJ (akB.1 h5) k hk,fun k hk=>pJ h k hk⟩
structure rQ where
 nm:List UInt8
 kd:Int
 on:Ex
 off:Ex
 dl:Int
 ini:Bool
structure bn where
 act:Int
 ins:List (List UInt8)
 sgs:List rQ
 pl:List Int
 mi:List Int
structure d9 where
 en:List Int
 va:List Bool
 inp:List Bool
 vl:List Bool
 ti:List Int
def sgK (x:rQ):List PV:=[sP x.nm,iP x.kd,iP x.on.op,iP x.on.idx,.seq x.on.args.length (jo x.on.args),iP x.off.op,iP x.off.idx,.seq x.off.args.length (jo x.off.args),iP x.dl,bP x.ini]
def ak:rQ:=⟨[],0,bM,bM,0,false⟩
def apN (l:List rQ):PV:=.seq l.length (fun k=>sgK (l.getD k ak))
def ctK (c:bn):List PV:=[iP c.act,xB c.ins,apN c.sgs,fD c.pl,fD c.mi]
def ctP (c:bn):PV:=.agg (ctK c)
def uE (c:bn):SV:=.p false (ctP c)
def awS (s:d9):List PV:=[fD s.en,kD s.va,kD s.inp,kD s.vl,fD s.ti]
def tq (s:d9):PV:=.agg (awS s)
def vQ (s:d9):SV:=.p false (tq s)
def bQ (c:bn):Int:=2*c.act+c.ins.length
def dz (c:bn):Int:=2*c.act+c.ins.length+c.sgs.length
def kU (c:bn):Prop:=(0≤c.act∧c.act≤1000)∧c.ins.length≤1000000∧c.sgs.length≤1000000
def abL (n:Nat):List UInt8:=[UInt8.ofNat (97+n / 2),UInt8.ofNat (48+n % 2)]
def dZ (c:bn) (n:Nat):List UInt8:=if (n:Int)<2*c.act then abL n else if (n:Int)<bQ c then c.ins.getD (n-2*c.act.toNat) [] else (c.sgs.getD (n-2*c.act.toNat-c.ins.length) ak).nm
def jF (s:List UInt8):Bool:=!s.isEmpty&&jf (s.getD 0 0)&&s.all dW
def kQ (c:bn) (n:Nat):Int:=if !jF (dZ c n) then 3 else if 24<(dZ c n).length then 17 else if (List.range n).any (fun i=>dZ c i==dZ c n) then 7 else 0
def bJ (x:Ex):Bool:=(x.op==0)&&(x.idx==0)&&x.args.isEmpty
mutual
def qP (v:Int):Ex→Bool
 | .node o i l=>if o=1 then i==v else air v l
def air (v:Int):List Ex→Bool
 | []=>false
 | x :: l=>qP v x||air v l
end
def adv (c:bn) (i k:Nat):Bool:=decide (i≤k)&&(((c.sgs.getD k ak).kd==0)&&qP (bQ c+(k:Int)) (c.sgs.getD i ak).on)
def qz (c:bn) (i:Nat):Bool:=(List.range c.sgs.length).any (adv c i)
def aT (c:bn) (i:Nat):Int:=
 if ¬kQ c (2*c.act.toNat+c.ins.length+i)=0 then kQ c (2*c.act.toNat+c.ins.length+i)
 else if (c.sgs.getD i ak).kd<0∨3≤(c.sgs.getD i ak).kd then 1
 else if ¬bf (c.sgs.getD i ak).on (dz c)=0 then bf (c.sgs.getD i ak).on (dz c)
 else if (c.sgs.getD i ak).kd=1∧¬bf (c.sgs.getD i ak).off (dz c)=0 then bf (c.sgs.getD i ak).off (dz c)
 else if (c.sgs.getD i ak).kd=0∧qz c i=true then 9
 else if (c.sgs.getD i ak).kd=2∧((c.sgs.getD i ak).dl<1∨1000000<(c.sgs.getD i ak).dl) then 2
 else if (¬(c.sgs.getD i ak).kd=1∧(bJ (c.sgs.getD i ak).off=false∨(c.sgs.getD i ak).ini=true))∨(¬(c.sgs.getD i ak).kd=2∧¬(c.sgs.getD i ak).dl=0) then 3 else 0
def abx (c:bn) (l:List Int):Bool:=l.any fun x=>decide (x<0)||decide (dz c≤x)
def nV (c:bn):Int:=if ¬((c.pl.length:Int)=c.act∧(c.mi.length:Int)=c.act) then 8 else if abx c c.pl||abx c c.mi then 6 else 0
def bB (c:bn):Int:=
 if c.act<1∨6<c.act then 2 else if 16<c.ins.length∨64<c.sgs.length then 5
 else if ¬dw (fun i=>kQ c (2*c.act.toNat+i)) c.ins.length=0 then dw (fun i=>kQ c (2*c.act.toNat+i)) c.ins.length
 else if ¬dw (aT c) c.sgs.length=0 then dw (aT c) c.sgs.length else nV c
def awN (x:rQ):Prop:=x.on.size≤1000000∧x.off.size≤1000000
def anr (c:bn):Prop:=(∀x∈c.sgs,awN x)∧c.pl.length≤1000000∧c.mi.length≤1000000
def l5 (m:List Bool) (k:Nat):PV:=bP (m.getD k false)
def mkP (m:List Bool):PV:=.arr 24 (l5 m)
def mkA (m:List Bool):SV:=.p false (mkP m)
theorem rY (g:Nat→PV):∀(n i k:Nat),k<n→(pW g i n)[k]?=some (g (i+k))
 | 0,_,_,h=>by omega
 | n+1,i,0,_=>rfl
 | n+1,i,k+1,h=>by
  show (pW g (i+1) n)[k]?=_
  rw[rY g n (i+1) k (by omega),show i+1+k=i+(k+1) by omega]
theorem avG (m:List Bool) {k:Nat} (h:k<24):(iJ 24 (l5 m))[k]?=some (l5 m k):=by
 unfold iJ;rw[rY _ _ _ _ h,ajv]
def oG (n:Nat) (l:List Int):Prop:=∀k∈l,0≤k∧k<(n:Int)
theorem yh {n:Nat} {l:List Int} (h:oG n l) {k:Nat} (hk:k<l.length):0≤l.getD k 0∧l.getD k 0<(n:Int):=h _ (aa0 (bC 0 hk))
def kI (m:List Bool) (k:Int):Bool:=m.getD k.toNat false
def allM (m:List Bool) (l:List Int):Bool:=l.all (kI m)
def avl (m:List Bool):PV:=.fn 137 [.pt (iJ 24 (l5 m)) 0]
theorem ar3:ay Tryz.prog 137 (bH (fun a:List Bool×Int=>[iA a.2,.p false (.pt (iJ 24 (l5 a.1)) 0)]) (fun a=>0≤a.2∧a.2<24) (fun a=>bP (!kI a.1 a.2))):=by
 refine vF Tryz.func137 ?_
 rintro (a:List Bool×Int) hpre
 have h1:0≤a.2:=hpre.1
 have h2:a.2<24:=hpre.2
 refine ai ⟨h1,h2⟩ ?_
 refine ei (l5 a.1 a.2.toNat) (ai (by rw[ajv];exact avG a.1 (by omega)) ?_)
 refine eN _ ?_
 exact rfl
def awd:Spec:=bH (fun a:List Bool×List Int=>[isA a.2,.p false (avl a.1)]) (fun a=>oG 24 a.2∧a.2.length≤1000000) (fun a=>iP (jk (fun k=>!kI a.1 k) a.2))
theorem ar4:ay Tryz.prog 187 awd:=by
 refine vF Tryz.func187 ?_
 rintro (a:List Bool×List Int) hpre
 obtain ⟨hx,hl⟩:=hpre
 have hl:a.2.length≤1000000:=hl
 refine fR (a.2.length) (fun k=>[(8,.s (iA k))]) (fun k=>[]) (fun k=>∀y∈a.2.take k,(!kI a.1 y)=false) (by exact (ai (ai (fun _=>rfl) (iE (by omega))) rfl)) (by exact trivial) ?_ ?_
 ·exact fun y hy=>absurd hy (by simp)
 intro (k:Nat) ⟨hk,hall⟩
 refine bL (k<a.2.length) (fun h1=>?_) fun h1=>?_
 ·refine iX (k) (a.2.length) ?_
  refine cK (ar3) ((a.1,a.2.getD k 0)) (by exact (ai (iE (by simp only[zz,reduceCtorEq])) (ai rfl rfl))) (yh hx h1) ?_
  refine aC (b:=!kI a.1 (a.2.getD k 0)) rfl (fun h2=>?_) (fun h2=>?_)
  ·refine eN (iP (jk (fun k=>!kI a.1 k) a.2)) ?_
   rw[rA (d:=0) h1 h2 hall]
   exact rfl
  refine nX (k) (ai (ai (fun _=>rfl) (aH (by omega))) rfl) trivial ?_
  intro y hy
  rw[aQ 0 h1] at hy
  rcases acE.1 hy with hy | hy
  ·exact hall y hy
  ·simp only[acN] at hy;subst hy;exact h2
 ·obtain rfl:k=a.2.length:=by omega
  rw[acI] at hall
  refine eN (iP (jk (fun k=>!kI a.1 k) a.2)) ?_
  rw[tL hall]
  exact rfl
theorem asr:ay Tryz.prog 130 (bH (fun a:List Bool×List Int=>[isA a.2,.p false (avl a.1)]) (fun a=>oG 24 a.2∧a.2.length≤1000000) (fun a=>bP (a.2.any fun k=>!kI a.1 k))):=by
 refine vF Tryz.func130 ?_
 rintro (a:List Bool×List Int) hpre
 refine cK (ar4) (a) (by exact (ai (ai rfl (fun _ _=>rfl)) (ai rfl rfl))) (hpre) ?_
 refine eN (bP (a.2.any fun k=>!kI a.1 k)) ?_
 rw[(qy (fun k=>!kI a.1 k) a.2).symm]
 exact rfl
theorem anQ:ay Tryz.prog 82 (bH (fun a:List Bool×List Int=>[mkA a.1,isA a.2]) (fun a=>oG 24 a.2∧a.2.length≤1000000) (fun a=>bP (allM a.1 a.2))):=by
 refine vI [3000006] Tryz.func82 ?_
 rintro (a:List Bool×List Int) hpre
 refine cK (asr) (a) (by exact (ai (ai rfl (fun _ _=>rfl)) (ai rfl rfl))) (hpre) ?_
 refine eN (bP (allM a.1 a.2)) ?_
 rw[show allM a.1 a.2=!(a.2.any fun k=>!kI a.1 k) by unfold allM;simp[List.not_any_eq_all_not]]
 exact rfl
def qL (l:List Bool):List Bool:=l++List.replicate (24-l.length) false
theorem aeV (l:List Bool) (k:Nat):(qL l).getD k false=l.getD k false:=by
 unfold qL
 rw[aam,aam]
 by_cases h:k<l.length
 ·rw[al7 h]
 ·rw[aex (by omega),awr (l:=l) (by omega),avf]
  split<;>rfl
theorem aqY {l:List Bool} (h:l.length≤24):(qL l).length=24:=by unfold qL;rw[aas,alO];omega
def mk0:List Bool:=qL []
def oL (c:aA) (a:List Bool):Int:=if ¬bW c=0 then bW c else if ¬a.length=c.sts.length then 8 else 0
def p9 (c:aA) (a:List Bool):List Bool:=if oL c a=0 then qL a else mk0
def awP:Spec:=bS (fun a:aA×List Bool=>[jS a.1,rX a.2]) (fun a=>jC a.1) (fun a=>.tup [mkP (p9 a.1 a.2),iP (oL a.1 a.2)])
theorem alP:∀k,k<24→nH (vals (List.replicate 24 (.bool false))) k=l5 mk0 k:=by
 intro k hk
 rw[xS,agK 24 _ hk]
 unfold l5 mk0
 rw[aeV];rfl
theorem yx {c:aA} {a:List Bool} (h:oL c a=0):bW c=0∧a.length=c.sts.length∧a.length≤24:=by
 unfold oL at h
 split at h
 ·rename_i h1;exact absurd h h1
 ·rename_i h1
  split at h
  ·cases h
  ·rename_i h2
   have h1:=akB.1 h1
   have h2:=akB.1 h2
   have:=(kN h1).2.2.1.2
   exact ⟨h1,h2,by omega⟩
theorem ar9 {l:List Bool} (h:l.length≤24):∀k,k<24→adZ (nH (vals (List.replicate 24 (.bool false)))) 0 (Nat.min l.length 24) (fun k=>[bP (l.getD k false)]) k=l5 (qL l) k:=by
 intro k hk
 unfold adZ
 have hm:Nat.min l.length 24=l.length:=Nat.min_eq_left h
 rw[hm]
 unfold l5
 rw[aeV]
 by_cases hk2:k<l.length
 ·rw[if_pos ⟨akx _,by omega⟩,awo];rfl
 ·rw[if_neg (by omega),xS,agK 24 _ hk,aam,awr (by omega)];rfl
theorem anT:ay Tryz.prog 76 awP:=by
 refine vF Tryz.func76 ?_
 rintro (a:aA×List Bool) hpre
 refine cK (abf) (a.1) (by exact (ai rfl (ai (ai rfl (fun _ _=>rfl)) (ai (ai rfl (fun _ _=>rfl)) (ai rfl (fun _ _=>rfl)))))) (hpre) ?_
 refine bN (bW a.1=0) (fun h1=>?_) fun h1=>?_
 ·have e:oL a.1 a.2=bW a.1:=by unfold oL;rw[if_pos h1]
  refine eF (.tup [mkP (p9 a.1 a.2),iP (oL a.1 a.2)]) ?_
  rw[p9,e,if_neg h1]
  refine (ai (ai rfl ?_) rfl)
  exact alP
 refine bN (a.2.length=a.1.sts.length) (fun h2=>?_) fun h2=>?_
 ·have e:oL a.1 a.2=8:=by unfold oL;rw[if_neg (fun h=>h h1),if_pos h2]
  refine eF (.tup [mkP (p9 a.1 a.2),iP (oL a.1 a.2)]) ?_
  rw[p9,e,if_neg (show ¬(8:Int)=0 by decide)]
  refine (ai (ai rfl ?_) rfl)
  exact alP
 have e:oL a.1 a.2=0:=by unfold oL;rw[if_neg (fun h=>h h1),if_neg (fun h=>h h2)]
 refine ai (ai (by decide) (ai (by decide) (by decide))) ?_
 refine ai (ai rfl (fun _ _=>rfl)) ?_
 refine eF (.tup [mkP (p9 a.1 a.2),iP (oL a.1 a.2)]) ?_
 rw[p9,e,if_pos rfl]
 refine (ai (ai rfl ?_) rfl)
 exact ar9 (yx e).2.2
def mQ (c:aA) (a v:List Bool):Int:=if ¬oL c a=0 then oL c a else if ¬(v.length:Int)=lq c then 8 else 0
def awT:Spec:=bS (fun a:aA×List Bool×List Bool=>[jS a.1,rX a.2.1,rX a.2.2]) (fun a=>jC a.1) (fun a=>.tup [mkP (p9 a.1 a.2.1),iP (mQ a.1 a.2.1 a.2.2)])
theorem jw {c:aA} (h:bW c=0):oq c:=by
 obtain ⟨h1,h2,h3,h4,-⟩:=kN h
 have:=xG h2
 exact ⟨by omega,by omega,by omega,by omega⟩
theorem arh:ay Tryz.prog 80 awT:=by
 refine vF Tryz.func80 ?_
 rintro (a:aA×List Bool×List Bool) hpre
 refine cK (anT) ((a.1,a.2.1)) (by exact (ai (ai rfl (ai (ai rfl (fun _ _=>rfl)) (ai (ai rfl (fun _ _=>rfl)) (ai rfl (fun _ _=>rfl))))) (ai rfl (fun _ _=>rfl)))) (hpre) ?_
 refine ah (p:=oL a.1 a.2.1=0) (uT (by dsimp only;omega)) (fun h1=>?_) (fun h1=>?_)
 ·refine cK (alx) (a.1) (by exact (ai rfl (ai (ai rfl (fun _ _=>rfl)) (ai (ai rfl (fun _ _=>rfl)) (ai rfl (fun _ _=>rfl)))))) (jw (yx h1).1) ?_
  refine bN ((a.2.2.length:Int)=lq a.1) (fun h2=>?_) fun h2=>?_
  ·have e:mQ a.1 a.2.1 a.2.2=8:=by unfold mQ;rw[if_neg (fun h=>h h1),if_pos h2]
   refine eF (.tup [mkP (p9 a.1 a.2.1),iP (mQ a.1 a.2.1 a.2.2)]) ?_
   rw[e]
   exact (ai (ai rfl (fun _ _=>rfl)) rfl)
  ·have e:mQ a.1 a.2.1 a.2.2=0:=by unfold mQ;rw[if_neg (fun h=>h h1),if_neg (fun h=>h h2)]
   refine eF (.tup [mkP (p9 a.1 a.2.1),iP (mQ a.1 a.2.1 a.2.2)]) ?_
   rw[e]
   exact (ai (ai rfl (fun _ _=>rfl)) (iE (by simp only[zz,reduceCtorEq];omega)))
 ·have e:mQ a.1 a.2.1 a.2.2=oL a.1 a.2.1:=by unfold mQ;rw[if_pos h1]
  refine eF (.tup [mkP (p9 a.1 a.2.1),iP (mQ a.1 a.2.1 a.2.2)]) ?_
  rw[e]
  exact (ai (ai rfl (fun _ _=>rfl)) rfl)
theorem ab6 {n:Nat} {f g:Nat→List PV}:∀k,k<0+n→bD 0 f g k=g k:=fun k hk=>by
 unfold bD;rw[if_neg (aeo _),awo]
def avN:Spec:=bH (fun l:List (Bool)=>[rX l]) (fun l=>l.length≤1000000) (fun l=>kD l)
theorem rJ:ay Tryz.prog 61 avN:=by
 refine vF Tryz.func61 ?_
 rintro (l:List (Bool)) hpre
 have hl:l.length≤1000000:=hpre
 intro b hb
 refine gV (fun h1=>?_) (fun h1=>?_)
 ·have h1:l.length=0:=hb h1
  refine eN (kD l) ?_
  rw[axb.1 h1]
  exact rfl
 ·refine ai (mxL (n:=0+l.length) (by omega) (by decide)) (ai (fun _ _=>rfl) ?_)
  refine ai (ai (fun _ k hk=>by rw[ab6 k hk];rfl) ?_) trivial
  refine (ai ?_ (fun _ _=>rfl))
  exact ajv _
def av2:Spec:=bH (fun l:List (Int)=>[isA l]) (fun l=>l.length≤1000000) (fun l=>fD l)
theorem tT:ay Tryz.prog 121 av2:=by
 refine vF Tryz.func121 ?_
 rintro (l:List (Int)) hpre
 have hl:l.length≤1000000:=hpre
 intro b hb
 refine gV (fun h1=>?_) (fun h1=>?_)
 ·have h1:l.length=0:=hb h1
  refine eN (fD l) ?_
  rw[axb.1 h1]
  exact rfl
 ·refine ai (mxL (n:=0+l.length) (by omega) (by decide)) (ai (fun _ _=>rfl) ?_)
  refine ai (ai (fun _ k hk=>by rw[ab6 k hk];rfl) ?_) trivial
  refine (ai ?_ (fun _ _=>rfl))
  exact ajv _
def awJ:Spec:=bH (fun a:aA×List Bool=>[jS a.1,mkA a.2]) (fun a=>a.1.sts.length≤24∧a.2.length=24) (fun a=>kD (a.2.take a.1.sts.length))
theorem atq:ay Tryz.prog 83 awJ:=by
 refine vF Tryz.func83 ?_
 rintro (a:aA×List Bool) hpre
 obtain ⟨h1,h2⟩:=hpre
 have h1:a.1.sts.length≤24:=h1
 have h2:a.2.length=24:=h2
 refine ai (ai (by decide) (ai (aa1 _) (by show (a.1.sts.length:Int)≤24;omega))) ?_
 have htl:(a.2.take a.1.sts.length).length=a.1.sts.length:=by rw[arI];omega
 refine ei _ (ai (rJ) (ei (a.2.take a.1.sts.length) (ei [] (ai (ai rfl (ai rfl (ai rfl (ai rfl (ai (fun _=>Or.inl rfl) (ai (fun _=>ai rfl rfl) (Or.inl rfl))))))) (ai ?_ (ai (by exact trivial) (ai ((by show (a.2.take a.1.sts.length).length≤1000000;omega)) ?_)))))))
 ·refine (ai rfl (ai ?_ ?_))
  ·show ((a.1.sts.length:Int)).toNat-(0:Int).toNat=(a.2.take a.1.sts.length).length
   rw[htl];simp
  ·intro k hk
   have hk:k<((a.1.sts.length:Int)).toNat-(0:Int).toNat:=hk
   have hk:k<a.1.sts.length:=by simpa using hk
   show [bP (a.2.getD ((0:Int).toNat+k) false)]=[bP ((a.2.take a.1.sts.length).getD k false)]
   rw[show (0:Int).toNat+k=k by simp,aam,aam,auL,if_pos hk]
 refine eN _ ?_
 exact (ai rfl (fun _ _=>rfl))
def isR (l:List Int):LV:=.rw 3 1 l.length (fun k=>[iP (l.getD k 0)])
theorem ar1 {a b:List Int} {n:Nat} {f g:Nat→List PV} (hn:n=a.length) (hf:∀k,k<a.length→f k=[iP (a.getD k 0)]) (hg:∀k,k<b.length→g k=[iP (b.getD k 0)]):∀k,k<(a++b).length→bD n f g k=[iP ((a++b).getD k 0)]:=by
 intro k hk
 subst hn
 unfold bD
 by_cases h:k<a.length
 ·rw[if_pos h,hf k h,aam,aam,al7 h]
 ·have hb:k-a.length<b.length:=by rw[aas] at hk;omega
  rw[if_neg h,hg _ hb,aam,aam,aex (by omega)]
theorem dM (a:List Int) (x:Int):∀k,k<a.length+1→bD a.length (fun k=>[iP (a.getD k 0)]) (aU 1 [iP x]) k=[iP ((a++[x]).getD k 0)]:=fun k hk=>
 ar1 (a:=a) (b:=[x]) rfl (fun _ _=>rfl) (fun j hj=>by
  have hj:j<1:=hj
  obtain rfl:j=0:=by omega
  rfl) k (by rw[aas];exact hk)
def pE (c:aA) (m vs:List Bool) (i:Nat):Bool:=allM m (c.trs.getD i aZ).fr&&fV vs (c.trs.getD i aZ).wh
def jP (p:Nat→Bool):Nat→List Int
 | 0=>[]
 | n+1=>if p n then jP p n++[(n:Int)] else jP p n
theorem aeI (p:Nat→Bool):∀n,(jP p n).length≤n
 | 0=>abm _
 | n+1=>by
  have:=aeI p n
  rw[jP];split
  ·rw[aas];simp;omega
  ·omega
def aww:Spec:=bS (fun a:aA×List Bool×List Bool=>[jS a.1,mkA a.2.1,rX a.2.2]) (fun a=>bW a.1=0∧jC a.1∧(a.2.2.length:Int)=lq a.1) (fun a=>.tup [fD (jP (pE a.1 a.2.1 a.2.2) a.1.trs.length),iP 0])
theorem alv {n:Nat} {l:List Int} (h:jD n l=0) (hn:n≤24):oG 24 l∧oG n l∧0<l.length:=by
 unfold jD at h
 split at h
 ·cases h
 ·rename_i h0
  have h1:=pJ h
  have:oG n l:=by
   intro k hk
   obtain ⟨i,hi,rfl⟩:=apT hk
   have h2:=h1 i hi
   unfold ql at h2
   have hg:l.getD i 0=l[i]:=by rw[aam,aav hi];rfl
   rw[hg] at h2
   split at h2
   ·cases h2
   ·omega
  exact ⟨fun k hk=>by have:=this k hk;omega,this,by omega⟩
theorem asV {c:aA} {t:rP} (h:kH c t=0) (hn:c.sts.length≤24):(oG 24 t.fr∧oG c.sts.length t.fr)∧(oG 24 t.to∧oG c.sts.length t.to)∧bf t.wh (lq c)=0:=by
 unfold kH at h
 split at h
 ·rename_i h1;exact absurd h h1
 rename_i h1
 split at h
 ·rename_i h2;exact absurd h h2
 rename_i h2
 have g1:=alv (akB.1 h1) hn
 have g2:=alv (akB.1 h2) hn
 exact ⟨⟨g1.1,g1.2.1⟩,⟨g2.1,g2.2.1⟩,h⟩
theorem sw {c:aA} (h:bW c=0) {i:Nat} (hi:i<c.trs.length):(oG 24 (c.trs.getD i aZ).fr∧oG c.sts.length (c.trs.getD i aZ).fr)∧(oG 24 (c.trs.getD i aZ).to∧oG c.sts.length (c.trs.getD i aZ).to)∧bf (c.trs.getD i aZ).wh (lq c)=0:=by
 obtain ⟨_,_,h3,_,_,h6⟩:=kN h
 exact asV (h6 i hi) h3.2
theorem mY {c:aA} (h:jC c) {i:Nat} (hi:i<c.trs.length):ams (c.trs.getD i aZ):=h.2 _ (aa0 (bC aZ hi))
theorem enabled_ok:ay Tryz.prog 81 aww:=by
 refine vF Tryz.func81 ?_
 rintro (a:aA×List Bool×List Bool) hpre
 obtain ⟨hc,ho,hv⟩:=hpre
 have hc:bW a.1=0:=hc
 have ho:jC a.1:=ho
 have hv:(a.2.2.length:Int)=lq a.1:=hv
 have h32:=(kN hc).2.2.2.1
 refine fR (a.1.trs.length) (fun k=>[(16,.s (iA k)),(8,isR (jP (pE a.1 a.2.1 a.2.2) k))]) (fun k=>[]) (fun k=>True) (by exact (ai (ai (ai (fun _=>rfl) (iE (by omega))) rfl) rfl)) (by exact trivial) ?_ ?_
 ·trivial
 intro (k:Nat) ⟨hk,_⟩
 have hfl:=aeI (pE a.1 a.2.1 a.2.2) k
 refine bL (k<a.1.trs.length) (fun h1=>?_) fun h1=>?_
 ·refine iX (k) (a.1.trs.length) ?_
  obtain ⟨g1,g2,g3⟩:=sw hc h1
  have hto:=mY ho h1
  have hP:pE a.1 a.2.1 a.2.2 k=(allM a.2.1 (a.1.trs.getD k aZ).fr&&fV a.2.2 (a.1.trs.getD k aZ).wh):=rfl
  refine cK (anQ) ((a.2.1,(a.1.trs.getD k aZ).fr)) (by exact (ai (ai rfl (fun _ _=>rfl)) (ai rfl (fun _ _=>rfl)))) (⟨g1.1,hto.1⟩) ?_
  refine aC (b:=!allM a.2.1 (a.1.trs.getD k aZ).fr) rfl (fun h2=>?_) (fun h2=>?_)
  ·have h2:allM a.2.1 (a.1.trs.getD k aZ).fr=false:=by simpa using h2
   have e:jP (pE a.1 a.2.1 a.2.2) (k+1)=jP (pE a.1 a.2.1 a.2.2) k:=by rw[jP,if_neg (by rw[hP,h2,arQ];decide)]
   refine nX (k) (ai (ai (ai (fun _=>rfl) (aH (by omega))) rfl) (ai rfl (ai rfl (ai ?_ ?_)))) trivial trivial
   ·rw[e]
   ·rw[e];exact fun _ _=>rfl
  have h2:allM a.2.1 (a.1.trs.getD k aZ).fr=true:=by simpa using h2
  have hev:eu (a.1.trs.getD k aZ).wh a.2.2=(fV a.2.2 (a.1.trs.getD k aZ).wh,0):=by unfold eu;rw[hv,if_pos g3]
  refine cK ((wF vR ((a.1.trs.getD k aZ).wh,a.2.2) hto.2.2 (by show PV.tup [bP (eu (a.1.trs.getD k aZ).wh a.2.2).1,iP (eu (a.1.trs.getD k aZ).wh a.2.2).2]=_;rw[hev]))) (()) (by exact (ai (ai (iE (by simp only[zz,reduceCtorEq])) (ai (iE (by simp only[zz,reduceCtorEq])) (ai rfl (fun _ _=>rfl)))) (ai rfl (fun _ _=>rfl)))) (trivial) ?_
  refine aC (b:=fV a.2.2 (a.1.trs.getD k aZ).wh) rfl (fun h3=>?_) (fun h3=>?_)
  ·have e:jP (pE a.1 a.2.1 a.2.2) (k+1)=jP (pE a.1 a.2.1 a.2.2) k++[(k:Int)]:=by rw[jP,if_pos (by rw[hP,h2,h3];rfl)]
   refine ai (mxL (n:=(jP (pE a.1 a.2.1 a.2.2) k).length+1) (by omega) (by decide)) (ai (gB 1 rfl) ?_)
   refine nX (k) (ai (ai (ai (fun _=>rfl) (aH (by omega))) rfl) (ai rfl (ai rfl (ai ?_ ?_)))) trivial trivial
   ·rw[e,aas];rfl
   ·rw[e];exact dM _ _
  ·have e:jP (pE a.1 a.2.1 a.2.2) (k+1)=jP (pE a.1 a.2.1 a.2.2) k:=by rw[jP,if_neg (by rw[hP,h3,arX];decide)]
   refine nX (k) (ai (ai (ai (fun _=>rfl) (aH (by omega))) rfl) (ai rfl (ai rfl (ai ?_ ?_)))) trivial trivial
   ·rw[e]
   ·rw[e];exact fun _ _=>rfl
 ·obtain rfl:k=a.1.trs.length:=by omega
  refine ai (ai (fun _=>(by exact (ai (fun _ _=>rfl) trivial))) ?_) trivial
  exact (ai (ai rfl (fun _ _=>rfl)) rfl)
theorem al4 {c:aA} {a v:List Bool} (h:mQ c a v=0):oL c a=0∧(v.length:Int)=lq c:=by
 unfold mQ at h
 split at h
 ·rename_i h1;exact absurd h h1
 ·rename_i h1
  split at h
  ·cases h
  ·rename_i h2;exact ⟨akB.1 h1,akB.1 h2⟩
theorem ap6 (a:List Bool) (k:Int):kI (qL a) k=kI a k:=aeV a k.toNat
theorem aj9 (a:List Bool) (l:List Int):allM (qL a) l=allM a l:=by
 unfold allM;rw[show kI (qL a)=kI a from funext (ap6 a)]
theorem avq (c:aA) (a v:List Bool):pE c (qL a) v=pE c a v:=by
 funext i;unfold pE;rw[aj9]
def dX (m:List Bool) (l:List Int) (b:Bool):List Bool:=l.foldl (fun m k=>m.set k.toNat b) m
theorem lX (b:Bool):∀(l:List Int) (m:List Bool),(dX m l b).length=m.length
 | [],_=>rfl
 | k :: l,m=>by
  show (dX (m.set k.toNat b) l b).length=_
  rw[lX b l,an8]
theorem abX (m:List Bool) (l:List Int) (k:Int) (b:Bool):dX m (l++[k]) b=(dX m l b).set k.toNat b:=by unfold dX;rw[avA];rfl
theorem alY {m:List Bool} (hm:m.length=24) {j:Nat} (hj:j<24) (b:Bool) (k:Nat):vO (l5 m) j (bP b) k=l5 (m.set j b) k:=by
 unfold vO l5
 rw[aam,aam,axi]
 by_cases h:k=j
 ·rw[if_pos h,if_pos h.symm,if_pos (by omega)];rfl
 ·rw[if_neg h,if_neg (fun e=>h e.symm)]
def mkO (m:List Bool):Ob:=.arr 132 24 (l5 m)
def gK (l:List Int) (k:Int):Bool:=l.any fun y=>k==y
def nG (c:aA) (s:List Bool×List Int) (i:Int):List Bool×List Int:=if allM s.1 (c.trs.getD i.toNat aZ).fr then (dX s.1 (c.trs.getD i.toNat aZ).fr false,s.2++[i]) else s
def jA (c:aA) (m:List Bool) (l:List Int):List Bool×List Int:=l.foldl (nG c) (m,[])
theorem ank (c:aA) (m:List Bool) (l:List Int) (i:Int):jA c m (l++[i])=nG c (jA c m l) i:=by unfold jA;rw[avA];rfl
theorem anD (c:aA) (s:List Bool×List Int) (i:Int):(nG c s i).1.length=s.1.length∧(nG c s i).2.length≤s.2.length+1:=by
 unfold nG
 split
 ·exact ⟨lX _ _ _,by simp⟩
 ·exact ⟨rfl,by omega⟩
theorem ajr (c:aA):∀(l:List Int) (s:List Bool×List Int),(l.foldl (nG c) s).1.length=s.1.length∧(l.foldl (nG c) s).2.length≤s.2.length+l.length
 | [],s=>⟨rfl,by simp⟩
 | i :: l,s=>by
  have h1:=anD c s i
  have h2:=ajr c l (nG c s i)
  exact ⟨h2.1.trans h1.1,by rw[avF,apl];omega⟩
theorem akc (c:aA):∀(l:List Int) (s:List Bool×List Int) (x:Int),x∈(l.foldl (nG c) s).2→x∈s.2∨x∈l
 | [],s,x,h=>.inl h
 | i :: l,s,x,h=>by
  rcases akc c l (nG c s i) x h with h | h
  ·unfold nG at h
   split at h
   ·rcases acE.1 h with h | h
    ·exact .inl h
    ·exact .inr (by simp at h;simp[h])
   ·exact .inl h
  ·exact .inr (arP _ h)
theorem abu {p:Nat→Bool}:∀{n:Nat} {x:Int},x∈jP p n→∃i:Nat,i<n∧x=i∧p i=true
 | 0,x,h=>by simp[jP] at h
 | n+1,x,h=>by
  rw[jP] at h
  split at h
  ·rename_i hp
   rcases acE.1 h with h | h
   ·obtain ⟨i,h1,h2,h3⟩:=abu h;exact ⟨i,by omega,h2,h3⟩
   ·simp at h;exact ⟨n,by omega,h,hp⟩
  ·obtain ⟨i,h1,h2,h3⟩:=abu h;exact ⟨i,by omega,h2,h3⟩
def kJ (c:aA) (m:List Bool) (l:List Int):List Bool:=l.foldl (fun m i=>dX m (c.trs.getD i.toNat aZ).to true) m
theorem amH (c:aA) (m:List Bool) (l:List Int) (i:Int):kJ c m (l++[i])=dX (kJ c m l) (c.trs.getD i.toNat aZ).to true:=by unfold kJ;rw[avA];rfl
theorem aao (c:aA):∀(l:List Int) (m:List Bool),(kJ c m l).length=m.length
 | [],_=>rfl
 | i :: l,m=>by
  show (kJ c (dX m (c.trs.getD i.toNat aZ).to true) l).length=_
  rw[aao c l,lX]
def uQ (c:aA) (a v:List Bool):List Bool×List Int:=jA c (qL a) (jP (pE c a v) c.trs.length)
def xW (c:aA) (a v:List Bool):PV:=if mQ c a v=0 then .tup [kD ((kJ c (uQ c a v).1 (uQ c a v).2).take c.sts.length),fD (uQ c a v).2,iP 0] else .tup [kD [],fD [],iP (mQ c a v)]
def avH:Spec:=bS (fun a:aA×List Bool×List Bool=>[jS a.1,rX a.2.1,rX a.2.2]) (fun a=>jC a.1) (fun a=>xW a.1 a.2.1 a.2.2)
theorem asU:ay Tryz.prog 42 avH:=by
 refine vF Tryz.func42 ?_
 rintro ⟨c,a,v⟩ hpre
 have ho:jC c:=hpre
 refine cK ((kM arh (c,a,v) ho (r:=.tup [mkP (p9 c a),iP (mQ c a v)]) rfl)) (()) (by exact (ai (ai rfl (ai (ai rfl (fun _ _=>rfl)) (ai (ai rfl (fun _ _=>rfl)) (ai rfl (fun _ _=>rfl))))) (ai (ai rfl (fun _ _=>rfl)) (ai rfl (fun _ _=>rfl))))) (trivial) ?_
 refine bN (mQ c a v=0) (fun h1=>?_) fun h1=>?_
 ·refine eF (xW c a v) ?_
  rw[xW,if_neg h1]
  exact (ai rfl (ai rfl rfl))
 have hA:xW c a v=.tup [kD ((kJ c (uQ c a v).1 (uQ c a v).2).take c.sts.length),fD (uQ c a v).2,iP 0]:=by unfold xW;rw[if_pos h1]
 obtain ⟨g1,g2⟩:=al4 h1
 have hc:=(yx g1).1
 have ha24:=(yx g1).2.2
 have e1:p9 c a=qL a:=if_pos g1
 refine cK ((kM enabled_ok (c,p9 c a,v) ⟨hc,ho,g2⟩ (r:=.tup [fD (jP (pE c a v) c.trs.length),iP 0]) (by show PV.tup [fD (jP (pE c (p9 c a) v) c.trs.length),iP 0]=_;rw[e1,avq]))) (()) (by exact (ai (ai rfl (ai (ai rfl (fun _ _=>rfl)) (ai (ai rfl (fun _ _=>rfl)) (ai rfl (fun _ _=>rfl))))) (ai (ai rfl (fun _ _=>rfl)) (ai rfl (fun _ _=>rfl))))) (trivial) ?_
 have h32:=(kN hc).2.2.2.1
 have h24:=(kN hc).2.2.1.2
 have hlm:∀x∈jP (pE c a v) c.trs.length,0≤x∧x<(c.trs.length:Int):=fun x hx=>by
  obtain ⟨i,h1,h2,_⟩:=abu hx;omega
 have hll:=aeI (pE c a v) c.trs.length
 have hS:uQ c a v=jA c (p9 c a) (jP (pE c a v) c.trs.length):=by rw[e1];rfl
 rw[hS] at hA
 have hm:(p9 c a).length=24:=by rw[e1];exact aqY ha24
 clear hS e1
 generalize jP (pE c a v) c.trs.length=l at hA hlm hll ⊢
 generalize p9 c a=m at hA hm ⊢
 have hsl:∀k,(jA c m (l.take k)).1.length=24∧(jA c m (l.take k)).2.length≤32:=fun k=>by
  have h:=ajr c (l.take k) (m,[])
  refine ⟨h.1.trans hm,?_⟩
  have h2:(jA c m (l.take k)).2.length≤0+(l.take k).length:=h.2
  rw[arI] at h2;omega
 refine fR (l.length) (fun k=>[(46,.s (iA k)),(13,isR (jA c m (l.take k)).2)]) (fun k=>[⟨2,132,[.ob (mkO (jA c m (l.take k)).1)]⟩]) (fun k=>True) ?_ ?_ ?_ ?_
 ·exact (ai (ai (ai (fun _=>rfl) (iE (by omega))) rfl) rfl)
 ·exact (ai (ai rfl (ai rfl (fun _ _=>rfl))) trivial)
 ·trivial
 intro (k:Nat) ⟨hk,_⟩
 obtain ⟨s1,s2⟩:=hsl k
 refine bL (k<l.length) (fun h2=>?_) fun h2=>?_
 ·refine iX (k) (l.length) ?_
  have hx0:=hlm _ (aa0 (bC 0 h2))
  have hi:(l.getD k 0).toNat<c.trs.length:=by omega
  obtain ⟨q1,q2,q3⟩:=sw hc hi
  have hto:=mY ho hi
  have hst:jA c m (l.take (k+1))=nG c (jA c m (l.take k)) (l.getD k 0):=by rw[aQ 0 h2,ank]
  refine ai hx0 ?_
  refine ai rfl ?_
  refine cK (anQ) (((jA c m (l.take k)).1,(c.trs.getD (l.getD k 0).toNat aZ).fr)) (by exact (ai (ai rfl (fun _ _=>rfl)) (ai rfl (fun _ _=>rfl)))) (⟨q1.1,hto.1⟩) ?_
  have hf:(c.trs.getD (l.getD k 0).toNat aZ).fr.length≤1000000:=hto.1
  refine aC (b:=allM (jA c m (l.take k)).1 (c.trs.getD (l.getD k 0).toNat aZ).fr) rfl (fun h4=>?_) (fun h4=>?_)
  ·have e:jA c m (l.take (k+1))=(dX (jA c m (l.take k)).1 (c.trs.getD (l.getD k 0).toNat aZ).fr false,(jA c m (l.take k)).2++[l.getD k 0]):=by rw[hst];unfold nG;rw[h4];rfl
   refine ai (mxL (n:=(jA c m (l.take k)).2.length+1) (by omega) (by decide)) (ai (gB 1 rfl) ?_)
   refine fR ((c.trs.getD (l.getD k 0).toNat aZ).fr.length) (fun j=>[(66,.s (iA j))]) (fun j=>[⟨2,132,[.ob (mkO (dX (jA c m (l.take k)).1 ((c.trs.getD (l.getD k 0).toNat aZ).fr.take j) false))]⟩]) (fun j=>True) ?_ ?_ ?_ ?_
   ·exact (ai (ai (fun _=>rfl) (iE (by omega))) rfl)
   ·exact (ai (ai rfl (ai rfl (fun _ _=>rfl))) trivial)
    skip
   ·trivial
   intro (j:Nat) ⟨hk1,_⟩
   refine ah (p:=j<(c.trs.getD (l.getD k 0).toNat aZ).fr.length) (by simp only[zz,reduceCtorEq];omega) (fun h3=>?_) (fun h3=>?_)
   ·refine iX (j) ((c.trs.getD (l.getD k 0).toNat aZ).fr.length) ?_
    have hx:=yh q1.1 h3
    have hx24:((c.trs.getD (l.getD k 0).toNat aZ).fr.getD j 0).toNat<24:=by omega
    refine ai hx ?_
    refine ai (by show 0+((c.trs.getD (l.getD k 0).toNat aZ).fr.getD j 0).toNat*1<24;omega) ?_
    refine nX (j) (ai (ai (fun _=>rfl) (aH (by omega))) rfl) (ai (ai rfl (ai rfl ?_)) trivial) trivial
    intro q hq
    show vO (l5 (dX (jA c m (l.take k)).1 ((c.trs.getD (l.getD k 0).toNat aZ).fr.take j) false)) (0+((c.trs.getD (l.getD k 0).toNat aZ).fr.getD j 0).toNat*1) (bP false) q=l5 (dX (jA c m (l.take k)).1 ((c.trs.getD (l.getD k 0).toNat aZ).fr.take (j+1)) false) q
    rw[ajv,auY,alY (by rw[lX];exact s1) hx24,aQ 0 h3,abX]
   ·obtain rfl:j=(c.trs.getD (l.getD k 0).toNat aZ).fr.length:=by omega
    rw[acI]
    refine nX (k) (ai (ai (ai (fun _=>rfl) (aH (by omega))) rfl) (ai rfl (ai rfl (ai ?_ ?_)))) (ai (ai rfl (ai rfl ?_)) trivial) trivial
    ·rw[e,aas];rfl
    ·rw[e];exact dM _ _
    ·rw[e];exact fun _ _=>rfl
  ·have e:jA c m (l.take (k+1))=jA c m (l.take k):=by rw[hst];unfold nG;rw[h4];rfl
   refine nX (k) (ai (ai (ai (fun _=>rfl) (aH (by omega))) rfl) (ai rfl (ai rfl (ai ?_ ?_)))) (ai (ai rfl (ai rfl ?_)) trivial) trivial
   ·rw[e]
   ·rw[e];exact fun _ _=>rfl
   ·rw[e];exact fun _ _=>rfl
 ·obtain rfl:k=l.length:=by omega
  rw[acI] at s1 s2
  rw[acI]
  have hfm:∀x∈(jA c m l).2,0≤x∧x<(c.trs.length:Int):=fun x hx=>by
   rcases akc c l (m,[]) x hx with h | h
   ·simp at h
   ·exact hlm x h
  generalize jA c m l=s at *
  refine fR (s.2.length) (fun j=>[(76,.s (iA j))]) (fun j=>[⟨2,132,[.ob (mkO (kJ c s.1 (s.2.take j)))]⟩]) (fun j=>True) ?_ ?_ ?_ ?_
  ·exact (ai (ai (fun _=>rfl) (iE (by omega))) rfl)
  ·exact (ai (ai rfl (ai rfl (fun _ _=>rfl))) trivial)
  ·trivial
  intro (j:Nat) ⟨hj,_⟩
  have s3:(kJ c s.1 (s.2.take j)).length=24:=(aao _ _ _).trans s1
  refine bL (j<s.2.length) (fun h2=>?_) fun h2=>?_
  ·refine ai (ai (aa1 _) (by show (j:Int)<(s.2.length:Int);omega)) ?_
   refine ai (by show j<s.2.length;exact h2) ?_
   have hx0:=hfm _ (aa0 (bC 0 h2))
   have hi:(s.2.getD j 0).toNat<c.trs.length:=by omega
   obtain ⟨q1,q2,q3⟩:=sw hc hi
   have hto:=mY ho hi
   have hst:kJ c s.1 (s.2.take (j+1))=dX (kJ c s.1 (s.2.take j)) (c.trs.getD (s.2.getD j 0).toNat aZ).to true:=by rw[aQ 0 h2,amH]
   refine ai hx0 ?_
   refine ai rfl ?_
   have hf:(c.trs.getD (s.2.getD j 0).toNat aZ).to.length≤1000000:=hto.2.1
   refine fR ((c.trs.getD (s.2.getD j 0).toNat aZ).to.length) (fun i=>[(87,.s (iA i))]) (fun i=>[⟨2,132,[.ob (mkO (dX (kJ c s.1 (s.2.take j)) ((c.trs.getD (s.2.getD j 0).toNat aZ).to.take i) true))]⟩]) (fun i=>True) ?_ ?_ ?_ ?_
   ·exact (ai (ai (fun _=>rfl) (iE (by omega))) rfl)
   ·exact (ai (ai rfl (ai rfl (fun _ _=>rfl))) trivial)
    skip
   ·trivial
   intro (i:Nat) ⟨hk1,_⟩
   refine ah (p:=i<(c.trs.getD (s.2.getD j 0).toNat aZ).to.length) (by simp only[zz,reduceCtorEq];omega) (fun h3=>?_) (fun h3=>?_)
   ·refine iX (i) ((c.trs.getD (s.2.getD j 0).toNat aZ).to.length) ?_
    have hx:=yh q2.1 h3
    have hx24:((c.trs.getD (s.2.getD j 0).toNat aZ).to.getD i 0).toNat<24:=by omega
    refine ai hx ?_
    refine ai (by show 0+((c.trs.getD (s.2.getD j 0).toNat aZ).to.getD i 0).toNat*1<24;omega) ?_
    refine nX (i) (ai (ai (fun _=>rfl) (aH (by omega))) rfl) (ai (ai rfl (ai rfl ?_)) trivial) trivial
    intro q hq
    show vO (l5 (dX (kJ c s.1 (s.2.take j)) ((c.trs.getD (s.2.getD j 0).toNat aZ).to.take i) true)) (0+((c.trs.getD (s.2.getD j 0).toNat aZ).to.getD i 0).toNat*1) (bP true) q=l5 (dX (kJ c s.1 (s.2.take j)) ((c.trs.getD (s.2.getD j 0).toNat aZ).to.take (i+1)) true) q
    rw[ajv,auY,alY (by rw[lX];exact s3) hx24,aQ 0 h3,abX]
   ·obtain rfl:i=(c.trs.getD (s.2.getD j 0).toNat aZ).to.length:=by omega
    rw[acI]
    refine nX (j) (ai (ai (fun _=>rfl) (aH (by omega))) rfl) (ai (ai rfl (ai rfl ?_)) trivial) trivial
    rw[hst];exact fun _ _=>rfl
  ·obtain rfl:j=s.2.length:=by omega
   rw[acI] at s3
   rw[acI]
   refine cK (atq) ((c,kJ c s.1 s.2)) (by exact (ai (ai rfl (ai (ai rfl (fun _ _=>rfl)) (ai (ai rfl (fun _ _=>rfl)) (ai rfl (fun _ _=>rfl))))) (ai rfl (fun _ _=>rfl)))) (⟨h24,s3⟩) ?_
   refine eF (xW c a v) ?_
   rw[hA]
   exact (ai (ai rfl (fun _ _=>rfl)) (ai (ai rfl (fun _ _=>rfl)) rfl))
theorem arF {α:Type} {l m:List α} {k:Nat} (d:α) (h1:k<l.length) (h2:k<m.length) (h:l.take k=m.take k) (e:l.getD k d=m.getD k d):l.take (k+1)=m.take (k+1):=by
 rw[aQ d h1,aQ d h2,h,e]
theorem aeN:ay Tryz.prog 161 (bH (fun a:List Int×Int=>[isA a.1,iA a.2]) (fun a=>a.1.length≤1000000) (fun a=>bP (gK a.1 a.2))):=by
 refine vF Tryz.func161 ?_
 rintro (a:List Int×Int) hpre
 have hl:a.1.length≤1000000:=hpre
 refine fR (a.1.length) (fun k=>[(5,.s (iA k))]) (fun k=>[]) (fun k=>∀y∈a.1.take k,(a.2==y)=false) (by exact (ai (ai (fun _=>rfl) (iE (by omega))) rfl)) (by exact trivial) ?_ ?_
 ·exact fun y hy=>absurd hy (by simp)
 intro (k:Nat) ⟨hk,hall⟩
 refine bL (k<a.1.length) (fun h1=>?_) fun h1=>?_
 ·refine iX (k) (a.1.length) ?_
  refine ah (p:=a.1.getD k 0=a.2) (by simp only[zz,reduceCtorEq]) (fun h2=>?_) (fun h2=>?_)
  ·refine eN (bP (gK a.1 a.2)) ?_
   rw[show gK a.1 a.2=true from afo (d:=0) h1 (by rw[h2];exact beq_self_eq_true _)]
   exact rfl
  refine nX (k) (ai (ai (fun _=>rfl) (aH (by omega))) rfl) trivial ?_
  intro y hy
  rw[aQ 0 h1] at hy
  rcases acE.1 hy with hy | hy
  ·exact hall y hy
  ·simp only[acN] at hy;subst hy;exact beq_eq_false_iff_ne.2 fun e=>h2 e.symm
 ·obtain rfl:k=a.1.length:=by omega
  rw[acI] at hall
  refine eN (bP (gK a.1 a.2)) ?_
  rw[show gK a.1 a.2=false from arU.2 (fun y hy=>by rw[hall y hy];decide)]
  exact rfl
def nQ (a b:List Int):Bool:=a.any fun k=>gK b k
def aug (x:rQ):Prop:=gQ x.on=true∧gQ x.off=true
def awQ (c:bn):Prop:=(c.ins.length≤1000000∧c.sgs.length≤1000000∧c.pl.length≤1000000∧c.mi.length≤1000000)∧∀x∈c.sgs,aug x
theorem ad3:ay Tryz.prog 176 (bH (fun c:bn=>[uE c]) kU (fun c=>iP (bQ c))):=by
 refine vF Tryz.func176 ?_
 rintro (c:bn) hpre
 obtain ⟨⟨h1,h2⟩,h3,h4⟩:=hpre
 have h1:0≤c.act:=h1
 have h2:c.act≤1000:=h2
 have h3:c.ins.length≤1000000:=h3
 refine ai (ai (fun _=>trivial) ?_) trivial
 show IntKind.i64.wrap (IntKind.i64.wrap (2*c.act)+(c.ins.length:Int))=bQ c
 rw[dB (n:=2*c.act) (by omega) (by omega),dB (by omega) (by omega)];rfl
theorem adN:ay Tryz.prog 104 (bH (fun c:bn=>[uE c]) kU (fun c=>iP (dz c))):=by
 refine vF Tryz.func104 ?_
 rintro (c:bn) hpre
 obtain ⟨⟨h1,h2⟩,h3,h4⟩:=hpre
 have h1:0≤c.act:=h1
 have h2:c.act≤1000:=h2
 have h3:c.ins.length≤1000000:=h3
 have h4:c.sgs.length≤1000000:=h4
 refine ai (ai (fun _=>trivial) ?_) trivial
 show IntKind.i64.wrap (IntKind.i64.wrap (IntKind.i64.wrap (2*c.act)+(c.ins.length:Int))+(c.sgs.length:Int))=dz c
 rw[dB (n:=2*c.act) (by omega) (by omega),dB (n:=2*c.act+(c.ins.length:Int)) (by omega) (by omega),dB (by omega) (by omega)];rfl
theorem qB:ay Tryz.prog 178 (bH (fun x:Ex=>[jB x]) (fun _=>True) (fun x=>bP (bJ x))):=by
 refine vF Tryz.func178 ?_
 rintro (x:Ex) hpre
 refine aC (b:=x.op==0) rfl (fun h1=>?_) (fun h1=>?_)
 ·refine aC (b:=x.idx==0) rfl (fun h2=>?_) (fun h2=>?_)
  ·refine eN (bP (bJ x)) ?_
   rw[show bJ x=(((x.args.length:Nat):Int)==0) by unfold bJ;rw[h1,h2];cases x.args<;>rfl]
   exact rfl
  ·refine eN (bP (bJ x)) ?_
   rw[show bJ x=false by unfold bJ;rw[h2];simp]
   exact rfl
 ·refine eN (bP (bJ x)) ?_
  rw[show bJ x=false by unfold bJ;rw[h1];simp]
  exact rfl
def six:List UInt8:=[97,98,99,100,101,102]
theorem aa5 {d:Nat} (h:d<6):(six.take (d+1)).drop d=[UInt8.ofNat (97+d)]:=by
 match d,h with
 | 0,_=>rfl | 1,_=>rfl | 2,_=>rfl | 3,_=>rfl | 4,_=>rfl | 5,_=>rfl
theorem auj {d:Nat} (h:d<2):([48,49].take (d+1)).drop d=[UInt8.ofNat (48+d)]:=by
 match d,h with
 | 0,_=>rfl | 1,_=>rfl
def aiZ (a:bn×Nat):Prop:=kU a.1∧a.1.act≤6∧(a.2:Int)<dz a.1
theorem aia:ay Tryz.prog 174 (bH (fun a:bn×Nat=>[uE a.1,iA a.2]) aiZ (fun a=>sP (dZ a.1 a.2))):=by
 refine vF Tryz.func174 ?_
 rintro ⟨c,n⟩ hpre
 obtain ⟨hs,h6,hn⟩:=hpre
 have hs0:=hs
 obtain ⟨⟨h1,h2⟩,h3,h4⟩:=hs
 have h1:0≤c.act:=h1
 have h6:c.act≤6:=h6
 have h3:c.ins.length≤1000000:=h3
 have h4:c.sgs.length≤1000000:=h4
 have hn:(n:Int)<2*c.act+c.ins.length+c.sgs.length:=hn
 refine ah (p:=(n:Int)<2*c.act) (by exact aB (by rw[dB (n:=2*c.act) (by omega) (by omega)])) (fun g1=>?_) (fun g1=>?_)
 ·have hq:IntKind.i64.wrap ((n:Int).tdiv 2)=((n / 2:Nat):Int):=by rw[show ((n:Int).tdiv 2)=((n / 2:Nat):Int) from rfl];exact xC (by omega)
  have hq1:IntKind.i64.wrap (IntKind.i64.wrap ((n:Int).tdiv 2)+1)=((n / 2+1:Nat):Int):=by rw[hq];exact aH (by omega)
  have hr:((n:Int).tmod 2)=((n % 2:Nat):Int):=rfl
  have hr1:IntKind.i64.wrap ((n:Int).tmod 2+1)=((n % 2+1:Nat):Int):=by rw[hr];exact aH (by omega)
  have hx:(strOf six).extract (IntKind.i64.wrap ((n:Int).tdiv 2)).toNat (IntKind.i64.wrap (IntKind.i64.wrap ((n:Int).tdiv 2)+1)).toNat=strOf [UInt8.ofNat (97+n / 2)]:=by
   rw[hq1,hq,aen,aen,tN,aa5 (by omega)]
  have hy:(strOf [48,49]).extract ((n:Int).tmod 2).toNat (IntKind.i64.wrap ((n:Int).tmod 2+1)).toNat=strOf [UInt8.ofNat (48+n % 2)]:=by
   rw[hr1,hr,aen,aen,tN,auj (by omega)]
  refine dR (.seq [0,1,2,3,4,5,6,7,8,9,10,11,12,13]) ?_
  refine ai (by decide) (ai (by decide) ?_)
  refine ai (ai (by rw[hq];exact aa1 _) (ai (by rw[hq1,hq];omega) (by rw[hq1];show ((n / 2+1:Nat):Int)≤6;omega))) ?_
  refine ai (by decide) (ai (by decide) ?_)
  refine ai (ai (by show (0:Int)≤((n:Int).tmod 2);rw[hr];exact aa1 _) (ai (by rw[hr1];show ((n % 2:Nat):Int)≤_;omega) (by rw[hr1];show ((n % 2+1:Nat):Int)≤2;omega))) ?_
  refine ai ?_ ?_
  ·show (((((strOf six).extract (IntKind.i64.wrap ((n:Int).tdiv 2)).toNat (IntKind.i64.wrap (IntKind.i64.wrap ((n:Int).tdiv 2)+1)).toNat).size+((strOf [48,49]).extract ((n:Int).tmod 2).toNat (IntKind.i64.wrap ((n:Int).tmod 2+1)).toNat).size:Nat)):Int)≤9223372036854775807
   rw[hx,hy];show ((2:Nat):Int)≤9223372036854775807;decide
  ·refine ai (ai (fun _=>trivial) ?_) trivial
   show (strOf six).extract (IntKind.i64.wrap ((n:Int).tdiv 2)).toNat (IntKind.i64.wrap (IntKind.i64.wrap ((n:Int).tdiv 2)+1)).toNat++(strOf [48,49]).extract ((n:Int).tmod 2).toNat (IntKind.i64.wrap ((n:Int).tmod 2+1)).toNat=strOf (dZ c n)
   rw[hx,hy]
   unfold dZ
   rw[if_pos g1];rfl
 refine cK (ad3) (c) (by exact (ai rfl (ai (ai rfl (fun _ _=>rfl)) (ai (ai rfl (fun _ _=>rfl)) (ai (ai rfl (fun _ _=>rfl)) (ai rfl (fun _ _=>rfl))))))) (hs0) ?_
 refine ah (p:=(n:Int)<bQ c) (by exact aB Iff.rfl) (fun g2=>?_) (fun g2=>?_)
 ·have hd:IntKind.i64.wrap ((n:Int)-IntKind.i64.wrap (2*c.act))=((n-2*c.act.toNat:Nat):Int):=by
   rw[dB (n:=2*c.act) (by omega) (by omega),dB (by omega) (by omega)];omega
  have g3:(n:Int)<2*c.act+c.ins.length:=g2
  refine ai (ai (by rw[hd];exact aa1 _) (by rw[hd];show ((n-2*c.act.toNat:Nat):Int)<(c.ins.length:Int);omega)) ?_
  refine ai rfl ?_
  refine ai (ai (fun _=>trivial) ?_) trivial
  show strOf (c.ins.getD (IntKind.i64.wrap ((n:Int)-IntKind.i64.wrap (2*c.act))).toNat [])=strOf (dZ c n)
  unfold dZ
  rw[hd,if_neg g1,if_pos g2,aen]
 ·have hN:bQ c=2*c.act+c.ins.length:=rfl
  have hd:IntKind.i64.wrap ((n:Int)-bQ c)=((n-2*c.act.toNat-c.ins.length:Nat):Int):=by
   rw[hN,dB (by omega) (by omega)];omega
  refine dR (.seq [0,1,2,3,4,5,6,7,8,9]) ?_
  refine cK (ad3) (c) (by exact (ai rfl (ai (ai rfl (fun _ _=>rfl)) (ai (ai rfl (fun _ _=>rfl)) (ai (ai rfl (fun _ _=>rfl)) (ai rfl (fun _ _=>rfl))))))) (hs0) ?_
  refine ai (ai (by rw[hd];exact aa1 _) (by rw[hd];show ((n-2*c.act.toNat-c.ins.length:Nat):Int)<(c.sgs.length:Int);omega)) ?_
  refine ai rfl ?_
  refine ai (ai (fun _=>trivial) ?_) trivial
  show strOf (c.sgs.getD (IntKind.i64.wrap ((n:Int)-bQ c)).toNat ak).nm=strOf (dZ c n)
  unfold dZ
  rw[hd,if_neg g1,if_neg g2,aen]
def aco (s:List UInt8) (k:Nat):Bool:=(decide (k=0)&&!jf (s.getD k 0))||!dW (s.getD k 0)
theorem rF {s:List UInt8} {k:Nat} (hk:k<s.length) (h:aco s k=true):jF s=false:=by
 unfold aco at h
 unfold jF
 rw[aru] at h
 rcases h with h | h
 ·rw[abj,decide_eq_true_iff] at h
  obtain ⟨rfl,h⟩:=h
  have h:jf (s.getD 0 0)=false:=by simpa using h
  rw[h];simp
 ·have h:dW (s.getD k 0)=false:=by simpa using h
  have:s.all dW=false:=by
   rw[atX]
   exact ⟨_,aa0 (bC 0 hk),by rw[h];decide⟩
  rw[this];simp
theorem ard {s:List UInt8} (h:∀k,k<s.length→aco s k=false):jF s=!s.isEmpty:=by
 unfold jF
 cases s with
 | nil=>rfl
 | cons b t=>
  have h0:=h 0 (Nat.zero_lt_succ _)
  unfold aco at h0
  rw[avj] at h0
  have h1:jf ((b :: t).getD 0 0)=true:=by simpa using h0.1
  have h2:(b :: t).all dW=true:=by
   rw[aot]
   intro x hx
   obtain ⟨k,hk,rfl⟩:=apT hx
   have hk':=h k hk
   unfold aco at hk'
   rw[avj] at hk'
   have:=hk'.2
   rw[aam,aav hk] at this
   simpa using this
  rw[h1,h2];rfl
def nS (k x:Nat):Prop:=(k=0∧¬(97≤x∧x≤122))∨¬((97≤x∧x≤122)∨(65≤x∧x≤90)∨x=95∨(48≤x∧x≤57))
theorem nP {s:List UInt8} {k:Nat}:aco s k=true↔nS k (s.getD k 0).toNat:=by
 unfold aco nS dW eD jf uz
 simp only[aru,abj,aoF,decide_eq_true_eq,avj,axH,decide_eq_false_iff_not]
 omega
theorem rG {s:List UInt8} {k:Nat} (h:¬nS k (s.getD k 0).toNat):aco s k=false:=awu.2 fun e=>h (nP.1 e)
theorem apX:ay Tryz.prog 175 (bH (fun s:List UInt8=>[sA s]) (fun s=>s.length≤1000000) (fun s=>bP (jF s))):=by
 refine vF Tryz.func175 ?_
 rintro (s:List UInt8) hpre
 have hl:s.length≤1000000:=hpre
 have hz:=bZ s
 refine fR (s.length) (fun k=>[(3,.s (iA k))]) (fun k=>[]) (fun k=>∀j,j<k→aco s j=false) (by exact (ai (ai (fun _=>rfl) (iE (by omega))) rfl)) (by exact trivial) ?_ ?_
 ·exact fun j hj=>absurd hj (aeo _)
 intro (k:Nat) ⟨hk,hall⟩
 refine ah (p:=k<s.length) (by exact aB (by rw[hz];omega)) (fun h1=>?_) (fun h1=>?_)
 ·have i1:(strOf s)[((k:Nat):Int).toNat]?=some (s.getD k 0):=ng h1
  refine dR (.seq [0,1,2,3,4,5,6,7,8,9,10,11,12,13,14,15,16,17,18,19,20,21]) ?_
  refine ei (s.getD k 0) (ai (ai (aa1 _) i1) ?_)
  refine bG (97≤(s.getD k 0).toNat) (fun g1=>?_) fun g1=>?_
  ·refine ei (s.getD k 0) (ai (ai (aa1 _) i1) ?_)
   refine ei (s.getD k 0) (ai (ai (aa1 _) i1) ?_)
   refine bG (65≤(s.getD k 0).toNat) (fun g2=>?_) fun g2=>?_
   ·refine ei (s.getD k 0) (ai (ai (aa1 _) i1) ?_)
    refine bE (k=0) (fun g3=>?_) fun g3=>?_
    ·refine aC (b:=!decide ((((s.getD k 0).toNat:Nat):Int)≤122)) rfl (fun g4=>?_) (fun g4=>?_)
     ·have g4:¬((((s.getD k 0).toNat:Nat):Int)≤122):=by simpa using g4
      refine eN (bP (jF s)) ?_
      rw[rF h1 (nP.2 (by unfold nS;omega))]
      exact rfl
     ·have g4:(((s.getD k 0).toNat:Nat):Int)≤122:=by simpa using g4
      refine aC (b:=!decide ((((s.getD k 0).toNat:Nat):Int)≤122)) rfl (fun g4=>?_) (fun g4=>?_)
      ·have g5:¬((((s.getD k 0).toNat:Nat):Int)≤122):=by simpa using g4
       omega
      ·refine nX (k) (ai (ai (fun _=>rfl) (aH (by omega))) rfl) trivial ?_
       intro j hj
       by_cases e:j=k
       ·subst e;exact rG (by unfold nS;omega)
       ·exact hall j (by omega)
    ·refine aC (b:=!decide ((((s.getD k 0).toNat:Nat):Int)≤122)) rfl (fun g4=>?_) (fun g4=>?_)
     ·have g4:¬((((s.getD k 0).toNat:Nat):Int)≤122):=by simpa using g4
      refine aC (b:=!decide ((((s.getD k 0).toNat:Nat):Int)≤90)) rfl (fun g6=>?_) (fun g6=>?_)
      ·refine ei (s.getD k 0) (ai (ai (aa1 _) i1) ?_)
       refine bN ((s.getD k 0).toNat=95) (fun g5=>?_) fun g5=>?_
       ·refine ei (s.getD k 0) (ai (ai (aa1 _) i1) ?_)
        refine bL ((s.getD k 0).toNat<48) (fun g6=>?_) fun g6=>?_
        ·refine eN (bP (jF s)) ?_
         rw[rF h1 (nP.2 (by unfold nS;omega))]
         exact rfl
        refine ei (s.getD k 0) (ai (ai (aa1 _) i1) ?_)
        refine bL (57<(s.getD k 0).toNat) (fun g7=>?_) fun g7=>?_
        ·refine eN (bP (jF s)) ?_
         rw[rF h1 (nP.2 (by unfold nS;omega))]
         exact rfl
        ·refine nX (k) (ai (ai (fun _=>rfl) (aH (by omega))) rfl) trivial ?_
         intro j hj
         by_cases e:j=k
         ·subst e;exact rG (by unfold nS;omega)
         ·exact hall j (by omega)
       ·refine nX (k) (ai (ai (fun _=>rfl) (aH (by omega))) rfl) trivial ?_
        intro j hj
        by_cases e:j=k
        ·subst e;exact rG (by unfold nS;omega)
        ·exact hall j (by omega)
      ·have g7:(((s.getD k 0).toNat:Nat):Int)≤90:=by simpa using g6
       omega
     ·have g4:(((s.getD k 0).toNat:Nat):Int)≤122:=by simpa using g4
      refine nX (k) (ai (ai (fun _=>rfl) (aH (by omega))) rfl) trivial ?_
      intro j hj
      by_cases e:j=k
      ·subst e;exact rG (by unfold nS;omega)
      ·exact hall j (by omega)
   ·omega
  ·refine ei (s.getD k 0) (ai (ai (aa1 _) i1) ?_)
   refine bG (65≤(s.getD k 0).toNat) (fun g2=>?_) fun g2=>?_
   ·refine ei (s.getD k 0) (ai (ai (aa1 _) i1) ?_)
    refine bE (k=0) (fun g3=>?_) fun g3=>?_
    ·refine eN (bP (jF s)) ?_
     rw[rF h1 (nP.2 (by unfold nS;omega))]
     exact rfl
    ·refine aC (b:=!decide ((((s.getD k 0).toNat:Nat):Int)≤90)) rfl (fun g6=>?_) (fun g6=>?_)
     ·have g6:¬((((s.getD k 0).toNat:Nat):Int)≤90):=by simpa using g6
      refine ei (s.getD k 0) (ai (ai (aa1 _) i1) ?_)
      refine bN ((s.getD k 0).toNat=95) (fun g5=>?_) fun g5=>?_
      ·refine ei (s.getD k 0) (ai (ai (aa1 _) i1) ?_)
       refine bL ((s.getD k 0).toNat<48) (fun g6=>?_) fun g6=>?_
       ·refine eN (bP (jF s)) ?_
        rw[rF h1 (nP.2 (by unfold nS;omega))]
        exact rfl
       refine ei (s.getD k 0) (ai (ai (aa1 _) i1) ?_)
       refine bL (57<(s.getD k 0).toNat) (fun g7=>?_) fun g7=>?_
       ·refine eN (bP (jF s)) ?_
        rw[rF h1 (nP.2 (by unfold nS;omega))]
        exact rfl
       ·refine nX (k) (ai (ai (fun _=>rfl) (aH (by omega))) rfl) trivial ?_
        intro j hj
        by_cases e:j=k
        ·subst e;exact rG (by unfold nS;omega)
        ·exact hall j (by omega)
      ·refine nX (k) (ai (ai (fun _=>rfl) (aH (by omega))) rfl) trivial ?_
       intro j hj
       by_cases e:j=k
       ·subst e;exact rG (by unfold nS;omega)
       ·exact hall j (by omega)
     ·have g6:(((s.getD k 0).toNat:Nat):Int)≤90:=by simpa using g6
      refine nX (k) (ai (ai (fun _=>rfl) (aH (by omega))) rfl) trivial ?_
      intro j hj
      by_cases e:j=k
      ·subst e;exact rG (by unfold nS;omega)
      ·exact hall j (by omega)
   ·refine bE (k=0) (fun g3=>?_) fun g3=>?_
    ·refine eN (bP (jF s)) ?_
     rw[rF h1 (nP.2 (by unfold nS;omega))]
     exact rfl
    ·refine ei (s.getD k 0) (ai (ai (aa1 _) i1) ?_)
     refine bN ((s.getD k 0).toNat=95) (fun g5=>?_) fun g5=>?_
     ·refine ei (s.getD k 0) (ai (ai (aa1 _) i1) ?_)
      refine bL ((s.getD k 0).toNat<48) (fun g6=>?_) fun g6=>?_
      ·refine eN (bP (jF s)) ?_
       rw[rF h1 (nP.2 (by unfold nS;omega))]
       exact rfl
      refine ei (s.getD k 0) (ai (ai (aa1 _) i1) ?_)
      refine bL (57<(s.getD k 0).toNat) (fun g7=>?_) fun g7=>?_
      ·refine eN (bP (jF s)) ?_
       rw[rF h1 (nP.2 (by unfold nS;omega))]
       exact rfl
      ·refine nX (k) (ai (ai (fun _=>rfl) (aH (by omega))) rfl) trivial ?_
       intro j hj
       by_cases e:j=k
       ·subst e;exact rG (by unfold nS;omega)
       ·exact hall j (by omega)
     ·refine nX (k) (ai (ai (fun _=>rfl) (aH (by omega))) rfl) trivial ?_
      intro j hj
      by_cases e:j=k
      ·subst e;exact rG (by unfold nS;omega)
      ·exact hall j (by omega)
 ·obtain rfl:k=s.length:=by omega
  refine ai (ai (fun _=>trivial) ?_) trivial
  show (!((strOf s).data.toList==(ByteArray.empty).data.toList))=jF s
  rw[ard hall]
  cases s<;>rfl
theorem aax {p:Nat→Bool} {n k:Nat} (hk:k<n) (h:p k=true):(List.range n).any p=true:=al0.2 ⟨k,auh.2 hk,h⟩
theorem any_none {p:Nat→Bool} {n:Nat} (h:∀k,k<n→p k=false):(List.range n).any p=false:=arU.2 fun k hk=>by rw[h k (auh.1 hk)];decide
def aiz (a:bn×Nat):Prop:=aiZ a∧(∀x∈a.1.ins,x.length≤1000000)∧∀x∈a.1.sgs,x.nm.length≤1000000
theorem aqs {c:bn} {n:Nat} (h:aiz (c,n)):(dZ c n).length≤1000000:=by
 unfold dZ
 split
 ·show 2≤1000000;decide
 split
 ·rename_i h1
  by_cases h2:n-2*c.act.toNat<c.ins.length
  ·exact h.2.1 _ (aa0 (bC [] h2))
  ·rw[aam,awr (by omega)];exact akx _
 ·by_cases h2:n-2*c.act.toNat-c.ins.length<c.sgs.length
  ·exact h.2.2 _ (aa0 (bC ak h2))
  ·rw[aam,awr (by omega)];exact akx _
theorem ahB:ay Tryz.prog 118 (bH (fun a:bn×Nat=>[uE a.1,iA a.2]) aiz (fun a=>iP (kQ a.1 a.2))):=by
 refine vF Tryz.func118 ?_
 rintro ⟨c,n⟩ hpre
 have hp:aiz (c,n):=hpre
 have hn:(n:Int)<2*c.act+c.ins.length+c.sgs.length:=hp.1.2.2
 have h4:c.sgs.length≤1000000:=hp.1.1.2.2
 have h3:c.ins.length≤1000000:=hp.1.1.2.1
 have h2:c.act≤6:=hp.1.2.1
 have hlen:=aqs hp
 refine cK (aia) ((c,n)) (by exact (ai (ai rfl (ai (ai rfl (fun _ _=>rfl)) (ai (ai rfl (fun _ _=>rfl)) (ai (ai rfl (fun _ _=>rfl)) (ai rfl (fun _ _=>rfl)))))) rfl)) (hp.1) ?_
 refine cK (apX) (dZ c n) (by exact rfl) (hlen) ?_
 refine aC (b:=!jF (dZ c n)) rfl (fun h5=>?_) (fun h5=>?_)
 ·refine eN (iP (kQ c n)) ?_
  rw[kQ,if_pos h5]
  exact rfl
 refine ah (p:=24<(dZ c n).length) (by exact aB (show (24:Int)<(((strOf (dZ c n)).size:Nat):Int)↔24<(dZ c n).length by rw[bZ];omega)) (fun h6=>?_) (fun h6=>?_)
 ·refine eN (iP (kQ c n)) ?_
  rw[kQ,if_neg (show ¬(!jF (dZ c n))=true by rw[h5];decide),if_pos h6]
  exact rfl
 have hA:kQ c n=if (List.range n).any (fun i=>dZ c i==dZ c n) then 7 else 0:=by unfold kQ;rw[if_neg (show ¬(!jF (dZ c n))=true by rw[h5];decide),if_neg h6]
 refine fR (n) (fun k=>[(6,.s (iA k))]) (fun k=>[]) (fun k=>∀j,j<k→(dZ c j==dZ c n)=false) (by exact (ai (ai (fun _=>rfl) (iE (by omega))) rfl)) (by exact trivial) ?_ ?_
 ·exact fun j hj=>absurd hj (aeo _)
 intro (k:Nat) ⟨hk,hall⟩
 refine bL (k<n) (fun h7=>?_) fun h7=>?_
 ·refine cK (aia) ((c,k)) (by exact (ai (ai rfl (ai (ai rfl (fun _ _=>rfl)) (ai (ai rfl (fun _ _=>rfl)) (ai (ai rfl (fun _ _=>rfl)) (ai rfl (fun _ _=>rfl)))))) rfl)) (⟨hp.1.1,hp.1.2.1,by show (k:Int)<2*c.act+c.ins.length+c.sgs.length;omega⟩) ?_
  refine aC (b:=dZ c k==dZ c n) rfl (fun h8=>?_) (fun h8=>?_)
  ·refine eN (iP (kQ c n)) ?_
   rw[hA,if_pos (aax h7 h8)]
   exact rfl
  refine nX (k) (ai (ai (fun _=>rfl) (aH (by omega))) rfl) trivial ?_
  intro j hj
  by_cases e:j=k
  ·subst e;exact h8
  ·exact hall j (by omega)
 ·obtain rfl:k=n:=by omega
  refine eN (iP (kQ c k)) ?_
  rw[hA,if_neg (show ¬(List.range k).any (fun i=>dZ c i==dZ c k)=true by rw[any_none hall];decide)]
  exact rfl
theorem aaX (v:Int) (x:Ex):qP v x=if x.op=1 then x.idx==v else x.args.any (qP v):=by
 have key:∀l:List Ex,air v l=l.any (qP v):=by
  intro l
  induction l with
  | nil=>rfl
  | cons x l ih=>rw[air,ih];rfl
 cases x with
 | node o i l=>
  rw[qP,key]
def avY (n:Nat):Spec:=bH (fun a:Ex×Int=>[jB a.1,iA a.2]) (fun a=>a.1.size≤1000000∧a.1.size≤n) (fun a=>bP (qP a.2 a.1))
theorem arV:∀n,ay Tryz.prog 224 (avY n)
 | 0=>by
  refine vF Tryz.func224 ?_
  rintro (a:Ex×Int) hpre
  have:=size_pos a.1
  exact absurd hpre.2 (by show ¬a.1.size≤0;omega)
 | n+1=>by
  have ih:=arV n
  refine vF Tryz.func224 ?_
  rintro (a:Ex×Int) hpre
  obtain ⟨hs,hn⟩:=hpre
  have hs:a.1.size≤1000000:=hs
  have hn:a.1.size≤n+1:=hn
  have hsz:=a.1.size_eq
  have hal:=oU a.1.args
  have hE:=aaX a.2 a.1
  refine bE (a.1.op=1) (fun h1=>?_) fun h1=>?_
  ·refine eN (bP (qP a.2 a.1)) ?_
   rw[hE,if_pos h1]
   exact rfl
  rw[if_neg h1] at hE
  refine fR (a.1.args.length) (fun k=>[(5,.s (iA k))]) (fun k=>[]) (fun k=>∀y∈a.1.args.take k,qP a.2 y=false) (by exact (ai (ai (fun _=>rfl) (iE (by omega))) rfl)) (by exact trivial) ?_ ?_
  ·exact fun y hy=>absurd hy (by simp)
  intro (k:Nat) ⟨hk,hall⟩
  refine bL (k<a.1.args.length) (fun h2=>?_) fun h2=>?_
  ·refine iX (k) (a.1.args.length) ?_
   have hm:=aa0 (bC bM h2)
   have hms:=jd hm
   refine cK (ih) ((a.1.args.getD k bM,a.2)) (by exact (ai (ai (iE (by simp only[zz,reduceCtorEq])) (ai (iE (by simp only[zz,reduceCtorEq])) (ai rfl (xA _)))) rfl)) (⟨by show (a.1.args.getD k bM).size≤1000000;omega,by show (a.1.args.getD k bM).size≤n;omega⟩) ?_
   refine aC (b:=qP a.2 (a.1.args.getD k bM)) rfl (fun h3=>?_) (fun h3=>?_)
   ·refine eN (bP (qP a.2 a.1)) ?_
    rw[hE,show a.1.args.any (qP a.2)=true from al0.2 ⟨_,hm,h3⟩]
    exact rfl
   refine nX (k) (ai (ai (fun _=>rfl) (aH (by omega))) rfl) trivial ?_
   intro y hy
   rw[aQ bM h2] at hy
   rcases acE.1 hy with hy | hy
   ·exact hall y hy
   ·simp only[acN] at hy;subst hy;exact h3
  ·obtain rfl:k=a.1.args.length:=by omega
   rw[acI] at hall
   refine eN (bP (qP a.2 a.1)) ?_
   rw[hE,show a.1.args.any (qP a.2)=false from arU.2 fun y hy=>by rw[hall y hy];decide]
   exact rfl
theorem atN:ay Tryz.prog 224 (bH (fun a:Ex×Int=>[jB a.1,iA a.2]) (fun a=>a.1.size≤1000000) (fun a=>bP (qP a.2 a.1))):=nJ (fun a=>a.1.size) arV
def aum (a:bn×Nat):Prop:=(kU a.1∧a.1.act≤6)∧anr a.1∧a.2<a.1.sgs.length
theorem akJ:ay Tryz.prog 177 (bH (fun a:bn×Nat=>[uE a.1,iA a.2]) aum (fun a=>bP (qz a.1 a.2))):=by
 refine vF Tryz.func177 ?_
 rintro ⟨c,i⟩ hpre
 obtain ⟨⟨hs,h6⟩,ho,hi⟩:=hpre
 have hs0:=hs
 obtain ⟨⟨h1,h2⟩,h3,h4⟩:=hs
 have h1:0≤c.act:=h1
 have h6:c.act≤6:=h6
 have h3:c.ins.length≤1000000:=h3
 have h4:c.sgs.length≤1000000:=h4
 have hi:i<c.sgs.length:=hi
 have hos:=(ho.1 _ (aa0 (bC ak hi))).1
 refine ei (mg.inv { X:=Nat,up:=fun k=>[(5,.s (iA (k:Nat)))],uo:=fun _=>[],inv:=fun k=>i≤k∧k≤c.sgs.length∧∀j,j<k→adv c i j=false,meas:=fun k=>c.sgs.length-k,x0:=i }) ?_
 refine ai (ai (ai (by exact (a4 (ai rfl rfl))) (ai ?_ ?_)) ?_) (ai ?_ ?_)
 ·exact (ai (ai nof rfl) rfl)
 ·exact trivial
 ·rfl
 ·refine ⟨abm _,(show i≤c.sgs.length by omega),fun j hj=>?_⟩
  have hj:j<i:=hj
  unfold adv;rw[decide_eq_false (by omega)];rfl
 rintro (k:Nat) ⟨hik,hk,hall⟩
 have hik:i≤k:=hik
 have hk:k≤c.sgs.length:=hk
 refine ah (p:=k<c.sgs.length) (aB (by dsimp only;omega)) (fun g1=>?_) (fun g1=>?_)
 ·refine dR (.seq [0,1,2,3,4,5,6,7,8,9,10,11,12,13,14,16,15,17,18,19]) ?_
  refine iX (k) (c.sgs.length) ?_
  refine aC (b:=(c.sgs.getD k ak).kd==0) rfl (fun g2=>?_) (fun g2=>?_)
  ·refine iX (i) (c.sgs.length) ?_
   refine cK (ad3) (c) (by exact (ai rfl (ai (ai rfl (fun _ _=>rfl)) (ai (ai rfl (fun _ _=>rfl)) (ai (ai rfl (fun _ _=>rfl)) (ai rfl (fun _ _=>rfl))))))) (hs0) ?_
   refine ei _ (ai (atN) (ei (((c.sgs.getD i ak).on,bQ c+(k:Int))) (ei [] (ai (a4 (ai (fun _=>Or.inl rfl) (ai nof (Or.inl rfl)))) (ai ?_ (ai (by exact trivial) (ai (hos) ?_)))))))
   ·refine (ai (ai (iE (by simp only[zz,reduceCtorEq])) (ai (iE (by simp only[zz,reduceCtorEq])) (ai rfl (fun _ _=>rfl)))) ?_)
    exact dB (by unfold bQ;omega) (by unfold bQ;omega)
   refine aC (b:=qP (bQ c+(k:Int)) (c.sgs.getD i ak).on) rfl (fun g3=>?_) (fun g3=>?_)
   ·refine eN (bP (qz c i)) ?_
    rw[show qz c i=true from aax g1 (by unfold adv;rw[decide_eq_true hik,g2,g3];rfl)]
    exact rfl
   refine ei ((k+1)) (ai (ai rfl rfl) (ai (ai ?_ rfl) (ai ?_ ?_)))
   ·exact (ai rfl (ai (ai rfl rfl) (ai (ai rfl rfl) (ai (ai (ai (fun _=>rfl) (aH (by omega))) rfl) trivial))))
   ·refine ⟨by show i≤k+1;omega,by show k+1≤c.sgs.length;omega,fun j hj=>?_⟩
    by_cases e:j=k
    ·subst e;unfold adv;rw[g3];simp
    ·exact hall j (by omega)
   ·show c.sgs.length-(k+1)<c.sgs.length-k;omega
  ·refine ei ((k+1)) (ai (ai rfl rfl) (ai (ai ?_ rfl) (ai ?_ ?_)))
   ·exact (ai rfl (ai (ai rfl rfl) (ai (ai rfl rfl) (ai (ai (ai (fun _=>rfl) (aH (by omega))) rfl) trivial))))
   ·refine ⟨by show i≤k+1;omega,by show k+1≤c.sgs.length;omega,fun j hj=>?_⟩
    by_cases e:j=k
    ·subst e;unfold adv;rw[g2];simp
    ·exact hall j (by omega)
   ·show c.sgs.length-(k+1)<c.sgs.length-k;omega
 ·obtain rfl:k=c.sgs.length:=by omega
  refine eN (bP (qz c i)) ?_
  rw[show qz c i=false from any_none hall]
  exact rfl
def ab3 (c:bn):Prop:=(kU c∧c.act≤6)∧anr c∧(∀x∈c.ins,x.length≤1000000)∧∀x∈c.sgs,x.nm.length≤1000000
theorem arC {c:bn} (h:ab3 c) {n:Nat} (hn:(n:Int)<dz c):aiz (c,n):=⟨⟨h.1.1,h.1.2,hn⟩,h.2.2⟩
end Go.Sx.Pe
