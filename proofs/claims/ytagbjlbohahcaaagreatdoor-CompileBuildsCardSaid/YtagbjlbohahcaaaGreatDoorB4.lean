/- CompileBuilds, part 4 of its proof: declarations that the last part uses. -/
import Derived.Test.YtagbjlbohahcaaaGreatDoorB3
set_option maxHeartbeats 1000000
set_option maxRecDepth 4000
set_option linter.unusedSimpArgs false
set_option linter.unusedVariables false
set_option linter.unusedSectionVars false
namespace Go.Sx.Pe
open Go Go.Proofs Go.Sx.Pn
theorem aj5:∀n,aky Tryz.prog 263 (akz n)
 | 0=>by
  refine apa [] (Tb:=tab) mixed iC Tryz.func263 rfl rfl ?_
  rintro ⟨x,d⟩ ⟨h1,_⟩ L
  have:=size_pos x
  exact absurd h1 (by show ¬x.size≤0;omega)
 | n+1=>by
  have ih:=aj5 n
  refine apa [2000000+263] (Tb:=tab) mixed iC Tryz.func263 rfl rfl ?_
  rintro ⟨x,d⟩ ⟨h1,h2,h3⟩ L
  have hsz:sizes x.args+1≤n+1∧sizes x.args+1≤1000000:=by rw[←x.size_eq];exact ⟨h1,h3⟩
  have hd:d≤17:=h2
  refine ai rfl ?_
  refine ai rfl (ei (yP (d,x)) (ai (anR d x) (ai ?_ (ai ?_ ?_))))
  ·exact (ai (ai trivial rfl) (ai trivial (ai rfl (ai rfl (ai rfl (fun _ _=>rfl))))))
  ·have hlen:=oO x.args
   refine ei (mD.inv { X:=Nat,up:=fun k=>[(17,.s (iA k))],uo:=fun _=>[],inv:=fun k=>k≤x.args.length,meas:=fun k=>x.args.length-k,x0:=0,cnt:=fun k=>some (1+(jc d (x.args.take k)).length) }) ?_
   refine ai (ai (ai (by exact (a4 (ai rfl rfl))) (ai ?_ ?_)) ?_) (ai ?_ ?_)
   ·exact (ai (ai (fun _=>rfl) rfl) rfl)
   ·exact trivial
   ·show some (0+1)=some (1+(jc d (x.args.take 0)).length)
    unfold jc;split<;>simp[iw]
   ·exact ah8 _
   intro (k:Nat) (hk:k≤x.args.length)
   refine ah (p:=k<x.args.length) (aB (by dsimp only;omega)) (fun hkl=>?_) (fun hkl=>?_)
   ·refine ai (ai (aaT _) (by show (k:Int)<(x.args.length:Int);omega)) (ai rfl ?_)
    refine bG (d≤16) (fun hdd=>?_) fun hdd=>?_
    ·have hget:=aad hkl
     have hy:=iQ (aay hget)
     refine ei (akz n) (ai ih (ei (x.args.getD k bD,d+1) (ei [0,1] (ai (ai rfl (ai rfl rfl)) (ai ?_ (ai ?_ (ai ?_ (ai ?_ (ai ?_ ?_)))))))))
     ·exact (ai (ai (iE (by simp only[zz,reduceCtorEq])) (ai (iE (by simp only[zz,reduceCtorEq])) (ai rfl (uX _)))) (ai (aH (by omega)) (ai (ai rfl rfl) (ai rfl rfl))))
     ·exact (ai (ai rfl rfl) (ai rfl (ai rfl (ai (ai rfl rfl) (ai rfl rfl)))))
     ·exact ⟨by show (x.args.getD k bD).size≤n;omega,by show d+1≤17;omega,by show (x.args.getD k bD).size≤1000000;omega⟩
     ·exact fun i vs hi=>aq6 hdd hkl hi
     ·refine ei ((k+1)) (ai (ai rfl rfl) (ai (ai ?_ ?_) (ai ?_ ?_)))
      ·exact (ai rfl (ai (ai rfl rfl) (ai (ai rfl rfl) (ai (ai (ai (fun _=>rfl) (aH (by omega))) rfl) trivial))))
      ·show some (1+(jc d (x.args.take k)).length+((dH (d+1) (x.args.getD k bD)).map yP).length)=some (1+(jc d (x.args.take (k+1))).length)
       rw[ahM hdd hget,aeu,aao,axE]
      ·show k+1≤x.args.length;omega
      ·show x.args.length-(k+1)<x.args.length-k;omega
     ·exact rfl
    ·refine ei ((k+1)) (ai (ai rfl rfl) (ai (ai ?_ ?_) (ai ?_ ?_)))
     ·exact (ai rfl (ai (ai rfl rfl) (ai (ai rfl rfl) (ai (ai (ai (fun _=>rfl) (aH (by omega))) rfl) trivial))))
     ·show some (1+(jc d (x.args.take k)).length)=some (1+(jc d (x.args.take (k+1))).length)
      unfold jc;rw[if_neg hdd,if_neg hdd]
     ·show k+1≤x.args.length;omega
     ·show x.args.length-(k+1)<x.args.length-k;omega
   ·obtain rfl:k=x.args.length:=by omega
    refine ai rfl ?_
    show 1+(jc d (x.args.take x.args.length)).length=((dH d x).map yP).length
    rw[acr,aeS,awI,aog,aeu,Nat.add_comm]
  ·exact rfl
def preS:tT:={ A:=Ex,capt:=fun x=>[.pt (ko x) 0],pre:=fun x=>x.size≤1000000,xs:=fun x=>(dH 1 x).map yP }
theorem akb:afz Tryz.prog 262 preS:=by
 refine an5 [2000000+263] (Tb:=tab) mixed iC Tryz.func262 rfl rfl ?_
 intro (x:Ex) hpre
 refine ai rfl ?_
 intro L
 refine ei (akz x.size) (ai (aj5 x.size) (ei (x,1) (ei [0,1] (ai (ai rfl (ai rfl rfl)) (ai ?_ (ai ?_ (ai ?_ (ai ?_ (ai ?_ ?_)))))))))
 ·exact (ai (ai rfl (ai rfl (ai rfl (fun _ _=>rfl)))) (ai (iE (by simp only[zz,reduceCtorEq];rfl)) (ai (ai rfl rfl) (ai rfl rfl))))
 ·exact (ai (ai rfl rfl) (ai rfl (ai rfl (ai (ai rfl rfl) (ai rfl rfl)))))
 ·exact ⟨acn _,by show 1≤17;omega,hpre⟩
 ·intro i vs hi
  show ((dH 1 x).map yP)[0+i]?=some vs
  rw[ajN];exact hi
 ·refine ai trivial ?_
  show 0+((dH 1 x).map yP).length=((dH 1 x).map yP).length
  rw[ajN]
 ·exact ai trivial trivial
def awE:Spec:=bQ (fun x:Ex=>[iV x]) (fun _=>True) (fun x=>.fn 262 [.pt (ko x) 0])
theorem aoT:av Tryz.prog 226 awE:=by
 refine vF Tryz.func226 ?_
 rintro (x:Ex) hpre
 refine ai (ai nof ?_) trivial
 exact (ai rfl rfl)
def xG (x:Ex):Option (Nat×Nat):=if x.size≤256∧x.deep≤16 then some (x.size,x.deep) else none
def nu (x:Ex):PV:=match xG x with
 | some (n,d)=>.tup [iP n,iP d,bP true]
 | none=>.tup [iP 0,iP 0,bP false]
def maxD (l:List (Nat×Ex)):Nat:=l.foldl (fun m y=>max m y.1) 0
theorem apo (l:List (Nat×Ex)) (y:Nat×Ex):maxD (l++[y])=max (maxD l) y.1:=by unfold maxD;rw[au5];rfl
mutual
theorem agK:∀(x:Ex) (d:Nat),x.deep+d≤17→(dH d x).length=x.size
 | .node o i l,d,h=>by
  have h1:gL l+1+d≤17:=by rw[Ex.yg] at h;exact h
  rw[vH,aog,Ex.size]
  unfold jc
  rw[if_pos (by omega),ako l (d+1) (by omega)]
theorem ako:∀(l:List Ex) (d:Nat),gL l+d≤17→(iw d l).length=sizes l
 | [],d,h=>by rw[iw,sizes];rfl
 | x :: l,d,h=>by
  rw[gL] at h
  rw[iw,sizes,aao,agK x d (by omega),ako l d (by omega)]
end
theorem foldl_max (l:List (Nat×Ex)):∀m,(∀y∈l,y.1≤l.foldl (fun m y=>max m y.1) m)∧m≤l.foldl (fun m y=>max m y.1) m∧(∀M,m≤M→(∀y∈l,y.1≤M)→l.foldl (fun m y=>max m y.1) m≤M):=by
 induction l with
 | nil=>intro m;simp
 | cons x l ih=>
  intro m
  obtain ⟨h1,h2,h3⟩:=ih (max m x.1)
  refine ⟨fun y hy=>?_,?_,fun M hm hM=>?_⟩
  ·rcases ah3.1 hy with rfl | hy
   ·show y.1≤l.foldl _ (max m y.1)
    exact ajf (Nat.le_max_right _ _) h2
   ·exact h1 y hy
  ·exact ajf (Nat.le_max_left _ _) h2
  ·exact h3 M (by have:=hM x (by simp);omega) fun y hy=>hM y (by simp[hy])
theorem maxD_eq {l:List (Nat×Ex)} {M:Nat} (h1:∀z∈l,z.1≤M) (h2:∃z∈l,z.1=M):maxD l=M:=by
 obtain ⟨g1,g2,g3⟩:=foldl_max l 0
 obtain ⟨z,hz,rfl⟩:=h2
 exact Nat.le_antisymm (g3 _ (ah8 _) h1) (g1 z hz)
mutual
theorem akm:∀(x:Ex) (d:Nat) (z:Nat×Ex),z∈dH d x→z.1+1≤x.deep+d
 | .node o i l,d,z,h=>by
  rw[vH] at h
  rw[Ex.deep]
  rcases ah3.1 h with rfl | h
  ·show d+1≤_;omega
  ·unfold jc at h
   split at h
   ·have:=al7 l (d+1) z h;omega
   ·simp at h
theorem al7:∀(l:List Ex) (d:Nat) (z:Nat×Ex),z∈iw d l→z.1+1≤gL l+d
 | [],d,z,h=>by rw[iw] at h;simp at h
 | x :: l,d,z,h=>by
  rw[iw] at h
  rw[gL]
  rcases acw.1 h with h | h
  ·have:=akm x d z h;omega
  ·have:=al7 l d z h;omega
end
mutual
theorem akC:∀(x:Ex) (d e:Nat),d≤e→e≤17→e+1≤x.deep+d→∃z∈dH d x,z.1=e
 | .node o i l,d,e,h1,h2,h3=>by
  rw[Ex.deep] at h3
  rw[vH]
  by_cases he:d=e
  ·exact ⟨_,auK,he⟩
  ·obtain ⟨z,hz,hz2⟩:=alq l (d+1) e (by omega) h2 (by omega)
   refine ⟨z,arU _ ?_,hz2⟩
   unfold jc;rw[if_pos (by omega)];exact hz
theorem alq:∀(l:List Ex) (d e:Nat),d≤e→e≤17→e+1≤gL l+d→∃z∈iw d l,z.1=e
 | [],d,e,h1,h2,h3=>by rw[gL] at h3;omega
 | x :: l,d,e,h1,h2,h3=>by
  rw[gL] at h3
  rw[iw]
  by_cases hx:e+1≤x.deep+d
  ·obtain ⟨z,hz,hz2⟩:=akC x d e h1 h2 hx
   exact ⟨z,axV _ hz,hz2⟩
  ·obtain ⟨z,hz,hz2⟩:=alq l d e h1 h2 (by omega)
   exact ⟨z,axO _ hz,hz2⟩
end
theorem ajP (x:Ex):(∀z∈dH 1 x,z.1≤16)↔x.deep≤16:=by
 constructor
 ·intro h
  refine Classical.byContradiction fun hn=>?_
  obtain ⟨z,hz,he⟩:=akC x 1 17 (by omega) (by omega) (by omega)
  have:=h z hz;omega
 ·intro h z hz
  have:=akm x 1 z hz;omega
theorem ahX {x:Ex} (h1:(dH 1 x).length≤256) (h2:∀z∈dH 1 x,z.1≤16):xG x=some ((dH 1 x).length,maxD (dH 1 x)):=by
 have hd:=(ajP x).1 h2
 have hl:=agK x 1 (by omega)
 have hm:maxD (dH 1 x)=x.deep:=maxD_eq (fun z hz=>by have:=akm x 1 z hz;omega) (akC x 1 x.deep (ajA x) (by omega) (by omega))
 unfold xG
 rw[if_pos ⟨by omega,hd⟩,hl,hm]
theorem ahA {x:Ex} (h:256<(dH 1 x).length∨∃z∈dH 1 x,16<z.1):xG x=none:=by
 unfold xG
 rw[if_neg]
 rintro ⟨h1,h2⟩
 rcases h with h | ⟨z,hz,h⟩
 ·have:=agK x 1 (by omega);omega
 ·have:=(ajP x).2 h2 z hz;omega
theorem aoD {l:List (Nat×Ex)} {k:Nat} {vs:List PV} (h:(l.map yP)[k]?=some vs):∃d x,l[k]?=some (d,x)∧vs=[iP d,ql x]:=by
 rw[akE] at h
 cases hc:l[k]? with
 | none=>rw[hc] at h;cases h
 | some y=>
  rw[hc] at h
  simp only[aom,Option.some.injEq] at h
  exact ⟨y.1,y.2,rfl,h.symm⟩
theorem apV {l:List (Nat×Ex)}:∀v∈l.map yP,v.length=2:=fun v hv=>by
 obtain ⟨y,_,rfl⟩:=aum.1 hv;rfl
def measS:Spec:=bq (fun x:Ex=>[iV x]) (fun x=>x.size≤1000000) nu
theorem adV:av Tryz.prog 225 measS:=by
 refine vF Tryz.func225 ?_
 rintro (x:Ex) hpre
 refine cK (aoT) (x) (by exact (ai rfl (ai rfl (ai rfl (fun _ _=>rfl))))) (trivial) ?_
 refine ai (ai rfl rfl) (ei preS (ai akb (ei x (ai ?_ (ai hpre (ai apV (ei { X:=Nat,uo:=fun k=>[⟨4,3,[.s (iA k)]⟩,⟨5,3,[.s (iA (maxD ((dH 1 x).take k):Nat))]⟩],inv:=fun k y=>y=k∧k≤256∧∀z∈(dH 1 x).take k,z.1≤16,x0:=0 } (ai ?_ (ai ?_ (ai ?_ (ai ?_ ?_)))))))))))
 ·exact (ai rfl rfl)
 ·exact (ai rfl (ai rfl (ai rfl rfl)))
 ·exact (ai (ai (ai (fun _=>rfl) rfl) rfl) (ai (ai (ai (fun _=>rfl) rfl) rfl) trivial))
 ·exact ⟨rfl,ah8 _,by simp⟩
 ·rintro k (y:Nat) vs ⟨hy,hk,hall⟩ hvs
  subst hy
  obtain ⟨d,z,hg,rfl⟩:=aoD hvs
  have hs:(dH 1 x).take (y+1)=(dH 1 x).take y++[(d,z)]:=by rw[axB,hg];rfl
  have hyl:y<(dH 1 x).length:=(apT.1 hg).1
  have hw:IntKind.i64.wrap ((y:Int)+1)=((y+1:Nat):Int):=aH (by omega)
  refine ah (p:=256<y+1) (by exact aB (by rw[hw];omega)) (fun h1=>?_) (fun h1=>?_)
  ·refine eN (nu x) ?_
   rw[nu,ahA (.inl (by omega))]
   exact (ai rfl (ai rfl rfl))
  refine bL (16<d) (fun h2=>?_) fun h2=>?_
  ·refine eN (nu x) ?_
   rw[nu,ahA (.inr ⟨_,aay hg,h2⟩)]
   exact (ai rfl (ai rfl rfl))
  refine ei (y+1) (ai rfl (ai (ai (ai rfl rfl) (ai (ai rfl rfl) ?_)) ?_))
  ·refine ai ?_ (ai ?_ trivial)
   ·exact (ai (ai (fun _=>rfl) (aH (by omega))) rfl)
   ·refine ai (ai nof ?_) rfl
    show (if (d:Int)>_ then (d:Int) else _)=((maxD ((dH 1 x).take (y+1)):Nat):Int)
    rw[hs,apo]
    show (if (d:Int)>((maxD ((dH 1 x).take y):Nat):Int) then (d:Int) else _)=((max _ d:Nat):Int)
    split<;>omega
  ·refine ⟨rfl,by omega,fun w hw=>?_⟩
   rw[hs] at hw
   rcases acw.1 hw with hw | hw
   ·exact hall w hw
   ·simp at hw;subst hw;show d≤16;omega
 ·rintro (y:Nat) ⟨hy,hk,hall⟩
  have hl:(preS.xs x).length=(dH 1 x).length:=aeu _
  rw[hl] at hy hk hall
  subst hy
  rw[acr] at hall
  refine dR (.one 0 (.alt 1 (.one 2 (.one 3 (.one 4 .done))) (.alt 2 (.one 1 (.one 3 (.one 4 .done))) .stop))) ?_
  refine ai ?_ (ai ?_ trivial)
  ·refine eN (nu x) ?_
   rw[nu,ahX hk hall]
   refine (ai rfl (ai ?_ rfl))
   ·show ((maxD ((dH 1 x).take (dH 1 x).length):Nat):Int)=_
    rw[acr]
  ·refine eN (nu x) ?_
   rw[nu,ahX hk hall]
   refine (ai rfl (ai ?_ rfl))
   ·show ((maxD ((dH 1 x).take (dH 1 x).length):Nat):Int)=_
    rw[acr]
def yT (o:Int):Nat:=if o=2 then 1 else if o=3∨o=4 then 2 else 0
def abD (o:Int):Nat:=if o=2 then 1 else if o=3∨o=4 then 256 else 0
def uK (o n:Int):Int:=if o=0 then 1 else if o=1 then n-1 else 0
def aJ (x:Ex) (n:Int):Int:=
 if x.op<0∨5≤x.op then 1 else if x.args.length<yT x.op∨abD x.op<x.args.length then 3 else if x.idx<0∨uK x.op n<x.idx then 2 else 0
def evC (v:Bool):PV:=.fn 282 [.pt [bP v] 0]
def shC:List PV:=[iP 0,iP 0,.val .nilFunc,iP 0,iP 0,.val .nilFunc,iP 1,iP 1,evC false,iP 2,iP 256,evC true,iP 2,iP 256,.fn 265 []]
def avS:Spec:=bq (fun v:Bool=>[bA v]) (fun _=>True) (fun v=>evC v)
theorem aew:av Tryz.prog 264 avS:=by
 refine vF Tryz.func264 ?_
 rintro (v:Bool) hpre
 refine ai (ai (fun _=>trivial) ?_) trivial
 exact (ai rfl rfl)
def atl:Spec:=bq (fun _:Unit=>[]) (fun _=>True) (fun _=>.agg shC)
theorem jJ:av Tryz.prog 228 atl:=by
 refine vF Tryz.func228 ?_
 rintro ⟨⟩ hpre
 refine cK (aew) (false) (by exact rfl) (trivial) ?_
 refine cK (aew) (true) (by exact rfl) (trivial) ?_
 refine ai (ai (fun _=>(by exact (ai trivial (ai trivial (ai trivial (ai trivial (ai trivial (ai trivial (ai trivial (ai trivial (ai trivial (ai trivial (ai trivial (ai trivial (ai trivial (ai trivial trivial)))))))))))))))) ?_) trivial
 exact (ai rfl (ai rfl (ai rfl (ai rfl (ai rfl (ai rfl (ai rfl (ai rfl (ai (ai rfl rfl) (ai rfl (ai rfl (ai (ai rfl rfl) (ai rfl (ai rfl (ai rfl rfl)))))))))))))))
def awc:Spec:=bq (fun y:Ex×Int=>[iV y.1,iA y.2]) (fun y=>y.1.args.length≤1000000∧0≤y.2∧y.2≤256) (fun y=>iP (aJ y.1 y.2))
theorem atb:av Tryz.prog 227 awc:=by
 refine vF Tryz.func227 ?_
 rintro ⟨⟨o,i,l⟩,n⟩ hpre
 obtain ⟨hl,hn1,hn2⟩:=hpre
 have hl:l.length≤1000000:=hl
 have hn1:0≤n:=hn1
 have hn2:n≤256:=hn2
 refine ah (p:=o<0) (aB Iff.rfl) (fun h1=>?_) (fun h1=>?_)
 ·refine eN (iP (aJ (.node o i l) n)) ?_
  rw[aJ,if_pos (.inl h1)]
  exact rfl
 refine ah (p:=5≤o) (fV Iff.rfl) (fun h2=>?_) (fun h2=>?_)
 ·refine eN (iP (aJ (.node o i l) n)) ?_
  rw[aJ,if_pos (.inr h2)]
  exact rfl
 have hA:aJ (.node o i l) n=if l.length<yT o∨abD o<l.length then 3 else if i<0∨uK o n<i then 2 else 0:=by
  unfold aJ
  rw[if_neg (by show ¬(o<0∨5≤o);omega)]
 have ho:o=0∨o=1∨o=2∨o=3∨o=4:=by omega
 rcases ho with rfl | rfl | rfl | rfl | rfl
 ·refine dR (.one 1 (.one 2 (.alt 0 (.one 3 (.one 4 (.one 5 .done))) (.alt 4 (.one 0 (.one 3 (.one 5 .done))) .stop)))) ?_
  refine ai ?_ (ai ?_ trivial)
  ·refine cK (jJ) (()) (by exact trivial) (trivial) ?_
   refine ai (ai (by show (0:Int)≤0;decide) (by show (0:Int)<5;decide)) ?_
   have hA:aJ (.node 0 i l) n=if l.length<0∨0<l.length then 3 else if i<0∨1<i then 2 else 0:=hA
   refine ah (p:=0<l.length) (aB (by dsimp only;omega)) (fun h4=>?_) (fun h4=>?_)
   ·refine eN (iP (aJ (.node 0 i l) n)) ?_
    rw[hA,if_pos (.inr h4)]
    exact rfl
   rw[if_neg (fun h=>h.elim (aee _) h4)] at hA
   refine ah (p:=i<0) (aB Iff.rfl) (fun h5=>?_) (fun h5=>?_)
   ·refine eN (iP (aJ (.node 0 i l) n)) ?_
    rw[hA,if_pos (.inl h5)]
    exact rfl
   refine ah (p:=1<i) (by first | exact aB Iff.rfl | exact aB (by rw[jT (n:=n-1) (by omega) (by omega)])) (fun h6=>?_) (fun h6=>?_)
   ·refine eN (iP (aJ (.node 0 i l) n)) ?_
    rw[hA,if_pos (.inr h6)]
    exact rfl
   ·refine eN (iP (aJ (.node 0 i l) n)) ?_
    rw[hA,if_neg (fun h=>h.elim h5 h6)]
    exact rfl
  ·refine cK (jJ) (()) (by exact trivial) (trivial) ?_
   refine ai (ai (by show (0:Int)≤0;decide) (by show (0:Int)<5;decide)) ?_
   have hA:aJ (.node 0 i l) n=if l.length<0∨0<l.length then 3 else if i<0∨1<i then 2 else 0:=hA
   refine ah (p:=0<l.length) (aB (by dsimp only;omega)) (fun h4=>?_) (fun h4=>?_)
   ·refine eN (iP (aJ (.node 0 i l) n)) ?_
    rw[hA,if_pos (.inr h4)]
    exact rfl
   rw[if_neg (fun h=>h.elim (aee _) h4)] at hA
   refine ah (p:=i<0) (aB Iff.rfl) (fun h5=>?_) (fun h5=>?_)
   ·refine eN (iP (aJ (.node 0 i l) n)) ?_
    rw[hA,if_pos (.inl h5)]
    exact rfl
   refine ah (p:=1<i) (by first | exact aB Iff.rfl | exact aB (by rw[jT (n:=n-1) (by omega) (by omega)])) (fun h6=>?_) (fun h6=>?_)
   ·refine eN (iP (aJ (.node 0 i l) n)) ?_
    rw[hA,if_pos (.inr h6)]
    exact rfl
   ·refine eN (iP (aJ (.node 0 i l) n)) ?_
    rw[hA,if_neg (fun h=>h.elim h5 h6)]
    exact rfl
 ·refine dR (.one 1 (.one 2 (.alt 0 (.one 3 (.one 4 (.one 5 .done))) (.alt 4 (.one 0 (.one 3 (.one 5 .done))) .stop)))) ?_
  refine ai ?_ (ai ?_ trivial)
  ·refine cK (jJ) (()) (by exact trivial) (trivial) ?_
   refine ai (ai (by show (0:Int)≤1;decide) (by show (1:Int)<5;decide)) ?_
   have hA:aJ (.node 1 i l) n=if l.length<0∨0<l.length then 3 else if i<0∨(n-1)<i then 2 else 0:=hA
   refine ah (p:=0<l.length) (aB (by dsimp only;omega)) (fun h4=>?_) (fun h4=>?_)
   ·refine eN (iP (aJ (.node 1 i l) n)) ?_
    rw[hA,if_pos (.inr h4)]
    exact rfl
   rw[if_neg (fun h=>h.elim (aee _) h4)] at hA
   refine ah (p:=i<0) (aB Iff.rfl) (fun h5=>?_) (fun h5=>?_)
   ·refine eN (iP (aJ (.node 1 i l) n)) ?_
    rw[hA,if_pos (.inl h5)]
    exact rfl
   refine ah (p:=(n-1)<i) (by first | exact aB Iff.rfl | exact aB (by rw[jT (n:=n-1) (by omega) (by omega)])) (fun h6=>?_) (fun h6=>?_)
   ·refine eN (iP (aJ (.node 1 i l) n)) ?_
    rw[hA,if_pos (.inr h6)]
    exact rfl
   ·refine eN (iP (aJ (.node 1 i l) n)) ?_
    rw[hA,if_neg (fun h=>h.elim h5 h6)]
    exact rfl
  ·refine cK (jJ) (()) (by exact trivial) (trivial) ?_
   refine ai (ai (by show (0:Int)≤1;decide) (by show (1:Int)<5;decide)) ?_
   have hA:aJ (.node 1 i l) n=if l.length<0∨0<l.length then 3 else if i<0∨(n-1)<i then 2 else 0:=hA
   refine ah (p:=0<l.length) (aB (by dsimp only;omega)) (fun h4=>?_) (fun h4=>?_)
   ·refine eN (iP (aJ (.node 1 i l) n)) ?_
    rw[hA,if_pos (.inr h4)]
    exact rfl
   rw[if_neg (fun h=>h.elim (aee _) h4)] at hA
   refine ah (p:=i<0) (aB Iff.rfl) (fun h5=>?_) (fun h5=>?_)
   ·refine eN (iP (aJ (.node 1 i l) n)) ?_
    rw[hA,if_pos (.inl h5)]
    exact rfl
   refine ah (p:=(n-1)<i) (by first | exact aB Iff.rfl | exact aB (by rw[jT (n:=n-1) (by omega) (by omega)])) (fun h6=>?_) (fun h6=>?_)
   ·refine eN (iP (aJ (.node 1 i l) n)) ?_
    rw[hA,if_pos (.inr h6)]
    exact rfl
   ·refine eN (iP (aJ (.node 1 i l) n)) ?_
    rw[hA,if_neg (fun h=>h.elim h5 h6)]
    exact rfl
 ·refine dR (.one 1 (.one 2 (.alt 0 (.one 3 (.one 4 (.one 5 .done))) (.alt 4 (.one 0 (.one 3 (.one 5 .done))) .stop)))) ?_
  refine ai ?_ (ai ?_ trivial)
  ·refine cK (jJ) (()) (by exact trivial) (trivial) ?_
   refine ai (ai (by show (0:Int)≤2;decide) (by show (2:Int)<5;decide)) ?_
   have hA:aJ (.node 2 i l) n=if l.length<1∨1<l.length then 3 else if i<0∨0<i then 2 else 0:=hA
   refine ah (p:=l.length<1) (aB (by dsimp only;omega)) (fun h3=>?_) (fun h3=>?_)
   ·refine eN (iP (aJ (.node 2 i l) n)) ?_
    rw[hA,if_pos (.inl h3)]
    exact rfl
   refine ah (p:=1<l.length) (aB (by dsimp only;omega)) (fun h4=>?_) (fun h4=>?_)
   ·refine eN (iP (aJ (.node 2 i l) n)) ?_
    rw[hA,if_pos (.inr h4)]
    exact rfl
   rw[if_neg (fun h=>h.elim h3 h4)] at hA
   refine ah (p:=i<0) (aB Iff.rfl) (fun h5=>?_) (fun h5=>?_)
   ·refine eN (iP (aJ (.node 2 i l) n)) ?_
    rw[hA,if_pos (.inl h5)]
    exact rfl
   skip
   refine ah (p:=0<i) (aB Iff.rfl) (fun h6=>?_) (fun h6=>?_)
   ·refine eN (iP (aJ (.node 2 i l) n)) ?_
    rw[hA,if_pos (.inr h6)]
    exact rfl
   ·refine eN (iP (aJ (.node 2 i l) n)) ?_
    rw[hA,if_neg (fun h=>h.elim h5 h6)]
    exact rfl
  ·refine cK (jJ) (()) (by exact trivial) (trivial) ?_
   refine ai (ai (by show (0:Int)≤2;decide) (by show (2:Int)<5;decide)) ?_
   have hA:aJ (.node 2 i l) n=if l.length<1∨1<l.length then 3 else if i<0∨0<i then 2 else 0:=hA
   refine ah (p:=l.length<1) (aB (by dsimp only;omega)) (fun h3=>?_) (fun h3=>?_)
   ·refine eN (iP (aJ (.node 2 i l) n)) ?_
    rw[hA,if_pos (.inl h3)]
    exact rfl
   refine ah (p:=1<l.length) (aB (by dsimp only;omega)) (fun h4=>?_) (fun h4=>?_)
   ·refine eN (iP (aJ (.node 2 i l) n)) ?_
    rw[hA,if_pos (.inr h4)]
    exact rfl
   rw[if_neg (fun h=>h.elim h3 h4)] at hA
   refine ah (p:=i<0) (aB Iff.rfl) (fun h5=>?_) (fun h5=>?_)
   ·refine eN (iP (aJ (.node 2 i l) n)) ?_
    rw[hA,if_pos (.inl h5)]
    exact rfl
   skip
   refine ah (p:=0<i) (aB Iff.rfl) (fun h6=>?_) (fun h6=>?_)
   ·refine eN (iP (aJ (.node 2 i l) n)) ?_
    rw[hA,if_pos (.inr h6)]
    exact rfl
   ·refine eN (iP (aJ (.node 2 i l) n)) ?_
    rw[hA,if_neg (fun h=>h.elim h5 h6)]
    exact rfl
 ·refine dR (.one 1 (.one 2 (.alt 0 (.one 3 (.one 4 (.one 5 .done))) (.alt 4 (.one 0 (.one 3 (.one 5 .done))) .stop)))) ?_
  refine ai ?_ (ai ?_ trivial)
  ·refine cK (jJ) (()) (by exact trivial) (trivial) ?_
   refine ai (ai (by show (0:Int)≤3;decide) (by show (3:Int)<5;decide)) ?_
   have hA:aJ (.node 3 i l) n=if l.length<2∨256<l.length then 3 else if i<0∨0<i then 2 else 0:=hA
   refine ah (p:=l.length<2) (aB (by dsimp only;omega)) (fun h3=>?_) (fun h3=>?_)
   ·refine eN (iP (aJ (.node 3 i l) n)) ?_
    rw[hA,if_pos (.inl h3)]
    exact rfl
   refine ah (p:=256<l.length) (aB (by dsimp only;omega)) (fun h4=>?_) (fun h4=>?_)
   ·refine eN (iP (aJ (.node 3 i l) n)) ?_
    rw[hA,if_pos (.inr h4)]
    exact rfl
   rw[if_neg (fun h=>h.elim h3 h4)] at hA
   refine ah (p:=i<0) (aB Iff.rfl) (fun h5=>?_) (fun h5=>?_)
   ·refine eN (iP (aJ (.node 3 i l) n)) ?_
    rw[hA,if_pos (.inl h5)]
    exact rfl
   skip
   refine ah (p:=0<i) (aB Iff.rfl) (fun h6=>?_) (fun h6=>?_)
   ·refine eN (iP (aJ (.node 3 i l) n)) ?_
    rw[hA,if_pos (.inr h6)]
    exact rfl
   ·refine eN (iP (aJ (.node 3 i l) n)) ?_
    rw[hA,if_neg (fun h=>h.elim h5 h6)]
    exact rfl
  ·refine cK (jJ) (()) (by exact trivial) (trivial) ?_
   refine ai (ai (by show (0:Int)≤3;decide) (by show (3:Int)<5;decide)) ?_
   have hA:aJ (.node 3 i l) n=if l.length<2∨256<l.length then 3 else if i<0∨0<i then 2 else 0:=hA
   refine ah (p:=l.length<2) (aB (by dsimp only;omega)) (fun h3=>?_) (fun h3=>?_)
   ·refine eN (iP (aJ (.node 3 i l) n)) ?_
    rw[hA,if_pos (.inl h3)]
    exact rfl
   refine ah (p:=256<l.length) (aB (by dsimp only;omega)) (fun h4=>?_) (fun h4=>?_)
   ·refine eN (iP (aJ (.node 3 i l) n)) ?_
    rw[hA,if_pos (.inr h4)]
    exact rfl
   rw[if_neg (fun h=>h.elim h3 h4)] at hA
   refine ah (p:=i<0) (aB Iff.rfl) (fun h5=>?_) (fun h5=>?_)
   ·refine eN (iP (aJ (.node 3 i l) n)) ?_
    rw[hA,if_pos (.inl h5)]
    exact rfl
   skip
   refine ah (p:=0<i) (aB Iff.rfl) (fun h6=>?_) (fun h6=>?_)
   ·refine eN (iP (aJ (.node 3 i l) n)) ?_
    rw[hA,if_pos (.inr h6)]
    exact rfl
   ·refine eN (iP (aJ (.node 3 i l) n)) ?_
    rw[hA,if_neg (fun h=>h.elim h5 h6)]
    exact rfl
 ·refine dR (.one 1 (.one 2 (.alt 0 (.one 3 (.one 4 (.one 5 .done))) (.alt 4 (.one 0 (.one 3 (.one 5 .done))) .stop)))) ?_
  refine ai ?_ (ai ?_ trivial)
  ·refine cK (jJ) (()) (by exact trivial) (trivial) ?_
   refine ai (ai (by show (0:Int)≤4;decide) (by show (4:Int)<5;decide)) ?_
   have hA:aJ (.node 4 i l) n=if l.length<2∨256<l.length then 3 else if i<0∨0<i then 2 else 0:=hA
   refine ah (p:=l.length<2) (aB (by dsimp only;omega)) (fun h3=>?_) (fun h3=>?_)
   ·refine eN (iP (aJ (.node 4 i l) n)) ?_
    rw[hA,if_pos (.inl h3)]
    exact rfl
   refine ah (p:=256<l.length) (aB (by dsimp only;omega)) (fun h4=>?_) (fun h4=>?_)
   ·refine eN (iP (aJ (.node 4 i l) n)) ?_
    rw[hA,if_pos (.inr h4)]
    exact rfl
   rw[if_neg (fun h=>h.elim h3 h4)] at hA
   refine ah (p:=i<0) (aB Iff.rfl) (fun h5=>?_) (fun h5=>?_)
   ·refine eN (iP (aJ (.node 4 i l) n)) ?_
    rw[hA,if_pos (.inl h5)]
    exact rfl
   skip
   refine ah (p:=0<i) (aB Iff.rfl) (fun h6=>?_) (fun h6=>?_)
   ·refine eN (iP (aJ (.node 4 i l) n)) ?_
    rw[hA,if_pos (.inr h6)]
    exact rfl
   ·refine eN (iP (aJ (.node 4 i l) n)) ?_
    rw[hA,if_neg (fun h=>h.elim h5 h6)]
    exact rfl
  ·refine cK (jJ) (()) (by exact trivial) (trivial) ?_
   refine ai (ai (by show (0:Int)≤4;decide) (by show (4:Int)<5;decide)) ?_
   have hA:aJ (.node 4 i l) n=if l.length<2∨256<l.length then 3 else if i<0∨0<i then 2 else 0:=hA
   refine ah (p:=l.length<2) (aB (by dsimp only;omega)) (fun h3=>?_) (fun h3=>?_)
   ·refine eN (iP (aJ (.node 4 i l) n)) ?_
    rw[hA,if_pos (.inl h3)]
    exact rfl
   refine ah (p:=256<l.length) (aB (by dsimp only;omega)) (fun h4=>?_) (fun h4=>?_)
   ·refine eN (iP (aJ (.node 4 i l) n)) ?_
    rw[hA,if_pos (.inr h4)]
    exact rfl
   rw[if_neg (fun h=>h.elim h3 h4)] at hA
   refine ah (p:=i<0) (aB Iff.rfl) (fun h5=>?_) (fun h5=>?_)
   ·refine eN (iP (aJ (.node 4 i l) n)) ?_
    rw[hA,if_pos (.inl h5)]
    exact rfl
   skip
   refine ah (p:=0<i) (aB Iff.rfl) (fun h6=>?_) (fun h6=>?_)
   ·refine eN (iP (aJ (.node 4 i l) n)) ?_
    rw[hA,if_pos (.inr h6)]
    exact rfl
   ·refine eN (iP (aJ (.node 4 i l) n)) ?_
    rw[hA,if_neg (fun h=>h.elim h5 h6)]
    exact rfl
def fu (l:List (Nat×Ex)) (n:Int):Int:=((l.map fun y=>aJ y.2 n).find? (fun e=>e != 0)).getD 0
def bf (x:Ex) (n:Int):Int:=if n<0∨256<n then 2 else if x.size≤256∧x.deep≤16 then fu (dH 1 x) n else 5
theorem ah2 {α:Type} {p:α→Bool}:∀{l:List α} {k:Nat},(∀j,j<k→∀y,l[j]?=some y→p y=false)→∀{y:α},l[k]?=some y→p y=true→l.find? p=some y
 | [],k,_,y,h,_=>by simp at h
 | z :: l,0,_,y,h,hp=>by simp at h;subst h;simp[hp]
 | z :: l,k+1,hs,y,h,hp=>by
  have h0:=hs 0 (by omega) z rfl
  rw[List.find?_cons,h0]
  exact ah2 (k:=k) (fun j hj y hy=>hs (j+1) (by omega) y (by simpa using hy)) (by simpa using h) hp
theorem aia {l:List (Nat×Ex)} {n:Int} {k d:Nat} {x:Ex} (h0:∀z∈l.take k,aJ z.2 n=0) (h:l[k]?=some (d,x)) (hn:aJ x n≠0):fu l n=aJ x n:=by
 unfold fu
 rw[ah2 (k:=k) (y:=aJ x n)]
 ·rfl
 ·intro j hj y hy
  rw[akE] at hy
  cases hc:l[j]? with
  | none=>rw[hc] at hy;simp at hy
  | some z=>
   rw[hc] at hy;simp at hy;subst hy
   have:z∈l.take k:=by
    have:(l.take k)[j]?=some z:=by rw[avp];simp[hj,hc]
    exact aay this
   simp[h0 z this]
 ·rw[akE,h];rfl
 ·simpa using hn
theorem aaF {l:List (Nat×Ex)} {n:Int} (h0:∀z∈l,aJ z.2 n=0):fu l n=0:=by
 unfold fu
 rw[ax1.2]
 ·rfl
 ·intro y hy
  obtain ⟨z,hz,rfl⟩:=aum.1 hy
  simp[h0 z hz]
theorem agp {l:List (Nat×Ex)} {n:Int}:fu l n=0↔∀z∈l,aJ z.2 n=0:=by
 constructor
 ·intro h z hz
  refine Classical.byContradiction fun hne=>?_
  unfold fu at h
  cases hf:(l.map fun y=>aJ y.2 n).find? (fun e=>e != 0) with
  | none=>
   have:=ax1.1 hf (aJ z.2 n) (List.mem_map_of_mem hz)
   simp at this;exact hne this
  | some e=>
   rw[hf] at h
   have:=List.find?_some hf
   simp at h;simp[h] at this
 ·exact aaF
mutual
theorem ajs:∀(x:Ex) (d:Nat) (z:Nat×Ex),z∈dH d x→z.2.size≤x.size
 | .node o i l,d,z,h=>by
  rw[vH] at h
  rcases ah3.1 h with rfl | h
  ·exact acn _
  ·unfold jc at h
   rw[Ex.size]
   split at h
   ·have:=aic l (d+1) z h;omega
   ·simp at h
theorem aic:∀(l:List Ex) (d:Nat) (z:Nat×Ex),z∈iw d l→z.2.size≤sizes l
 | [],d,z,h=>by rw[iw] at h;simp at h
 | x :: l,d,z,h=>by
  rw[iw] at h
  rw[sizes]
  rcases acw.1 h with h | h
  ·have:=ajs x d z h;omega
  ·have:=aic l d z h;omega
end
theorem yU (x:Ex):x.args.length<x.size:=by rw[x.size_eq];have:=oO x.args;omega
def avO:Spec:=bq (fun y:Ex×Int=>[iV y.1,iA y.2]) (fun y=>y.1.size≤1000000) (fun y=>iP (bf y.1 y.2))
theorem qz:av Tryz.prog 179 avO:=by
 refine vF Tryz.func179 ?_
 rintro ⟨x,n⟩ hpre
 have hpre:x.size≤1000000:=hpre
 refine bL (n<0) (fun h1=>?_) fun h1=>?_
 ·refine eN (iP (bf x n)) ?_
  rw[bf,if_pos (.inl h1)]
  exact rfl
 refine bL (256<n) (fun h2=>?_) fun h2=>?_
 ·refine eN (iP (bf x n)) ?_
  rw[bf,if_pos (.inr h2)]
  exact rfl
 have hA:bf x n=if x.size≤256∧x.deep≤16 then fu (dH 1 x) n else 5:=by
  unfold bf;rw[if_neg (fun h=>h.elim h1 h2)]
 by_cases hm:x.size≤256∧x.deep≤16
 ·have e1:nu x=.tup [iP x.size,iP x.deep,bP true]:=by unfold nu xG;rw[if_pos hm]
  rw[if_pos hm] at hA
  refine cK ((uT adV x hpre e1)) (()) (by exact (ai rfl (ai rfl (ai rfl (fun _ _=>rfl))))) (trivial) ?_
  refine cK (aoT) (x) (by exact (ai rfl (ai rfl (ai rfl (fun _ _=>rfl))))) (trivial) ?_
  refine ai (ai rfl rfl) (ei preS (ai akb (ei x (ai ?_ (ai hpre (ai apV (ei { X:=Nat,uo:=fun k=>[],inv:=fun k y=>y=k∧∀z∈(dH 1 x).take k,aJ z.2 n=0,x0:=0 } (ai ?_ (ai ?_ (ai ?_ (ai ?_ ?_)))))))))))
  ·exact (ai rfl rfl)
  ·exact (ai rfl (ai rfl (ai rfl rfl)))
  ·exact trivial
  ·exact ⟨rfl,by simp⟩
  ·rintro k (y:Nat) vs ⟨hy,hall⟩ hvs
   subst hy
   obtain ⟨d,z,hg,rfl⟩:=aoD hvs
   have hz:=aay hg
   have hzs:z.size≤x.size:=ajs x 1 _ hz
   have hza:=yU z
   refine cK (atb) ((z,n)) (by exact (ai (ai rfl (ai rfl (ai rfl (fun _ _=>rfl)))) rfl)) (⟨by show z.args.length≤1000000;omega,by show 0≤n;omega,by show n≤256;omega⟩) ?_
   refine aW (p:=aJ z n=0) (bR (by dsimp only;omega)) (fun h3=>?_) (fun h3=>?_)
   ·refine eN (iP (bf x n)) ?_
    rw[hA,aia hall hg h3]
    exact rfl
   refine ei (y+1) (ai rfl (ai (ai (ai rfl rfl) (ai (ai rfl rfl) ?_)) ⟨rfl,?_⟩))
   ·exact trivial
   ·intro w hw
    have hs:(dH 1 x).take (y+1)=(dH 1 x).take y++[(d,z)]:=by rw[axB,hg];rfl
    rw[hs] at hw
    rcases acw.1 hw with hw | hw
    ·exact hall w hw
    ·simp at hw;subst hw;exact h3
  ·rintro (y:Nat) ⟨hy,hall⟩
   have hl:(preS.xs x).length=(dH 1 x).length:=aeu _
   rw[hl] at hy hall
   subst hy
   rw[acr] at hall
   refine eN (iP (bf x n)) ?_
   rw[hA,aaF hall]
   exact rfl
 ·have e1:nu x=.tup [iP 0,iP 0,bP false]:=by unfold nu xG;rw[if_neg hm]
  rw[if_neg hm] at hA
  refine cK ((uT adV x hpre e1)) (()) (by exact (ai rfl (ai rfl (ai rfl (fun _ _=>rfl))))) (trivial) ?_
  refine eN (iP (bf x n)) ?_
  rw[hA]
  exact rfl
mutual
def fO (vs:List Bool):Ex→Bool
 | .node o i l=>if o=0 then decide (i=1) else if o=1 then vs.getD i.toNat false else if o=2 then (abu vs l).all (·==false) else if o=3 then (abu vs l).all (·==true) else !(abu vs l).all (·==false)
def abu (vs:List Bool):List Ex→List Bool
 | []=>[]
 | x :: l=>fO vs x :: abu vs l
end
theorem aij (vs:List Bool):∀l:List Ex,abu vs l=l.map (fO vs)
 | []=>by rw[abu];rfl
 | x :: l=>by rw[abu,aij vs l];rfl
theorem atK (vs:List Bool) (o i:Int) (l:List Ex):fO vs (.node o i l)=if o=0 then decide (i=1) else if o=1 then vs.getD i.toNat false else if o=2 then (l.map (fO vs)).all (·==false) else if o=3 then (l.map (fO vs)).all (·==true) else !(l.map (fO vs)).all (·==false):=by
 rw[fO,aij]
mutual
def jV (n:Int):Ex→Prop
 | .node o i l=>aJ (.node o i l) n=0∧wQ n l
def wQ (n:Int):List Ex→Prop
 | []=>True
 | x :: l=>jV n x∧wQ n l
end
theorem ae8 (n:Int):∀l:List Ex,wQ n l↔∀x∈l,jV n x
 | []=>by rw[wQ];simp
 | x :: l=>by rw[wQ,ae8 n l];simp
theorem qH (n:Int) (x:Ex):jV n x↔aJ x n=0∧∀y∈x.args,jV n y:=by
 cases x;rw[jV,ae8]
mutual
theorem ajS (n:Int):∀(x:Ex) (d:Nat),x.deep+d≤17→((∀z∈dH d x,aJ z.2 n=0)↔jV n x)
 | .node o i l,d,h=>by
  rw[Ex.deep] at h
  rw[vH,jV]
  unfold jc
  rw[if_pos (by omega),←ahn n l (d+1) (by omega)]
  constructor
  ·exact fun h=>⟨h _ auK,fun z hz=>h z (arU _ hz)⟩
  ·rintro ⟨h1,h2⟩ z hz
   rcases ah3.1 hz with rfl | hz
   ·exact h1
   ·exact h2 z hz
theorem ahn (n:Int):∀(l:List Ex) (d:Nat),gL l+d≤17→((∀z∈iw d l,aJ z.2 n=0)↔wQ n l)
 | [],d,h=>by rw[iw,wQ];simp
 | x :: l,d,h=>by
  rw[gL] at h
  rw[iw,wQ,←ajS n x d (by omega),←ahn n l d (by omega)]
  constructor
  ·exact fun h=>⟨fun z hz=>h z (axV _ hz),fun z hz=>h z (axO _ hz)⟩
  ·rintro ⟨h1,h2⟩ z hz
   rcases acw.1 hz with hz | hz
   ·exact h1 z hz
   ·exact h2 z hz
end
theorem eG {x:Ex} {n:Int}:bf x n=0↔(0≤n∧n≤256)∧(x.size≤256∧x.deep≤16)∧jV n x:=by
 unfold bf
 by_cases h1:n<0∨256<n
 ·rw[if_pos h1]
  constructor
  ·intro h;exact absurd h (by decide)
  ·rintro ⟨h,_⟩;omega
 ·rw[if_neg h1]
  by_cases h2:x.size≤256∧x.deep≤16
  ·rw[if_pos h2,agp,ajS n x 1 (by omega)]
   exact ⟨fun h=>⟨by omega,h2,h⟩,fun h=>h.2.2⟩
  ·rw[if_neg h2]
   constructor
   ·intro h;exact absurd h (by decide)
   ·rintro ⟨_,h,_⟩;exact absurd h h2
def aiu (a:Ex×List Bool):Prop:=jV a.2.length a.1∧a.1.size≤256∧a.2.length≤256
def evS:Spec:=bq (fun a:Ex×List Bool=>[iV a.1,rY a.2]) aiu (fun a=>bP (fO a.2 a.1))
def evN (n:Nat):Spec:={ evS with pre:=fun a=>evS.pre a∧a.1.size≤n }
def arL (a:Ex×List Bool):PV:=.fn 229 [.pt (ko a.1) 0,.pt [kH a.2] 0]
def af0 (n:Nat):tT:={ A:=Ex×List Bool,capt:=fun a=>[.pt (ko a.1) 0,.pt [kH a.2] 0],pre:=fun a=>aiu a∧a.1.size≤n+1,xs:=fun a=>a.1.args.map fun y=>[bP (fO a.2 y)] }
theorem aoz (n:Nat) (ih:av Tryz.prog 180 (evN n)):afz Tryz.prog 229 (af0 n):=by
 refine awd (Tb:=tab) mixed iC Tryz.func229 rfl rfl ?_
 rintro (a:Ex×List Bool) hpre
 refine ai rfl ?_
 obtain ⟨⟨hg,hs,hv⟩,hn⟩:=hpre
 have hn:a.1.size≤n+1:=hn
 have hal:=yU a.1
 intro l
 refine ei (mD.inv { X:=Nat,up:=fun k=>[(9,.s (iA k))],uo:=fun _=>[],inv:=fun k=>k≤a.1.args.length,meas:=fun k=>a.1.args.length-k,x0:=0,cnt:=fun k=>some k }) ?_
 refine ai (ai (ai (by exact (a4 (ai rfl rfl))) (by exact (ai (ai (ai (fun _=>rfl) rfl) rfl) trivial))) rfl) (ai ?_ ?_)
 ·exact ah8 _
 intro (k:Nat) (hk:k≤a.1.args.length)
 refine bL (k<a.1.args.length) (fun h1=>?_) fun h1=>?_
 ·refine ai (ai (aaT _) (by show (k:Int)<(a.1.args.length:Int);omega)) ?_
  have hy:a.1.args.getD k bD∈a.1.args:=aay (aad h1)
  have hys:(a.1.args.getD k bD).size≤n:=by have:=iQ hy;have:=a.1.size_eq;omega
  refine ai rfl ?_
  refine cK (ih) ((a.1.args.getD k bD,a.2)) (by exact (ai (ai (iE (by simp only[zz,reduceCtorEq])) (ai (iE (by simp only[zz,reduceCtorEq])) (ai rfl (uX _)))) (ai rfl (fun _ _=>rfl)))) (ai ⟨((qH _ _).1 hg).2 _ hy,by show (a.1.args.getD k bD).size≤256;have:=iQ hy;have:=a.1.size_eq;omega,hv⟩ hys) ?_
  refine ai rfl (ei [bP (fO a.2 (a.1.args.getD k bD))] (ai ?_ (ai ?_ (ai ?_ ?_))))
  ·show (a.1.args.map fun y=>[bP (fO a.2 y)])[k]?=_
   rw[akE,aad h1];rfl
  ·exact (ai trivial rfl)
  ·refine ei (k+1) (ai (ai rfl rfl) (ai (ai ?_ ?_) (ai ?_ ?_)))
   ·exact (ai rfl (ai (ai rfl rfl) (ai (ai rfl rfl) (ai (ai (ai (fun _=>rfl) (aH (by omega))) rfl) trivial))))
   ·rfl
   ·show k+1≤a.1.args.length;omega
   ·show a.1.args.length-(k+1)<a.1.args.length-k;omega
  ·exact ai trivial trivial
 ·obtain rfl:k=a.1.args.length:=by omega
  refine ai trivial ?_
  show a.1.args.length=(a.1.args.map fun y=>[bP (fO a.2 y)]).length
  simp
def atr (n:Nat):Spec:=bq (fun b:(Ex×List Bool)×Bool=>[.p false (arL b.1),.p false (.pt [bP b.2] 0)]) (fun b=>aiu b.1∧b.1.1.size≤n+1) (fun b=>bP ((b.1.1.args.map (fO b.1.2)).all (·==b.2)))
theorem asy {l:List Bool} {v x:Bool} {k:Nat} (h:l[k]?=some x) (hx:x≠v):l.all (·==v)=false:=by
 rw[asa]
 exact ⟨x,aay h,by simpa using hx⟩
theorem ads (n:Nat) (ih:av Tryz.prog 180 (evN n)):av Tryz.prog 282 (atr n):=by
 refine vF Tryz.func282 ?_
 rintro (b:(Ex×List Bool)×Bool) hpre
 have hlen:∀w∈(af0 n).xs b.1,w.length=1:=fun w hw=>by obtain ⟨y,_,rfl⟩:=aum.1 hw;rfl
 refine ai (ai rfl rfl) (ei (af0 n) (ai (aoz n ih) (ei b.1 (ai ?_ (ai hpre (ai hlen (ei { X:=Nat,uo:=fun k=>[],inv:=fun k y=>y=k∧∀z∈(b.1.1.args.map (fO b.1.2)).take k,z=b.2,x0:=0 } (ai ?_ (ai ?_ (ai ?_ (ai ?_ ?_)))))))))))
 ·exact (ai (ai rfl rfl) (ai rfl rfl))
 ·exact (ai rfl (ai rfl (ai rfl rfl)))
 ·exact trivial
 ·exact ⟨rfl,by simp⟩
 ·rintro k (y:Nat) vs ⟨hy,hall⟩ hvs
  subst hy
  have hvs:(b.1.1.args.map fun y=>[bP (fO b.1.2 y)])[y]?=some vs:=hvs
  rw[akE] at hvs
  cases hc:b.1.1.args[y]? with
  | none=>rw[hc] at hvs;cases hvs
  | some c=>
   rw[hc] at hvs
   simp only[aom,Option.some.injEq] at hvs
   subst hvs
   have hg:(b.1.1.args.map (fO b.1.2))[y]?=some (fO b.1.2 c):=by rw[akE,hc];rfl
   refine aW (p:=fO b.1.2 c=b.2) (by exact (arX.1 rfl).trans bne_iff_ne) (fun h3=>?_) (fun h3=>?_)
   ·refine eN (bP ((b.1.1.args.map (fO b.1.2)).all (·==b.2))) ?_
    rw[asy hg h3]
    exact rfl
   refine ei (y+1) (ai rfl (ai (ai (ai rfl rfl) (ai (ai rfl rfl) ?_)) ⟨rfl,?_⟩))
   ·exact trivial
   ·intro w hw
    rw[axB,hg] at hw
    rcases acw.1 hw with hw | hw
    ·exact hall w hw
    ·simp at hw;subst hw;exact h3
 ·rintro (y:Nat) ⟨hy,hall⟩
  have hl:((af0 n).xs b.1).length=(b.1.1.args.map (fO b.1.2)).length:=(aeu _).trans (aeu _).symm
  rw[hl] at hy hall
  subst hy
  rw[acr] at hall
  refine eN (bP ((b.1.1.args.map (fO b.1.2)).all (·==b.2))) ?_
  rw[alQ.2 (fun z hz=>by simp[hall z hz])]
  exact rfl
def atu (n:Nat):Spec:=bq (fun b:Ex×List Bool=>[.p false (arL b)]) (fun b=>aiu b∧b.1.size≤n+1) (fun b=>bP (!(b.1.args.map (fO b.2)).all (·==false)))
theorem aoE (n:Nat) (ih:av Tryz.prog 180 (evN n)):av Tryz.prog 265 (atu n):=by
 refine vF Tryz.func265 ?_
 rintro (b:Ex×List Bool) hpre
 refine cK (aew) (false) (by exact rfl) (trivial) ?_
 refine cK (ads n ih) ((b,false)) (by exact (ai (ai rfl rfl) (ai rfl rfl))) (hpre) ?_
 refine eN _ ?_
 exact rfl
theorem uP {x:Ex} {n:Int} (h:aJ x n=0):(0≤x.op∧x.op<5)∧(yT x.op≤x.args.length∧x.args.length≤abD x.op)∧(0≤x.idx∧x.idx≤uK x.op n):=by
 unfold aJ at h
 split at h
 ·exact absurd h (by decide)
 ·split at h
  ·exact absurd h (by decide)
  ·split at h
   ·exact absurd h (by decide)
   ·omega
theorem aoj:∀n,av Tryz.prog 180 (evN n)
 | 0=>by
  refine vI [3000024] Tryz.func180 ?_
  rintro (a:Ex×List Bool) hpre
  have:=size_pos a.1
  exact absurd hpre.2 (by show ¬a.1.size≤0;omega)
 | n+1=>by
  have ih:=aoj n
  refine vI [3000024] Tryz.func180 ?_
  rintro (a:Ex×List Bool) hpre
  obtain ⟨hev,hn⟩:=hpre
  have hg:jV a.2.length a.1:=hev.1
  obtain ⟨hn0,-⟩:=(qH _ _).1 hg
  obtain ⟨ho,-,hi⟩:=uP hn0
  have hA:fO a.2 a.1=if a.1.op=0 then decide (a.1.idx=1) else if a.1.op=1 then a.2.getD a.1.idx.toNat false else if a.1.op=2 then (a.1.args.map (fO a.2)).all (·==false) else if a.1.op=3 then (a.1.args.map (fO a.2)).all (·==true) else !(a.1.args.map (fO a.2)).all (·==false):=by
   obtain ⟨⟨o,i,l⟩,vs⟩:=a;exact atK vs o i l
  refine bE (a.1.op=0) (fun h0=>?_) fun h0=>?_
  ·refine eN (bP (fO a.2 a.1)) ?_
   rw[hA,if_pos h0]
   exact rfl
  rw[if_neg h0] at hA
  refine bE (a.1.op=1) (fun h1=>?_) fun h1=>?_
  ·have ht:uK a.1.op a.2.length=a.2.length-1:=by rw[h1];rfl
   rw[ht] at hi
   refine ai (ai hi.1 (by show a.1.idx<(a.2.length:Int);omega)) ?_
   refine ai rfl ?_
   refine eN (bP (fO a.2 a.1)) ?_
   rw[hA,if_pos h1]
   exact rfl
  rw[if_neg h1] at hA
  obtain ⟨⟨o,i,l⟩,vs⟩:=a
  have hA:fO vs (.node o i l)=if o=2 then (l.map (fO vs)).all (·==false) else if o=3 then (l.map (fO vs)).all (·==true) else !(l.map (fO vs)).all (·==false):=hA
  have ho2:o=2∨o=3∨o=4:=by
   have h0:¬o=0:=h0
   have h1:¬o=1:=h1
   have ho:0≤o∧o<5:=ho
   omega
  refine dR (.seq [1,2,5,0,3,4,6,7]) ?_
  rcases ho2 with rfl | rfl | rfl
  ·refine cK (jJ) (()) (by exact trivial) (trivial) ?_
   refine ai ho ?_
   refine cK (ads n ih) (((.node 2 i l,vs),false)) (by exact (ai (ai rfl rfl) (ai rfl rfl))) (ai hev hn) ?_
   refine eN (bP (fO vs (.node 2 i l))) ?_
   rw[hA,if_pos rfl]
   exact rfl
  ·refine cK (jJ) (()) (by exact trivial) (trivial) ?_
   refine ai ho ?_
   refine cK (ads n ih) (((.node 3 i l,vs),true)) (by exact (ai (ai rfl rfl) (ai rfl rfl))) (ai hev hn) ?_
   refine eN (bP (fO vs (.node 3 i l))) ?_
   rw[hA,if_neg (show ¬(3:Int)=2 by decide),if_pos rfl]
   exact rfl
  ·refine cK (jJ) (()) (by exact trivial) (trivial) ?_
   refine ai ho ?_
   refine cK (aoE n ih) ((.node 4 i l,vs)) (by exact (ai rfl rfl)) (ai hev hn) ?_
   refine eN (bP (fO vs (.node 4 i l))) ?_
   rw[hA,if_neg (show ¬(4:Int)=2 by decide),if_neg (show ¬(4:Int)=3 by decide)]
   exact rfl
theorem atj:av Tryz.prog 180 evS:=lV (fun a=>a.1.size) aoj
def d9 (x:Ex) (vs:List Bool):Bool×Int:=if bf x vs.length=0 then (fO vs x,0) else (false,bf x vs.length)
def awo:Spec:=bq (fun a:Ex×List Bool=>[iV a.1,rY a.2]) (fun a=>a.1.size≤1000000) (fun a=>.tup [bP (d9 a.1 a.2).1,iP (d9 a.1 a.2).2])
theorem vT:av Tryz.prog 122 awo:=by
 refine vF Tryz.func122 ?_
 rintro (a:Ex×List Bool) hpre
 refine cK (qz) ((a.1,(a.2.length:Int))) (by exact (ai (ai rfl (ai rfl (ai rfl (fun _ _=>rfl)))) rfl)) (hpre) ?_
 refine aW (p:=bf a.1 a.2.length=0) (bR (by dsimp only;omega)) (fun h1=>?_) (fun h1=>?_)
 ·have e:d9 a.1 a.2=(false,bf a.1 a.2.length):=if_neg h1
  refine eN (.tup [bP (d9 a.1 a.2).1,iP (d9 a.1 a.2).2]) ?_
  rw[e]
  exact (ai rfl rfl)
 have e:d9 a.1 a.2=(fO a.2 a.1,0):=if_pos h1
 obtain ⟨h2,h3,h4⟩:=eG.1 h1
 refine cK (atj) (a) (by exact (ai (ai rfl (ai rfl (ai rfl (fun _ _=>rfl)))) (ai rfl (fun _ _=>rfl)))) (⟨h4,h3.1,by omega⟩) ?_
 refine eN (.tup [bP (d9 a.1 a.2).1,iP (d9 a.1 a.2).2]) ?_
 rw[e]
 exact (ai rfl rfl)
theorem qA:∀(a b:List Ex),sizes (a++b)=sizes a+sizes b
 | [],b=>by rw[sizes,List.nil_append];omega
 | x :: a,b=>by rw[List.cons_append,sizes,sizes,qA a b];omega
theorem afS {l:List Ex} {k:Nat} (h:k<l.length):sizes (l.take (k+1))=sizes (l.take k)+(l.getD k bD).size:=by
 rw[aO bD h,qA];show _+(_+sizes [])=_;rw[sizes];rfl
theorem am8 (l:List Ex) (k:Nat):sizes (l.take k)≤sizes l:=by
 conv=>rhs;rw[←axu k l,qA]
 omega
def ajj:Spec:=bq (fun a:Ex×Nat=>[iV a.1,iA a.2]) (fun a=>a.2≤1000000) (fun a=>iP (min a.1.size (a.2+1):Nat))
def avz (n:Nat):Spec:={ ajj with pre:=fun a=>ajj.pre a∧a.1.size≤n }
theorem amg:∀n,av Tryz.prog 142 (avz n)
 | 0=>by
  refine vF Tryz.func142 ?_
  rintro (a:Ex×Nat) hpre
  have:=size_pos a.1
  exact absurd hpre.2 (by show ¬a.1.size≤0;omega)
 | n+1=>by
  have ih:=amg n
  refine vF Tryz.func142 ?_
  rintro (a:Ex×Nat) hpre
  obtain ⟨hm,hn⟩:=hpre
  have hm:a.2≤1000000:=hm
  have hn:a.1.size≤n+1:=hn
  have hsz:=a.1.size_eq
  refine ei (mD.inv { X:=Nat,up:=fun k=>[(6,.s (iA k)),(5,.s (iA (min (1+sizes (a.1.args.take k)) (a.2+1):Nat)))],uo:=fun _=>[],inv:=fun k=>k≤a.1.args.length∧k≤sizes (a.1.args.take k)∧k≤a.2,meas:=fun k=>a.2-k,x0:=0 }) ?_
  refine ai (ai (ai (by exact (a4 (ai rfl rfl))) (ai ?_ ?_)) ?_) (ai ?_ ?_)
  ·exact (ai (ai (ai (fun _=>rfl) (iE (by simp only[zz,reduceCtorEq];rfl))) rfl) (ai (ai (fun _=>rfl) (iE (by simp only[zz,reduceCtorEq];rfl))) rfl))
  ·exact trivial
  ·exact rfl
  ·exact ⟨ah8 _,ah8 _,ah8 _⟩
  rintro (k:Nat) ⟨hk1,hk2,hk3⟩
  refine bL (k<a.1.args.length) (fun h1=>?_) fun h1=>?_
  ·refine ah (p:=1+sizes (a.1.args.take k)≤a.2) (by exact fV (by show ((min (1+sizes (a.1.args.take k)) (a.2+1):Nat):Int)≤(a.2:Int)↔_;omega)) (fun h2=>?_) (fun h2=>?_)
   ·refine ai (ai (aaT _) (by show (k:Int)<(a.1.args.length:Int);omega)) ?_
    refine ai rfl ?_
    have e1:min (1+sizes (a.1.args.take k)) (a.2+1)=1+sizes (a.1.args.take k):=by omega
    have hw:IntKind.i64.wrap ((a.2:Int)-((min (1+sizes (a.1.args.take k)) (a.2+1):Nat):Int))=((a.2-(1+sizes (a.1.args.take k)):Nat):Int):=by
     rw[e1,jT (by omega) (by omega)];omega
    have hy:a.1.args.getD k bD∈a.1.args:=aay (aad h1)
    have hys:(a.1.args.getD k bD).size≤n:=by have:=iQ hy;omega
    refine cK (ih) ((a.1.args.getD k bD,a.2-(1+sizes (a.1.args.take k)))) (by exact (ai (ai (iE (by simp only[zz,reduceCtorEq])) (ai (iE (by simp only[zz,reduceCtorEq])) (ai rfl (uX _)))) (iE (by simp only[zz,reduceCtorEq];omega)))) (ai (by show a.2-(1+sizes (a.1.args.take k))≤1000000;omega) hys) ?_
    refine ei ((k+1)) (ai (ai rfl rfl) (ai (ai ?_ ?_) (ai ?_ ?_)))
    ·refine (ai rfl (ai (ai rfl rfl) (ai (ai rfl rfl) (ai (ai (ai (ai (fun _=>rfl) (aH (by omega))) rfl) (ai (ai (fun _=>rfl) ?_) rfl)) trivial))))
     show IntKind.i64.wrap (((min (1+sizes (a.1.args.take k)) (a.2+1):Nat):Int)+((min (a.1.args.getD k bD).size (a.2-(1+sizes (a.1.args.take k))+1):Nat):Int))=_
     rw[jT (by omega) (by omega),afS h1];omega
    ·exact rfl
    ·have:=size_pos (a.1.args.getD k bD)
     exact ⟨h1,by rw[afS h1];omega,by omega⟩
    ·show a.2-(k+1)<a.2-k;omega
   ·have:=am8 a.1.args k
    refine eN (iP (min a.1.size (a.2+1):Nat)) ?_
    rw[show min a.1.size (a.2+1)=min (1+sizes (a.1.args.take k)) (a.2+1) by omega]
    exact rfl
  ·obtain rfl:k=a.1.args.length:=by omega
   rw[acr] at hk2
   refine eN (iP (min a.1.size (a.2+1):Nat)) ?_
   rw[show min a.1.size (a.2+1)=min (1+sizes (a.1.args.take a.1.args.length)) (a.2+1) by rw[acr];omega]
   exact rfl
theorem akA:av Tryz.prog 142 ajj:=lV (fun a=>a.1.size) amg
def ang:Spec:=bq (fun a:Ex×Int=>[iV a.1,iA a.2]) (fun a=>a.2≤1000000∧a.1.size≤1000000) (fun a=>bP (decide ((a.1.deep:Int)≤a.2)))
def awq (n:Nat):Spec:={ ang with pre:=fun a=>ang.pre a∧a.1.size≤n }
theorem arG {l:List Ex} {m:Nat} (h:∀x∈l,x.deep≤m):gL l≤m:=by
 induction l with
 | nil=>rw[gL];omega
 | cons x l ih=>
  rw[gL]
  have:=h x (by simp)
  have:=ih fun y hy=>h y (by simp[hy])
  omega
theorem aru (x:Ex):decide ((x.deep:Int)≤1)=((x.args.length:Int)==0):=by
 have hde:=x.yg
 cases hl:x.args with
 | nil=>rw[hl,gL] at hde;rw[hde];rfl
 | cons y l=>
  rw[hl,gL] at hde
  have:=ajA y
  rw[decide_eq_false (by omega)]
  symm;rw[beq_eq_false_iff_ne];simp;omega
theorem aph:∀n,av Tryz.prog 143 (awq n)
 | 0=>by
  refine vF Tryz.func143 ?_
  rintro (a:Ex×Int) hpre
  have:=size_pos a.1
  exact absurd hpre.2 (by show ¬a.1.size≤0;omega)
 | n+1=>by
  have ih:=aph n
  refine vF Tryz.func143 ?_
  rintro (a:Ex×Int) hpre
  obtain ⟨hm,hn⟩:=hpre
  have hm1:a.2≤1000000:=hm.1
  have hm2:a.1.size≤1000000:=hm.2
  have hn:a.1.size≤n+1:=hn
  have hsz:=a.1.size_eq
  have hde:=a.1.yg
  refine bL (a.2<1) (fun h1=>?_) fun h1=>?_
  ·refine eN (bP (decide ((a.1.deep:Int)≤a.2))) ?_
   rw[show decide ((a.1.deep:Int)≤a.2)=false from decide_eq_false (by omega)]
   exact rfl
  refine bE (a.2=1) (fun h2=>?_) fun h2=>?_
  ·refine eN (bP (decide ((a.1.deep:Int)≤a.2))) ?_
   rw[show decide ((a.1.deep:Int)≤a.2)=((a.1.args.length:Int)==0) by rw[h2];exact aru a.1]
   exact rfl
  have hal:=yU a.1
  refine fR (a.1.args.length) (fun k=>[(5,.s (iA k))]) (fun k=>[]) (fun k=>∀y∈a.1.args.take k,(y.deep:Int)≤a.2-1) (by exact (ai (ai (fun _=>rfl) (iE (by omega))) rfl)) (by exact trivial) ?_ ?_
  ·exact fun y hy=>absurd hy (by simp)
  intro (k:Nat) ⟨hk,hall⟩
  refine bL (k<a.1.args.length) (fun h3=>?_) fun h3=>?_
  ·refine iX (k) (a.1.args.length) ?_
   have hy:a.1.args.getD k bD∈a.1.args:=aay (aad h3)
   have hms:=iQ hy
   have hys:(a.1.args.getD k bD).size≤n:=by omega
   have hw:IntKind.i64.wrap (a.2-1)=a.2-1:=jT (by omega) (by omega)
   refine cK (ih) ((a.1.args.getD k bD,a.2-1)) (by exact (ai (ai (iE (by simp only[zz,reduceCtorEq])) (ai (iE (by simp only[zz,reduceCtorEq])) (ai rfl (uX _)))) (iE (by simp only[zz,reduceCtorEq];omega)))) (ai ⟨by show a.2-1≤1000000;omega,by show (a.1.args.getD k bD).size≤1000000;omega⟩ hys) ?_
   refine aW (p:=((a.1.args.getD k bD).deep:Int)≤a.2-1) (by exact Iff.trans (by show (!decide ((a.1.args.getD k bD).deep≤a.2-1))=true↔_;simp) Iff.rfl) (fun h4=>?_) (fun h4=>?_)
   ·have:=abZ hy
    refine eN (bP (decide ((a.1.deep:Int)≤a.2))) ?_
    rw[show decide ((a.1.deep:Int)≤a.2)=false from decide_eq_false (by omega)]
    exact rfl
   refine nX (k) (ai (ai (fun _=>rfl) (aH (by omega))) rfl) trivial ?_
   intro y hy
   rw[aO bD h3] at hy
   rcases acw.1 hy with hy | hy
   ·exact hall y hy
   ·simp only[acC] at hy;subst hy;exact h4
  ·obtain rfl:k=a.1.args.length:=by omega
   rw[acr] at hall
   have:gL a.1.args≤(a.2-1).toNat:=arG fun y hy=>by have:=hall y hy;omega
   refine eN (bP (decide ((a.1.deep:Int)≤a.2))) ?_
   rw[show decide ((a.1.deep:Int)≤a.2)=true from decide_eq_true (by omega)]
   exact rfl
theorem aly:av Tryz.prog 143 ang:=lV (fun a=>a.1.size) aph
def eO (x:Ex):Bool:=decide (x.size≤256)&&decide (x.deep≤16)
theorem jy {x:Ex}:eO x=true↔x.size≤256∧x.deep≤16:=by unfold eO;simp
def avN:Spec:=bq (fun x:Ex=>[iV x]) (fun x=>True) (fun x=>bP (eO x))
theorem aeW:av Tryz.prog 166 avN:=by
 refine vF Tryz.func166 ?_
 rintro (x:Ex) hpre
 refine cK (akA) ((x,256)) (by exact (ai (ai rfl (ai rfl (ai rfl (fun _ _=>rfl)))) (iE (by simp only[zz,reduceCtorEq];rfl)))) ((by show 256≤1000000;omega)) ?_
 refine ah (p:=x.size≤256) (by exact fV (by show ((min x.size (256+1):Nat):Int)≤256↔_;omega)) (fun h1=>?_) (fun h1=>?_)
 ·refine cK (aly) ((x,16)) (by exact (ai (ai rfl (ai rfl (ai rfl (fun _ _=>rfl)))) rfl)) (⟨by show (16:Int)≤1000000;omega,by show x.size≤1000000;omega⟩) ?_
  refine eN (bP (eO x)) ?_
  rw[show eO x=decide ((x.deep:Int)≤16) by unfold eO;rw[decide_eq_true h1,ac9];exact decide_eq_decide.2 (by omega)]
  exact rfl
 ·refine eN (bP (eO x)) ?_
  rw[show eO x=false by unfold eO;rw[decide_eq_false h1];rfl]
  exact rfl
def au1:Spec:=bq (fun y:Ex×Int=>[iV y.1,iA y.2]) (fun y=>y.1.args.length≤256) (fun y=>iP (aJ y.1 y.2))
theorem arp {x:Ex} {n:Int} (h0:¬x.op<0) (h1:¬5≤x.op):aJ x n=if x.args.length<yT x.op∨abD x.op<x.args.length then 3 else if x.idx<0∨uK x.op n<x.idx then 2 else 0:=by
 unfold aJ;rw[if_neg (by omega)]
theorem ap2:av Tryz.prog 223 au1:=by
 refine vF Tryz.func223 ?_
 rintro ⟨⟨o,i,l⟩,n⟩ hpre
 have hl:l.length≤256:=hpre
 refine ah (p:=o<0) (aB Iff.rfl) (fun h1=>?_) (fun h1=>?_)
 ·refine eN (iP (aJ (.node o i l) n)) ?_
  rw[aJ,if_pos (.inl h1)]
  exact rfl
 refine ah (p:=5≤o) (fV Iff.rfl) (fun h2=>?_) (fun h2=>?_)
 ·refine eN (iP (aJ (.node o i l) n)) ?_
  rw[aJ,if_pos (.inr h2)]
  exact rfl
 have hA:aJ (.node o i l) n=if l.length<yT o∨abD o<l.length then 3 else if i<0∨uK o n<i then 2 else 0:=arp h1 h2
 have ho:o=0∨o=1∨o=2∨o=3∨o=4:=by omega
 rcases ho with rfl | rfl | rfl | rfl | rfl
 ·have hA:aJ (.node 0 i l) n=if l.length<0∨0<l.length then 3 else if i<0∨1<i then 2 else 0:=hA
  refine aW (p:=l.length=0) (bR (by dsimp only;omega)) (fun h3=>?_) (fun h3=>?_)
  ·refine eN (iP (aJ (.node 0 i l) n)) ?_
   rw[hA,if_pos (show l.length<0∨0<l.length by omega)]
   exact rfl
  rw[if_neg (show ¬(l.length<0∨0<l.length) by omega)] at hA
  refine ah (p:=i<0) (aB Iff.rfl) (fun h5=>?_) (fun h5=>?_)
  ·refine eN (iP (aJ (.node 0 i l) n)) ?_
   rw[hA,if_pos (.inl h5)]
   exact rfl
  refine ah (p:=2≤i) (fV Iff.rfl) (fun h6=>?_) (fun h6=>?_)
  ·refine eN (iP (aJ (.node 0 i l) n)) ?_
   rw[hA,if_pos (.inr (by omega))]
   exact rfl
  ·refine eN (iP (aJ (.node 0 i l) n)) ?_
   rw[hA,if_neg (show ¬(i<0∨1<i) by omega)]
   exact rfl
 ·have hA:aJ (.node 1 i l) n=if l.length<0∨0<l.length then 3 else if i<0∨(n-1)<i then 2 else 0:=hA
  refine aW (p:=l.length=0) (bR (by dsimp only;omega)) (fun h3=>?_) (fun h3=>?_)
  ·refine eN (iP (aJ (.node 1 i l) n)) ?_
   rw[hA,if_pos (show l.length<0∨0<l.length by omega)]
   exact rfl
  rw[if_neg (show ¬(l.length<0∨0<l.length) by omega)] at hA
  refine ah (p:=i<0) (aB Iff.rfl) (fun h5=>?_) (fun h5=>?_)
  ·refine eN (iP (aJ (.node 1 i l) n)) ?_
   rw[hA,if_pos (.inl h5)]
   exact rfl
  refine ah (p:=n≤i) (fV Iff.rfl) (fun h6=>?_) (fun h6=>?_)
  ·refine eN (iP (aJ (.node 1 i l) n)) ?_
   rw[hA,if_pos (.inr (by omega))]
   exact rfl
  ·refine eN (iP (aJ (.node 1 i l) n)) ?_
   rw[hA,if_neg (show ¬(i<0∨(n-1)<i) by omega)]
   exact rfl
 ·have hA:aJ (.node 2 i l) n=if l.length<1∨1<l.length then 3 else if i<0∨0<i then 2 else 0:=hA
  refine aW (p:=l.length=1) (bR (by dsimp only;omega)) (fun h3=>?_) (fun h3=>?_)
  ·refine eN (iP (aJ (.node 2 i l) n)) ?_
   rw[hA,if_pos (show l.length<1∨1<l.length by omega)]
   exact rfl
  rw[if_neg (show ¬(l.length<1∨1<l.length) by omega)] at hA
  refine ah (p:=i<0) (aB Iff.rfl) (fun h5=>?_) (fun h5=>?_)
  ·refine eN (iP (aJ (.node 2 i l) n)) ?_
   rw[hA,if_pos (.inl h5)]
   exact rfl
  refine ah (p:=1≤i) (fV Iff.rfl) (fun h6=>?_) (fun h6=>?_)
  ·refine eN (iP (aJ (.node 2 i l) n)) ?_
   rw[hA,if_pos (.inr (by omega))]
   exact rfl
  ·refine eN (iP (aJ (.node 2 i l) n)) ?_
   rw[hA,if_neg (show ¬(i<0∨0<i) by omega)]
   exact rfl
 ·have hA:aJ (.node 3 i l) n=if l.length<2∨256<l.length then 3 else if i<0∨0<i then 2 else 0:=hA
  refine ah (p:=l.length<2) (aB (by dsimp only;omega)) (fun h3=>?_) (fun h3=>?_)
  ·refine eN (iP (aJ (.node 3 i l) n)) ?_
   rw[hA,if_pos (show l.length<2∨256<l.length by omega)]
   exact rfl
  rw[if_neg (show ¬(l.length<2∨256<l.length) by omega)] at hA
  refine ah (p:=i<0) (aB Iff.rfl) (fun h5=>?_) (fun h5=>?_)
  ·refine eN (iP (aJ (.node 3 i l) n)) ?_
   rw[hA,if_pos (.inl h5)]
   exact rfl
  refine ah (p:=1≤i) (fV Iff.rfl) (fun h6=>?_) (fun h6=>?_)
  ·refine eN (iP (aJ (.node 3 i l) n)) ?_
   rw[hA,if_pos (.inr (by omega))]
   exact rfl
  ·refine eN (iP (aJ (.node 3 i l) n)) ?_
   rw[hA,if_neg (show ¬(i<0∨0<i) by omega)]
   exact rfl
 ·have hA:aJ (.node 4 i l) n=if l.length<2∨256<l.length then 3 else if i<0∨0<i then 2 else 0:=hA
  refine ah (p:=l.length<2) (aB (by dsimp only;omega)) (fun h3=>?_) (fun h3=>?_)
  ·refine eN (iP (aJ (.node 4 i l) n)) ?_
   rw[hA,if_pos (show l.length<2∨256<l.length by omega)]
   exact rfl
  rw[if_neg (show ¬(l.length<2∨256<l.length) by omega)] at hA
  refine ah (p:=i<0) (aB Iff.rfl) (fun h5=>?_) (fun h5=>?_)
  ·refine eN (iP (aJ (.node 4 i l) n)) ?_
   rw[hA,if_pos (.inl h5)]
   exact rfl
  refine ah (p:=1≤i) (fV Iff.rfl) (fun h6=>?_) (fun h6=>?_)
  ·refine eN (iP (aJ (.node 4 i l) n)) ?_
   rw[hA,if_pos (.inr (by omega))]
   exact rfl
  ·refine eN (iP (aJ (.node 4 i l) n)) ?_
   rw[hA,if_neg (show ¬(i<0∨0<i) by omega)]
   exact rfl
theorem wX (a b:List (Nat×Ex)) (n:Int):fu (a++b) n=if fu a n=0 then fu b n else fu a n:=by
 by_cases h:fu a n=0
 ·rw[if_pos h]
  have h0:=agp.1 h
  unfold fu
  rw[anN,List.find?_append,ax1.2]
  ·rfl
  ·intro y hy
   obtain ⟨z,hz,rfl⟩:=aum.1 hy
   simp[h0 z hz]
 ·rw[if_neg h]
  unfold fu at h ⊢
  rw[anN,List.find?_append]
  cases hc:(a.map fun y=>aJ y.2 n).find? (fun e=>e != 0) with
  | none=>rw[hc] at h;exact absurd rfl h
  | some e=>rfl
theorem ak9 (d:Nat) (x:Ex) (l:List (Nat×Ex)) (n:Int):fu ((d,x) :: l) n=if aJ x n=0 then fu l n else aJ x n:=by
 have:fu [(d,x)] n=aJ x n:=by
  by_cases h:aJ x n=0
  ·rw[h];exact aaF (by simpa using h)
  ·exact aia (k:=0) (by simp) rfl h
 rw[show (d,x) :: l=[(d,x)]++l from rfl,wX,this]
def ajy:Spec:=bq (fun a:Ex×Int×Nat=>[iV a.1,iA a.2.1]) (fun a=>a.1.deep+a.2.2≤17∧a.1.size≤256) (fun a=>iP (fu (dH a.2.2 a.1) a.2.1))
def auG (n:Nat):Spec:={ ajy with pre:=fun a=>ajy.pre a∧a.1.size≤n }
theorem aln:∀n,av Tryz.prog 173 (auG n)
 | 0=>by
  refine vF Tryz.func173 ?_
  rintro (a:Ex×Int×Nat) hpre
  have:=size_pos a.1
  exact absurd hpre.2 (by show ¬a.1.size≤0;omega)
 | n+1=>by
  have ih:=aln n
  refine vF Tryz.func173 ?_
  rintro (a:Ex×Int×Nat) hpre
  obtain ⟨hm,hn⟩:=hpre
  have hm1:a.1.deep+a.2.2≤17:=hm.1
  have hm2:a.1.size≤256:=hm.2
  have hn:a.1.size≤n+1:=hn
  have hsz:=a.1.size_eq
  have hde:=a.1.yg
  have hal:=yU a.1
  have hdd:a.2.2≤16:=by omega
  have hA:fu (dH a.2.2 a.1) a.2.1=if aJ a.1 a.2.1=0 then fu (jc a.2.2 a.1.args) a.2.1 else aJ a.1 a.2.1:=by rw[aeS,ak9]
  refine cK (ap2) ((a.1,a.2.1)) (by exact (ai (ai rfl (ai rfl (ai rfl (fun _ _=>rfl)))) rfl)) ((by show a.1.args.length≤256;omega)) ?_
  refine aW (p:=aJ a.1 a.2.1=0) (bR (by dsimp only;omega)) (fun h1=>?_) (fun h1=>?_)
  ·refine eN (iP (fu (dH a.2.2 a.1) a.2.1)) ?_
   rw[hA,if_neg h1]
   exact rfl
  rw[if_pos h1] at hA
  refine fR (a.1.args.length) (fun k=>[(6,.s (iA k))]) (fun k=>[]) (fun k=>fu (jc a.2.2 (a.1.args.take k)) a.2.1=0) (by exact (ai (ai (fun _=>rfl) (iE (by omega))) rfl)) (by exact trivial) ?_ ?_
  ·rw[List.take_zero];unfold jc;rw[if_pos hdd,iw];rfl
  intro (k:Nat) ⟨hk,hall⟩
  refine bL (k<a.1.args.length) (fun h3=>?_) fun h3=>?_
  ·refine iX (k) (a.1.args.length) ?_
   have hy:a.1.args.getD k bD∈a.1.args:=aay (aad h3)
   have hms:=iQ hy
   have hmd:=abZ hy
   have hys:(a.1.args.getD k bD).size≤n:=by omega
   have hsn:fu (jc a.2.2 (a.1.args.take (k+1))) a.2.1=fu (dH (a.2.2+1) (a.1.args.getD k bD)) a.2.1:=by
    rw[ahM hdd (aad h3),wX,if_pos hall]
   refine cK (ih) ((a.1.args.getD k bD,a.2.1,a.2.2+1)) (by exact (ai (ai (iE (by simp only[zz,reduceCtorEq])) (ai (iE (by simp only[zz,reduceCtorEq])) (ai rfl (uX _)))) rfl)) (ai ⟨by show (a.1.args.getD k bD).deep+(a.2.2+1)≤17;omega,by show (a.1.args.getD k bD).size≤256;omega⟩ hys) ?_
   refine aW (p:=fu (dH (a.2.2+1) (a.1.args.getD k bD)) a.2.1=0) (bR (by dsimp only;omega)) (fun h4=>?_) (fun h4=>?_)
   ·have hs:jc a.2.2 a.1.args=jc a.2.2 (a.1.args.take (k+1))++jc a.2.2 (a.1.args.drop (k+1)):=by
     unfold jc;rw[if_pos hdd,if_pos hdd,if_pos hdd,←uD,axu]
    refine eN (iP (fu (dH a.2.2 a.1) a.2.1)) ?_
    rw[hA,hs,wX,hsn,if_neg h4]
    exact rfl
   refine nX (k) (ai (ai (fun _=>rfl) (aH (by omega))) rfl) trivial (iE (by omega))
  ·obtain rfl:k=a.1.args.length:=by omega
   rw[acr] at hall
   refine eN (iP (fu (dH a.2.2 a.1) a.2.1)) ?_
   rw[hA,hall]
   exact rfl
theorem aqv:av Tryz.prog 173 ajy:=lV (fun a=>a.1.size) aln
def atm:Spec:=bq (fun y:Ex×Int=>[iV y.1,iA y.2]) (fun y=>True) (fun y=>iP (bf y.1 y.2))
theorem ac5:av Tryz.prog 116 atm:=by
 refine vF Tryz.func116 ?_
 rintro (y:Ex×Int) hpre
 refine bL (y.2<0) (fun h1=>?_) fun h1=>?_
 ·refine eN (iP (bf y.1 y.2)) ?_
  rw[bf,if_pos (.inl h1)]
  exact rfl
 refine bL (256<y.2) (fun h2=>?_) fun h2=>?_
 ·refine eN (iP (bf y.1 y.2)) ?_
  rw[bf,if_pos (.inr h2)]
  exact rfl
 have hA:bf y.1 y.2=if y.1.size≤256∧y.1.deep≤16 then fu (dH 1 y.1) y.2 else 5:=by
  unfold bf;rw[if_neg (fun h=>h.elim h1 h2)]
 refine cK (aeW) (y.1) (by exact (ai rfl (ai rfl (ai rfl (fun _ _=>rfl))))) (trivial) ?_
 refine aC (b:=!eO y.1) rfl (fun h3=>?_) (fun h3=>?_)
 ·have h3:¬(y.1.size≤256∧y.1.deep≤16):=fun h=>by rw[jy.2 h] at h3;exact absurd h3 (by decide)
  refine eN (iP (bf y.1 y.2)) ?_
  rw[hA,if_neg h3]
  exact rfl
 have h3:y.1.size≤256∧y.1.deep≤16:=jy.1 (by simpa using h3)
 refine cK (aqv) ((y.1,y.2,1)) (by exact (ai (ai rfl (ai rfl (ai rfl (fun _ _=>rfl)))) rfl)) (⟨by show y.1.deep+1≤17;omega,h3.1⟩) ?_
 refine eN (iP (bf y.1 y.2)) ?_
 rw[hA,if_pos h3]
 exact rfl
def oK (x:Ex):Bool:=decide (x.size≤40)||(decide (256<x.size)&&decide (x.size≤512)&&decide (x.deep≤40))
theorem aoK {x:Ex} (h:oK x=true):x.size≤512:=by
 unfold oK at h;simp at h;omega
def axf:Spec:=bq (fun x:Ex=>[iV x]) (fun x=>True) (fun x=>bP (oK x))
theorem au7:av Tryz.prog 88 axf:=by
 refine vF Tryz.func88 ?_
 rintro (x:Ex) hpre
 refine cK (akA) ((x,512)) (by exact (ai (ai rfl (ai rfl (ai rfl (fun _ _=>rfl)))) (iE (by simp only[zz,reduceCtorEq];rfl)))) ((by show 512≤1000000;omega)) ?_
 refine ah (p:=x.size≤40) (by exact fV (by show ((min x.size (512+1):Nat):Int)≤40↔_;omega)) (fun h1=>?_) (fun h1=>?_)
 ·refine eN (bP (oK x)) ?_
  rw[show oK x=true by unfold oK;rw[decide_eq_true h1];rfl]
  exact rfl
 refine ah (p:=256<x.size) (by exact aB (by show (256:Int)<((min x.size (512+1):Nat):Int)↔_;omega)) (fun h2=>?_) (fun h2=>?_)
 ·refine ah (p:=x.size≤512) (by exact fV (by show ((min x.size (512+1):Nat):Int)≤512↔_;omega)) (fun h3=>?_) (fun h3=>?_)
  ·refine cK (aly) ((x,40)) (by exact (ai (ai rfl (ai rfl (ai rfl (fun _ _=>rfl)))) rfl)) (⟨by show (40:Int)≤1000000;omega,by show x.size≤1000000;omega⟩) ?_
   refine eN (bP (oK x)) ?_
   rw[show oK x=decide ((x.deep:Int)≤40) by unfold oK;rw[decide_eq_false h1,decide_eq_true h2,decide_eq_true h3,arK,ac9,ac9];exact decide_eq_decide.2 (by omega)]
   exact rfl
  ·refine eN (bP (oK x)) ?_
   rw[show oK x=false by unfold oK;rw[decide_eq_false h1,decide_eq_false h3];simp]
   exact rfl
 ·refine eN (bP (oK x)) ?_
  rw[show oK x=false by unfold oK;rw[decide_eq_false h1,decide_eq_false h2];simp]
  exact rfl
noncomputable def eqE (x y:Ex):Bool:=@decide (x=y) (Classical.propDecidable _)
theorem adY {x y:Ex}:eqE x y=true↔x=y:=by unfold eqE;simp
theorem afG {x y:Ex} (h:x≠y):eqE x y=false:=by cases hc:eqE x y with | false=>rfl | true=>exact absurd (adY.1 hc) h
theorem aq0 {l m:List Ex} {k:Nat} (h1:k<l.length) (h2:k<m.length) (h:l.take k=m.take k) (e:l.getD k bD=m.getD k bD):l.take (k+1)=m.take (k+1):=by
 rw[aO bD h1,aO bD h2,h,e]
noncomputable def equalS:Spec:=bq (fun a:Ex×Ex=>[iV a.1,iV a.2]) (fun a=>a.1.size≤1000000) (fun a=>bP (eqE a.1 a.2))
noncomputable def au6 (n:Nat):Spec:={ equalS with pre:=fun a=>equalS.pre a∧a.1.size≤n }
theorem alS:∀n,av Tryz.prog 167 (au6 n)
 | 0=>by
  refine vF Tryz.func167 ?_
  rintro (a:Ex×Ex) hpre
  have:=size_pos a.1
  exact absurd hpre.2 (by show ¬a.1.size≤0;omega)
 | n+1=>by
  have ih:=alS n
  refine vF Tryz.func167 ?_
  rintro (a:Ex×Ex) hpre
  obtain ⟨hm,hn⟩:=hpre
  have hm:a.1.size≤1000000:=hm
  have hn:a.1.size≤n+1:=hn
  have hal:=yU a.1
  have hsz:=a.1.size_eq
  refine bN (a.1.op=a.2.op) (fun h1=>?_) fun h1=>?_
  ·refine eN (bP (eqE a.1 a.2)) ?_
   rw[afG (fun h=>h1 (congrArg Ex.op h))]
   exact rfl
  refine bN (a.1.idx=a.2.idx) (fun h2=>?_) fun h2=>?_
  ·refine eN (bP (eqE a.1 a.2)) ?_
   rw[afG (fun h=>h2 (congrArg Ex.idx h))]
   exact rfl
  refine bN (a.1.args.length=a.2.args.length) (fun h3=>?_) fun h3=>?_
  ·refine eN (bP (eqE a.1 a.2)) ?_
   rw[afG (fun h=>h3 (congrArg (fun x=>x.args.length) h))]
   exact rfl
  refine fR (a.1.args.length) (fun k=>[(5,.s (iA k))]) (fun k=>[]) (fun k=>a.1.args.take k=a.2.args.take k) (by exact (ai (ai (fun _=>rfl) (iE (by omega))) rfl)) (by exact trivial) ?_ ?_
  ·rfl
  intro (k:Nat) ⟨hk,hall⟩
  refine bL (k<a.1.args.length) (fun h4=>?_) fun h4=>?_
  ·refine dR (.seq [0,1,2,3,4,5,6,7,8,9,10,11]) ?_
   refine iX (k) (a.1.args.length) ?_
   refine iX (k) (a.2.args.length) ?_
   have hy:a.1.args.getD k bD∈a.1.args:=aay (aad h4)
   have hms:=iQ hy
   refine cK (ih) ((a.1.args.getD k bD,a.2.args.getD k bD)) (by exact (ai (ai (iE (by simp only[zz,reduceCtorEq])) (ai (iE (by simp only[zz,reduceCtorEq])) (ai rfl (uX _)))) (ai (iE (by simp only[zz,reduceCtorEq])) (ai (iE (by simp only[zz,reduceCtorEq])) (ai rfl (uX _)))))) (ai (by show (a.1.args.getD k bD).size≤1000000;omega) (by show (a.1.args.getD k bD).size≤n;omega)) ?_
   refine aW (p:=a.1.args.getD k bD=a.2.args.getD k bD) (by show (!eqE (a.1.args.getD k bD) (a.2.args.getD k bD))=true↔_;rw[alO,awF,ne_eq,adY]) (fun h5=>?_) (fun h5=>?_)
   ·refine eN (bP (eqE a.1 a.2)) ?_
    rw[afG (fun h=>h5 (by rw[h]))]
    exact rfl
   refine nX (k) (ai (ai (fun _=>rfl) (aH (by omega))) rfl) trivial ?_
   exact aq0 h4 (by omega) hall h5
  ·obtain rfl:k=a.1.args.length:=by omega
   rw[acr,h3,acr] at hall
   have e:a.1=a.2:=by
    obtain ⟨⟨o,i,l⟩,⟨o',i',l'⟩⟩:=a
    simp only at h1 h2 hall
    rw[h1,h2,hall]
   refine eN (bP (eqE a.1 a.2)) ?_
   rw[adY.2 e]
   exact rfl
theorem aqX:av Tryz.prog 167 equalS:=lV (fun a=>a.1.size) alS
noncomputable def uw (x y:Ex):Bool:=eO x&&eO y&&eqE x y
noncomputable def awk:Spec:=bq (fun a:Ex×Ex=>[iV a.1,iV a.2]) (fun a=>True) (fun a=>bP (uw a.1 a.2))
theorem alE:av Tryz.prog 107 awk:=by
 refine vF Tryz.func107 ?_
 rintro (a:Ex×Ex) hpre
 refine cK (aeW) (a.1) (by exact (ai rfl (ai rfl (ai rfl (fun _ _=>rfl))))) (trivial) ?_
 refine aC (b:=eO a.1) rfl (fun h1=>?_) (fun h1=>?_)
 ·refine cK (aeW) (a.2) (by exact (ai rfl (ai rfl (ai rfl (fun _ _=>rfl))))) (trivial) ?_
  refine aC (b:=eO a.2) rfl (fun h2=>?_) (fun h2=>?_)
  ·refine cK (aqX) (a) (by exact (ai (ai rfl (ai rfl (ai rfl (fun _ _=>rfl)))) (ai rfl (ai rfl (ai rfl (fun _ _=>rfl)))))) ((by show a.1.size≤1000000;have:=(jy.1 h1).1;omega)) ?_
   refine eN (bP (uw a.1 a.2)) ?_
   rw[uw,h1,h2,ac9,ac9]
   exact rfl
  ·refine eN (bP (uw a.1 a.2)) ?_
   rw[uw,h2,ar0,aoc]
   exact rfl
 ·refine eN (bP (uw a.1 a.2)) ?_
  rw[uw,h1,aoc,aoc]
  exact rfl
theorem gW {P:Program} {f:Nat} {S:Spec} (h:av P f S) {res:S.A→PV} (e:∀a,S.pre a→fQ (S.res a) (res a)):av P f { S with res:=res }:=
 ⟨h.1,fun a hp E vs w hg hh hA=>(h.2 a hp E vs w hg hh hA).mono fun e' w' ⟨v,E',h1,h2,h3⟩=>⟨v,E',h1,wN (e a hp) h2,h3⟩⟩
def SLe:List SV→List SV→Prop
 | [],[]=>True
 | s :: l,t :: m=>(s=t∨∃d d',s=.p false d∧t=.p false d'∧fQ d d')∧SLe l m
 | _,_=>False
theorem SLe.get:∀{l m:List SV},SLe l m→l.length=m.length∧∀(k:Nat) (s t:SV),l[k]?=some s→m[k]?=some t→s=t∨∃d d',s=.p false d∧t=.p false d'∧fQ d d'
 | [],[],_=>⟨rfl,fun k s t h=>by simp at h⟩
 | [],_ :: _,h=>h.elim
 | _ :: _,[],h=>h.elim
 | s :: l,t :: m,⟨h1,h2⟩=>by
  obtain ⟨g1,g2⟩:=SLe.get h2
  refine ⟨by simp[g1],fun k x y hx hy=>?_⟩
  cases k with
  | zero=>simp at hx hy;subst hx;subst hy;exact h1
  | succ k=>exact g2 k x y (by simpa using hx) (by simpa using hy)
theorem ajR {P:Program} {f:Nat} {S:Spec} (h:av P f S) {args:S.A→List SV} (e:∀a,S.pre a→SLe (args a) (S.args a)):av P f { S with args:=args }:=
 ⟨h.1,fun a hp E vs w hg hh hA=>by
  refine h.2 a hp E vs w hg hh ?_
  obtain ⟨g1,g2⟩:=(e a hp).get
  obtain ⟨h1,h2⟩:=hA
  refine ⟨h1.trans g1,fun k u t hu ht=>?_⟩
  obtain ⟨s,hs⟩:=wO g1 ht
  have hr:=h2 k u s hu hs
  rcases g2 k s t hs ht with e | ⟨d,d',e1,e2,hle⟩
  ·subst e;exact hr
  ·subst e1;subst e2
   cases hr with
   | p _ _ _ hx=>exact .p _ _ _ (wN hle hx)⟩
abbrev Sk := Int × Bool
structure Stp where
 st:List Sk
 wt:Int
structure rD where
 fr:List Int
 to:List Int
 wh:Ex
structure aA where
 act:Int
 ins:List (List UInt8)
 sts:List Stp
 trs:List rD
def skK (x:Sk):List PV:=[iP x.1,bP x.2]
def skA (x:Sk):SV:=.p false (.agg (skK x))
def bV:Sk:=(0,false)
def adh (l:List Sk):PV:=.seq l.length (fun k=>skK (l.getD k bV))
def anl (l:List Sk):SV:=.p false (adh l)
def stK (x:Stp):List PV:=[adh x.st,iP x.wt]
def stA (x:Stp):SV:=.p false (.agg (stK x))
def st0:Stp:=⟨[],0⟩
def aaK (l:List Stp):PV:=.seq l.length (fun k=>stK (l.getD k st0))
def trK (x:rD):List PV:=[fE x.fr,fE x.to,iP x.wh.op,iP x.wh.idx,.seq x.wh.args.length (jo x.wh.args)]
def trA (x:rD):SV:=.p false (.agg (trK x))
def aY:rD:=⟨[],[],bD⟩
def ada (l:List rD):PV:=.seq l.length (fun k=>trK (l.getD k aY))
def chK (c:aA):List PV:=[iP c.act,xg c.ins,aaK c.sts,ada c.trs]
def chP (c:aA):PV:=.agg (chK c)
def jh (c:aA):SV:=.p false (chP c)
def jv {α:Type} (p:α→Bool) (l:List α):Int:=match l.findIdx? p with
 | some k=>k
 | none=>-1
theorem qV {α:Type} {p:α→Bool}:∀{l:List α} {k:Nat} {d:α},k<l.length→p (l.getD k d)=true→(∀y∈l.take k,p y=false)→jv p l=k
 | [],k,d,h,_,_=>by simp at h
 | x :: l,0,d,_,h,_=>by
  have h:p x=true:=h
  unfold jv;simp[List.findIdx?_cons,h]
 | x :: l,k+1,d,hk,h,hn=>by
  have h1:p x=false:=hn x (by simp)
  have h2:=qV (l:=l) (k:=k) (d:=d) (by simpa using hk) (by simpa using h) (fun y hy=>hn y (by simp[hy]))
  unfold jv at h2 ⊢
  rw[List.findIdx?_cons,h1]
  cases hc:l.findIdx? p with
  | none=>rw[hc] at h2;simp only at h2;omega
  | some q=>rw[hc] at h2;simp only at h2;simp;omega
theorem tX {α:Type} {p:α→Bool} {l:List α} (h:∀y∈l,p y=false):jv p l=-1:=by
 unfold jv
 rw[axw.2 (by simpa using h)]
theorem qD {α:Type} (p:α→Bool) (l:List α):decide (0≤jv p l)=l.any p:=by
 unfold jv
 cases hc:l.findIdx? p with
 | none=>
  have:=axw.1 hc
  symm;rw[show decide ((0:Int)≤-1)=false by decide,ar6]
  intro x hx;simp[this x hx]
 | some k=>
  simp only
  rw[decide_eq_true (by omega)]
  symm;rw[amb]
  obtain ⟨h,h1,_⟩:=List.findIdx?_eq_some_iff_getElem.1 hc
  exact ⟨_,List.getElem_mem h,h1⟩
theorem aho {a b:List UInt8}:strOf a=strOf b↔a=b:=by
 constructor
 ·intro h
  have:(strOf a).data.toList=(strOf b).data.toList:=by rw[h]
  simpa [strOf] using this
 ·rintro rfl;rfl
def asz:Spec:=bq (fun a:List (Int)×(Int)=>[isA a.1,iA a.2]) (fun a=>a.1.length≤1000000) (fun a=>iP (jv (fun y=>a.2==y) a.1))
theorem ao8:av Tryz.prog 84 asz:=by
 refine vF Tryz.func84 ?_
 rintro (a:List (Int)×(Int)) hpre
 have hl:a.1.length≤1000000:=hpre
 refine fR (a.1.length) (fun k=>[(8,.s (iA k))]) (fun k=>[]) (fun k=>∀y∈a.1.take k,(a.2==y)=false) (by exact (ai (ai (fun _=>rfl) (iE (by omega))) rfl)) (by exact trivial) ?_ ?_
 ·exact fun y hy=>absurd hy (by simp)
 intro (k:Nat) ⟨hk,hall⟩
 refine bL (k<a.1.length) (fun h1=>?_) fun h1=>?_
 ·refine iX (k) (a.1.length) ?_
  refine ah (p:=(a.2==a.1.getD k 0)=true) (by exact Iff.rfl) (fun h2=>?_) (fun h2=>?_)
  ·refine eN (iP (jv (fun y=>a.2==y) a.1)) ?_
   rw[qV (d:=0) h1 h2 hall]
   exact rfl
  refine nX (k) (ai (ai (fun _=>rfl) (aH (by omega))) rfl) trivial ?_
  intro y hy
  rw[aO 0 h1] at hy
  rcases acw.1 hy with hy | hy
  ·exact hall y hy
  ·simp only[acC] at hy;subst hy;simpa using h2
 ·obtain rfl:k=a.1.length:=by omega
  rw[acr] at hall
  refine eN (iP (jv (fun y=>a.2==y) a.1)) ?_
  rw[tX hall]
  exact rfl
def avX:Spec:=bq (fun a:List (Int)×(Int)=>[isA a.1,iA a.2]) (fun a=>a.1.length≤1000000) (fun a=>bP (a.1.any fun y=>a.2==y))
theorem ag9:av Tryz.prog 44 avX:=by
 refine vF Tryz.func44 ?_
 rintro (a:List (Int)×(Int)) hpre
 refine cK (ao8) (a) (by exact (ai (ai rfl (fun _ _=>rfl)) rfl)) (hpre) ?_
 refine eN (bP (a.1.any fun y=>a.2==y)) ?_
 rw[(qD (fun y=>a.2==y) a.1).symm]
 exact rfl
def asj:Spec:=bq (fun a:List (List UInt8)×(List UInt8)=>[ssA a.1,sA a.2]) (fun a=>a.1.length≤1000000) (fun a=>iP (jv (fun y=>a.2==y) a.1))
theorem anQ:av Tryz.prog 253 asj:=by
 refine vF Tryz.func253 ?_
 rintro (a:List (List UInt8)×(List UInt8)) hpre
 have hl:a.1.length≤1000000:=hpre
 refine fR (a.1.length) (fun k=>[(8,.s (iA k))]) (fun k=>[]) (fun k=>∀y∈a.1.take k,(a.2==y)=false) (by exact (ai (ai (fun _=>rfl) (iE (by omega))) rfl)) (by exact trivial) ?_ ?_
 ·exact fun y hy=>absurd hy (by simp)
 intro (k:Nat) ⟨hk,hall⟩
 refine bL (k<a.1.length) (fun h1=>?_) fun h1=>?_
 ·refine iX (k) (a.1.length) ?_
  refine ah (p:=(a.2==a.1.getD k [])=true) (by exact Iff.rfl) (fun h2=>?_) (fun h2=>?_)
  ·refine eN (iP (jv (fun y=>a.2==y) a.1)) ?_
   rw[qV (d:=[]) h1 h2 hall]
   exact rfl
  refine nX (k) (ai (ai (fun _=>rfl) (aH (by omega))) rfl) trivial ?_
  intro y hy
  rw[aO [] h1] at hy
  rcases acw.1 hy with hy | hy
  ·exact hall y hy
  ·simp only[acC] at hy;subst hy;simpa using h2
 ·obtain rfl:k=a.1.length:=by omega
  rw[acr] at hall
  refine eN (iP (jv (fun y=>a.2==y) a.1)) ?_
  rw[tX hall]
  exact rfl
def av6:Spec:=bq (fun a:List (List UInt8)×(List UInt8)=>[ssA a.1,sA a.2]) (fun a=>a.1.length≤1000000) (fun a=>bP (a.1.any fun y=>a.2==y))
theorem atX:av Tryz.prog 201 av6:=by
 refine vF Tryz.func201 ?_
 rintro (a:List (List UInt8)×(List UInt8)) hpre
 refine cK (anQ) (a) (by exact (ai (ai rfl (fun _ _=>rfl)) rfl)) (hpre) ?_
 refine eN (bP (a.1.any fun y=>a.2==y)) ?_
 rw[(qD (fun y=>a.2==y) a.1).symm]
 exact rfl
def atW:Spec:=bq (fun a:List (Bool)×(Bool)=>[rY a.1,bA a.2]) (fun a=>a.1.length≤1000000) (fun a=>iP (jv (fun y=>a.2==y) a.1))
theorem an8:av Tryz.prog 199 atW:=by
 refine vF Tryz.func199 ?_
 rintro (a:List (Bool)×(Bool)) hpre
 have hl:a.1.length≤1000000:=hpre
 refine fR (a.1.length) (fun k=>[(8,.s (iA k))]) (fun k=>[]) (fun k=>∀y∈a.1.take k,(a.2==y)=false) (by exact (ai (ai (fun _=>rfl) (iE (by omega))) rfl)) (by exact trivial) ?_ ?_
 ·exact fun y hy=>absurd hy (by simp)
 intro (k:Nat) ⟨hk,hall⟩
 refine bL (k<a.1.length) (fun h1=>?_) fun h1=>?_
 ·refine iX (k) (a.1.length) ?_
  refine ah (p:=(a.2==a.1.getD k false)=true) (by exact Iff.rfl) (fun h2=>?_) (fun h2=>?_)
  ·refine eN (iP (jv (fun y=>a.2==y) a.1)) ?_
   rw[qV (d:=false) h1 h2 hall]
   exact rfl
  refine nX (k) (ai (ai (fun _=>rfl) (aH (by omega))) rfl) trivial ?_
  intro y hy
  rw[aO false h1] at hy
  rcases acw.1 hy with hy | hy
  ·exact hall y hy
  ·simp only[acC] at hy;subst hy;simpa using h2
 ·obtain rfl:k=a.1.length:=by omega
  rw[acr] at hall
  refine eN (iP (jv (fun y=>a.2==y) a.1)) ?_
  rw[tX hall]
  exact rfl
def awu:Spec:=bq (fun a:List (Bool)×(Bool)=>[rY a.1,bA a.2]) (fun a=>a.1.length≤1000000) (fun a=>bP (a.1.any fun y=>a.2==y))
theorem asH:av Tryz.prog 146 awu:=by
 refine vF Tryz.func146 ?_
 rintro (a:List (Bool)×(Bool)) hpre
 refine cK (an8) (a) (by exact (ai (ai rfl (fun _ _=>rfl)) rfl)) (hpre) ?_
 refine eN (bP (a.1.any fun y=>a.2==y)) ?_
 rw[(qD (fun y=>a.2==y) a.1).symm]
 exact rfl
theorem nI {s:List UInt8} {k:Nat} (h:k<s.length):(strOf s)[k]?=some (s.getD k 0):=by
 have h1:s[k]?=some (s.getD k 0):=bB 0 h
 show (if h:k<(strOf s).size then some ((strOf s).get k h) else none)=_
 have h2:k<(strOf s).size:=by rw[bY];exact h
 rw[dif_pos h2,←h1,aau h];rfl
def dw (f:Nat→Int):Nat→Int
 | 0=>0
 | n+1=>if f 0=0 then dw (fun k=>f (k+1)) n else f 0
theorem dJ:∀{n:Nat} {f:Nat→Int} {k:Nat},k<n→(∀j,j<k→f j=0)→f k≠0→dw f n=f k
 | 0,_,_,h,_,_=>by omega
 | n+1,f,0,_,_,h=>by rw[dw,if_neg h]
 | n+1,f,k+1,hk,h0,h=>by
  rw[dw,if_pos (h0 0 (by omega))]
  exact dJ (f:=fun k=>f (k+1)) (k:=k) (by omega) (fun j hj=>h0 (j+1) (by omega)) h
theorem gK:∀{n:Nat} {f:Nat→Int},(∀j,j<n→f j=0)→dw f n=0
 | 0,_,_=>rfl
 | n+1,f,h=>by rw[dw,if_pos (h 0 (by omega))];exact gK fun j hj=>h (j+1) (by omega)
theorem pJ {n:Nat} {f:Nat→Int} (h:dw f n=0):∀j,j<n→f j=0:=by
 induction n generalizing f with
 | zero=>intro j hj;omega
 | succ n ih=>
  intro j hj
  rw[dw] at h
  by_cases h0:f 0=0
  ·rw[if_pos h0] at h
   cases j with
   | zero=>exact h0
   | succ j=>exact ih h j (by omega)
  ·rw[if_neg h0] at h;exact absurd h h0
theorem as4 {l:List (List UInt8)} {k:Nat} (hk:k≤l.length):∀j,j<k→[sP (l.getD j [])]=[sP ((l.take k).getD j [])]:=by
 intro j hj
 rw[aai,aai,avp,if_pos hj]
end Go.Sx.Pe
namespace Go.Proofs
open Go.Shelf
def Tryz.ak3:Go.Shelf.Ren:=⟨fun | 171=>209 | 243=>254 | 246=>277 | 283=>286 | 284=>287 | 285=>288 | 286=>289 | 129=>249 | 317=>298 | 318=>299 | 319=>300 | 320=>301 | 337=>310 | 338=>311 | n=>n,fun | 3=>3 | 9=>9 | 2=>2 | 4=>4 | 171=>317 | 0=>0 | 53=>286 | 37=>294 | 5=>5 | 173=>319 | 212=>330 | 51=>284 | 20=>20 | 213=>331 | 46=>242 | 232=>339 | 233=>340 | n=>n,fun | 17=>0 | 18=>2 | 19=>3 | n=>n⟩
theorem Tryz.att : Go.Proofs.Lays.n171 Tryz.prog Tryz.ak3 := {
  mixed := by kernel_rfl
  f129 := Tryz.func249.trans (congrArg some (by kernel_rfl))
  f171 := Tryz.func209.trans (congrArg some (by kernel_rfl))
  f243 := Tryz.func254.trans (congrArg some (by kernel_rfl))
  f246 := Tryz.func277.trans (congrArg some (by kernel_rfl))
  f283 := Tryz.func286.trans (congrArg some (by kernel_rfl))
  f284 := Tryz.func287.trans (congrArg some (by kernel_rfl))
  f285 := Tryz.func288.trans (congrArg some (by kernel_rfl))
  f286 := Tryz.func289.trans (congrArg some (by kernel_rfl))
  f317 := Tryz.func298.trans (congrArg some (by kernel_rfl))
  f318 := Tryz.func299.trans (congrArg some (by kernel_rfl))
  f319 := Tryz.func300.trans (congrArg some (by kernel_rfl))
  f320 := Tryz.func301.trans (congrArg some (by kernel_rfl))
  f337 := Tryz.func310.trans (congrArg some (by kernel_rfl))
  f338 := Tryz.func311.trans (congrArg some (by kernel_rfl))
  t0 := Tryz.underlying0
  a0 := Tryz.isAgg0
  z0 := Tryz.sizeOf0
  v0 := Tryz.zeroValue0
  t2 := Tryz.underlying2
  a2 := Tryz.isAgg2
  z2 := Tryz.sizeOf2
  v2 := Tryz.zeroValue2
  t3 := Tryz.underlying3
  a3 := Tryz.isAgg3
  z3 := Tryz.sizeOf3
  v3 := Tryz.zeroValue3
  t4 := Tryz.underlying4
  a4 := Tryz.isAgg4
  z4 := Tryz.sizeOf4
  v4 := Tryz.zeroValue4
  t5 := Tryz.underlying5
  a5 := Tryz.isAgg5
  z5 := Tryz.sizeOf5
  v5 := Tryz.zeroValue5
  t9 := Tryz.underlying9
  a9 := Tryz.isAgg9
  z9 := Tryz.sizeOf9
  v9 := Tryz.zeroValue9
  t20 := Tryz.underlying20
  a20 := Tryz.isAgg20
  z20 := Tryz.sizeOf20
  v20 := Tryz.zeroValue20
  t37 := Tryz.underlying294
  a37 := Tryz.isAgg294
  z37 := Tryz.sizeOf294
  v37 := Tryz.zeroValue294
  t46 := Tryz.underlying242
  a46 := Tryz.isAgg242
  z46 := Tryz.sizeOf242
  v46 := Tryz.zeroValue242
  t51 := Tryz.underlying284
  a51 := Tryz.isAgg284
  z51 := Tryz.sizeOf284
  v51 := Tryz.zeroValue284
  t53 := Tryz.underlying286
  a53 := Tryz.isAgg286
  z53 := Tryz.sizeOf286
  v53 := Tryz.zeroValue286
  t171 := Tryz.underlying317
  a171 := Tryz.isAgg317
  z171 := Tryz.sizeOf317
  v171 := Tryz.zeroValue317
  t173 := Tryz.underlying319
  a173 := Tryz.isAgg319
  z173 := Tryz.sizeOf319
  v173 := Tryz.zeroValue319
  t212 := Tryz.underlying330
  a212 := Tryz.isAgg330
  z212 := Tryz.sizeOf330
  v212 := Tryz.zeroValue330
  t213 := Tryz.underlying331
  a213 := Tryz.isAgg331
  z213 := Tryz.sizeOf331
  t232 := Tryz.underlying339
  a232 := Tryz.isAgg339
  z232 := Tryz.sizeOf339
  v232 := Tryz.zeroValue339
  t233 := Tryz.underlying340
  a233 := Tryz.isAgg340
  z233 := Tryz.sizeOf340
  v233 := Tryz.zeroValue340
  g17 := by kernel_rfl
  g18 := by kernel_rfl
  g19 := by kernel_rfl }
open Go.RowKit Go.Sort Go.Lib in
theorem Tryz.strconv_Itoa_small (i:Nat) (hi:i<100) (w:World) :
  Calls Tryz.prog 209 #[.int .i64 i] w fun e w'=>e=.returned (.string ⟨(Lib.decDigits i).toArray⟩)∧w'=w:=Any.strconv_Itoa_small Tryz.att i hi w
def Tryz.ak2:Go.Shelf.Ren:=⟨fun | 144=>275 | 143=>284 | 219=>290 | 217=>302 | 225=>303 | 224=>304 | 267=>305 | 266=>312 | 314=>313 | n=>n,fun | 9=>9 | 4=>4 | 3=>3 | 5=>5 | 46=>242 | 146=>336 | 51=>284 | n=>n,fun | 1=>1 | n=>n⟩
theorem Tryz.asB : Go.Proofs.Lays.n144 Tryz.prog Tryz.ak2 := {
  mixed := by kernel_rfl
  f143 := Tryz.func284.trans (congrArg some (by kernel_rfl))
  f144 := Tryz.func275.trans (congrArg some (by kernel_rfl))
  f217 := Tryz.func302.trans (congrArg some (by kernel_rfl))
  f219 := Tryz.func290.trans (congrArg some (by kernel_rfl))
  f224 := Tryz.func304.trans (congrArg some (by kernel_rfl))
  f225 := Tryz.func303.trans (congrArg some (by kernel_rfl))
  f266 := Tryz.func312.trans (congrArg some (by kernel_rfl))
  f267 := Tryz.func305.trans (congrArg some (by kernel_rfl))
  f314 := Tryz.func313.trans (congrArg some (by kernel_rfl))
  t3 := Tryz.underlying3
  a3 := Tryz.isAgg3
  z3 := Tryz.sizeOf3
  v3 := Tryz.zeroValue3
  t4 := Tryz.underlying4
  a4 := Tryz.isAgg4
  z4 := Tryz.sizeOf4
  v4 := Tryz.zeroValue4
  t5 := Tryz.underlying5
  a5 := Tryz.isAgg5
  z5 := Tryz.sizeOf5
  v5 := Tryz.zeroValue5
  t9 := Tryz.underlying9
  a9 := Tryz.isAgg9
  z9 := Tryz.sizeOf9
  v9 := Tryz.zeroValue9
  t46 := Tryz.underlying242
  a46 := Tryz.isAgg242
  z46 := Tryz.sizeOf242
  v46 := Tryz.zeroValue242
  t51 := Tryz.underlying284
  a51 := Tryz.isAgg284
  z51 := Tryz.sizeOf284
  v51 := Tryz.zeroValue284
  t146 := Tryz.underlying336
  a146 := Tryz.isAgg336
  z146 := Tryz.sizeOf336
  v146 := Tryz.zeroValue336
  g1 := by kernel_rfl }
open Go.RowKit Go.Lib in
theorem Tryz.strings_Contains_one (s:ByteArray) (c:UInt8) (w:World) :
  Calls Tryz.prog 275 #[.string s,.string ⟨#[c]⟩] w fun e w'=>e=.returned (.bool (decide (0≤Lib.indexByte s.data.toList c)))∧w'=w:=Any.strings_Contains_one Tryz.asB s c w
def Tryz.ajH:Go.Shelf.Ren:=⟨fun | 17=>184 | 15=>231 | 20=>266 | n=>n,fun | 9=>9 | 23=>228 | 4=>4 | 3=>3 | 0=>0 | 21=>21 | n=>n,fun | n=>n⟩
theorem Tryz.aq5 : Go.Proofs.LaysGw.n17 Tryz.prog Tryz.ajH := {
  mixed := by kernel_rfl
  f15 := Tryz.func231.trans (congrArg some (by kernel_rfl))
  f17 := Tryz.func184.trans (congrArg some (by kernel_rfl))
  f20 := Tryz.func266.trans (congrArg some (by kernel_rfl))
  t0 := Tryz.underlying0
  a0 := Tryz.isAgg0
  z0 := Tryz.sizeOf0
  v0 := Tryz.zeroValue0
  i0 := by kernel_rfl
  t3 := Tryz.underlying3
  a3 := Tryz.isAgg3
  z3 := Tryz.sizeOf3
  v3 := Tryz.zeroValue3
  i3 := by kernel_rfl
  t4 := Tryz.underlying4
  a4 := Tryz.isAgg4
  z4 := Tryz.sizeOf4
  v4 := Tryz.zeroValue4
  i4 := by kernel_rfl
  t9 := Tryz.underlying9
  a9 := Tryz.isAgg9
  z9 := Tryz.sizeOf9
  v9 := Tryz.zeroValue9
  i9 := by kernel_rfl
  t21 := Tryz.underlying21
  a21 := Tryz.isAgg21
  z21 := Tryz.sizeOf21
  v21 := Tryz.zeroValue21
  i21 := by kernel_rfl
  t23 := Tryz.underlying228
  a23 := Tryz.isAgg228
  z23 := Tryz.sizeOf228
  v23 := Tryz.zeroValue228
  i23 := by kernel_rfl }
open Go.RowKit Go.Lib in
theorem Tryz.strings_ContainsFunc (g:Nat) (lb:Array Value) (eg:∀args w,(callFunc g args).run Tryz.prog w=.ok (.enter g args) w) (p:Nat→Bool) (s:ByteArray) (w:World) (hp:PredAt Tryz.prog g lb encR p w) :
  Calls Tryz.prog 184 #[.string s,.func (.func g) #[] lb] w fun e w'=>e=.returned (.bool (decide (0≤Lib.idxFunc p true s)))∧Below w.heap.size w w':=Any.strings_ContainsFunc Tryz.aq5 g lb eg p s w hp
end Go.Proofs
namespace Go.Sx.Pe
open Go Go.Proofs Go.Sx.Pn
def eu (c:UInt8):Bool:=decide (48≤c.toNat)&&decide (c.toNat≤57)
def jg (c:UInt8):Bool:=decide (97≤c.toNat)&&decide (c.toNat≤122)
def uJ (c:UInt8):Bool:=decide (65≤c.toNat)&&decide (c.toNat≤90)
def dV (c:UInt8):Bool:=eu c||jg c||uJ c||decide (c.toNat=95)
def dP (c:UInt8):Bool:=[97,98,99,100,101,102,116,120,121,122].any (fun y:UInt8=>c==y)
def oC (c:UInt8):Bool:=decide (97≤c.toNat)&&decide (c.toNat≤102)
theorem yN:av Tryz.prog 222 (bq (fun c:UInt8=>[cA c]) (fun _=>True) (fun c=>bP (eu c))):=by
 refine vF Tryz.func222 ?_
 rintro (c:UInt8) hpre
 repeat' (refine gV (fun h=>?_) (fun h=>?_))
 all_goals
  refine ai (ai (fun _=>trivial) ?_) trivial
  show (_:Bool)=eu c
  rw[arX]
  simp only[aaX,aoU,decide_eq_true_eq,decide_eq_false_iff_not,beq_iff_eq,beq_eq_false_iff_ne,ne_eq,eu,jg,uJ,dV,oC,true_iff,iff_true,reduceCtorEq,false_iff] at *
  omega
theorem ajx:av Tryz.prog 220 (bq (fun c:UInt8=>[cA c]) (fun _=>True) (fun c=>bP (jg c))):=by
 refine vF Tryz.func220 ?_
 rintro (c:UInt8) hpre
 repeat' (refine gV (fun h=>?_) (fun h=>?_))
 all_goals
  refine ai (ai (fun _=>trivial) ?_) trivial
  show (_:Bool)=jg c
  rw[arX]
  simp only[aaX,aoU,decide_eq_true_eq,decide_eq_false_iff_not,beq_iff_eq,beq_eq_false_iff_ne,ne_eq,eu,jg,uJ,dV,oC,true_iff,iff_true,reduceCtorEq,false_iff] at *
  omega
theorem anx:av Tryz.prog 252 (bq (fun c:UInt8=>[cA c]) (fun _=>True) (fun c=>bP (dV c))):=by
 refine vF Tryz.func252 ?_
 rintro (c:UInt8) hpre
 repeat' (refine gV (fun h=>?_) (fun h=>?_))
 all_goals
  refine ai (ai (fun _=>trivial) ?_) trivial
  show (_:Bool)=dV c
  rw[arX]
  simp only[aaX,aoU,decide_eq_true_eq,decide_eq_false_iff_not,beq_iff_eq,beq_eq_false_iff_ne,ne_eq,eu,jg,uJ,dV,oC,true_iff,iff_true,reduceCtorEq,false_iff] at *
  omega
def resE:List UInt8→Bool
 | []=>false
 | c :: t=>!t.isEmpty&&((dP c&&t.all eu)||(oC c&&(t==[112]||t==[109])))
theorem aif:∀(l:List UInt8) (c:UInt8),decide (0≤Lib.indexByte l c)=l.any fun y=>c==y
 | [],c=>by simp[Lib.indexByte]
 | x :: l,c=>by
  have ih:=aif l c
  have hge:=Lib.indexByte_ge l c
  unfold Lib.indexByte
  rw[axF]
  by_cases h:x=c
  ·subst h;simp
  ·rw[show (c==x)=false by simpa using fun e=>h e.symm,arK,←ih]
   simp only[beq_iff_eq,h,if_false]
   split
   ·rename_i h2;rw[h2]
   ·exact decide_eq_decide.2 (by omega)
theorem ag1:av Tryz.prog 275 (bq (fun a:List UInt8×UInt8=>[sA a.1,sA [a.2]]) (fun _=>True) (fun a=>bP (a.1.any fun y=>a.2==y))):=
 ai2 (ahO (α:=List UInt8×UInt8) Tryz.func275 rfl rfl (vals:=fun a=>[.string (strOf a.1),.string (strOf [a.2])]) (pre:=fun _=>True) (ret:=fun a=>.bool (decide (0≤Lib.indexByte a.1 a.2))) (fun _ _=>rfl)
  fun a _ w=>(Tryz.strings_Contains_one (strOf a.1) a.2 w).mono fun e w' h=>by
   obtain ⟨h1,h2⟩:=h
   subst h2
   exact ⟨h1,RowKit.Below.refl _ _⟩) id
  (fun _ _=>rfl) (fun _ _=>rfl) (fun _ _=>rfl) (fun a _=>by show PV.val (.bool (decide (0≤Lib.indexByte a.1 a.2)))=_;rw[aif];rfl) (fun _ _=>trivial)
theorem aq9:av Tryz.prog 221 (bq (fun s:List UInt8=>[sA s]) (fun s=>s.length≤1000000) (fun s=>bP (resE s))):=by
 refine vF Tryz.func221 ?_
 rintro (s:List UInt8) hpre
 have hl:s.length≤1000000:=hpre
 have hz:=bY s
 refine ah (p:=s.length<2) (by exact aB (by rw[hz];omega)) (fun h1=>?_) (fun h1=>?_)
 ·have e:resE s=false:=by
   cases s with
   | nil=>rfl
   | cons c t=>cases t with
    | nil=>rfl
    | cons d t=>simp at h1;omega
  refine eN (bP (resE s)) ?_
  rw[e]
  exact rfl
 obtain ⟨c,d,t,rfl⟩:∃c d t,s=c :: d :: t:=by
  cases s with
  | nil=>simp at h1
  | cons c t=>cases t with
   | nil=>simp at h1
   | cons d t=>exact ⟨c,d,t,rfl⟩
 have i0:(strOf (c :: d :: t))[(0:Int).toNat]?=some c:=nI (s:=c :: d :: t) (k:=0) (by simp)
 have i1:(strOf (c :: d :: t))[(1:Int).toNat]?=some d:=nI (s:=c :: d :: t) (k:=1) (by simp)
 have hl2:(d :: t).length≤1000000:=by simp only[aog] at hl ⊢;omega
 have hR:resE (c :: d :: t)=((dP c&&(d :: t).all eu)||(oC c&&((d :: t)==[112]||(d :: t)==[109]))):=rfl
 refine ah (p:=t=[]) (by exact um (by show (((strOf (c :: d :: t)).size:Nat):Int)=2↔_;rw[hz];cases t with | nil=>simp | cons y t=>simp;omega)) (fun h2=>?_) (fun h2=>?_)
 ·refine ei c (ai (ai (by decide) i0) ?_)
  refine bG (97≤c.toNat) (fun h3=>?_) fun h3=>?_
  ·refine ei c (ai (ai (by decide) i0) ?_)
   refine bG (c.toNat≤102) (fun h4=>?_) fun h4=>?_
   ·refine ei d (ai (ai (by decide) i1) ?_)
    have hac:oC c=true:=by unfold oC;rw[decide_eq_true h3,decide_eq_true h4];rfl
    refine ah (p:=d=112) (by exact dN rfl) (fun h5=>?_) (fun h5=>?_)
    ·refine eN (bP (resE (c :: d :: t))) ?_
     rw[show resE (c :: d :: t)=true by rw[hR,hac,h5,h2];simp]
     exact rfl
    ·refine ei d (ai (ai (by decide) i1) ?_)
     refine ah (p:=d=109) (by exact dN rfl) (fun h6=>?_) (fun h6=>?_)
     ·refine eN (bP (resE (c :: d :: t))) ?_
      rw[show resE (c :: d :: t)=true by rw[hR,hac,h6,h2];simp]
      exact rfl
     ·have hN:(oC c&&((d :: t)==[112]||(d :: t)==[109]))=false:=by rw[hac,h2];simp[h5,h6]
      refine fR ((d :: t).length) (fun k=>[(3,.s (iA (k+1:Nat)))]) (fun k=>[]) (fun k=>∀x∈(d :: t).take k,eu x=true) (by exact (ai (ai (fun _=>rfl) (iE (by omega))) rfl)) (by exact trivial) ?_ ?_
      ·exact fun y hy=>absurd hy (by simp)
      intro (k:Nat) ⟨hk,hall⟩
      refine ah (p:=k<(d :: t).length) (by exact aB (by rw[hz];simp only[aog];omega)) (fun h8=>?_) (fun h8=>?_)
      ·refine ei ((d :: t).getD k 0) (ai (ai (aaT _) (nI (s:=c :: d :: t) (k:=k+1) (by simp at h8 ⊢;omega))) ?_)
       refine cK (yN) ((d :: t).getD k 0) (by exact rfl) (trivial) ?_
       refine aC (b:=!eu ((d :: t).getD k 0)) rfl (fun h9=>?_) (fun h9=>?_)
       ·have e:(d :: t).all eu=false:=by
         rw[asa]
         exact ⟨_,aay (bB 0 h8),by simpa using h9⟩
        refine eN (bP (resE (c :: d :: t))) ?_
        rw[hR,e,ar0,arK,hN]
        exact rfl
       refine nX (k) (ai (ai (fun _=>rfl) (aH (by omega))) rfl) trivial ?_
       intro y hy
       rw[aO 0 h8] at hy
       rcases acw.1 hy with hy | hy
       ·exact hall y hy
       ·simp only[acC] at hy;subst hy;simpa using h9
      ·obtain rfl:k=(d :: t).length:=by omega
       rw[acr] at hall
       have e:(d :: t).all eu=true:=alQ.2 hall
       refine ai (by decide) ?_
       refine ei (mD.unroll 11) ?_
       refine ai (ai (by decide) (by decide)) ?_
       refine ai rfl ?_
       refine ei c (ai (ai (by decide) i0) ?_)
       refine ah (p:=c=97) (by exact dN rfl) (fun m97=>?_) (fun m97=>?_)
       ·have e2:dP c=true:=by rw[m97];rfl
        refine eN (bP (resE (c :: d :: t))) ?_
        rw[hR,e,e2,ac9,aen]
        exact rfl
       refine ai (ai (by decide) (by decide)) ?_
       refine ai rfl ?_
       refine ei c (ai (ai (by decide) i0) ?_)
       refine ah (p:=c=98) (by exact dN rfl) (fun m98=>?_) (fun m98=>?_)
       ·have e2:dP c=true:=by rw[m98];rfl
        refine eN (bP (resE (c :: d :: t))) ?_
        rw[hR,e,e2,ac9,aen]
        exact rfl
       refine ai (ai (by decide) (by decide)) ?_
       refine ai rfl ?_
       refine ei c (ai (ai (by decide) i0) ?_)
       refine ah (p:=c=99) (by exact dN rfl) (fun m99=>?_) (fun m99=>?_)
       ·have e2:dP c=true:=by rw[m99];rfl
        refine eN (bP (resE (c :: d :: t))) ?_
        rw[hR,e,e2,ac9,aen]
        exact rfl
       refine ai (ai (by decide) (by decide)) ?_
       refine ai rfl ?_
       refine ei c (ai (ai (by decide) i0) ?_)
       refine ah (p:=c=100) (by exact dN rfl) (fun m100=>?_) (fun m100=>?_)
       ·have e2:dP c=true:=by rw[m100];rfl
        refine eN (bP (resE (c :: d :: t))) ?_
        rw[hR,e,e2,ac9,aen]
        exact rfl
       refine ai (ai (by decide) (by decide)) ?_
       refine ai rfl ?_
       refine ei c (ai (ai (by decide) i0) ?_)
       refine ah (p:=c=101) (by exact dN rfl) (fun m101=>?_) (fun m101=>?_)
       ·have e2:dP c=true:=by rw[m101];rfl
        refine eN (bP (resE (c :: d :: t))) ?_
        rw[hR,e,e2,ac9,aen]
        exact rfl
       refine ai (ai (by decide) (by decide)) ?_
       refine ai rfl ?_
       refine ei c (ai (ai (by decide) i0) ?_)
       refine ah (p:=c=102) (by exact dN rfl) (fun m102=>?_) (fun m102=>?_)
       ·have e2:dP c=true:=by rw[m102];rfl
        refine eN (bP (resE (c :: d :: t))) ?_
        rw[hR,e,e2,ac9,aen]
        exact rfl
       refine ai (ai (by decide) (by decide)) ?_
       refine ai rfl ?_
       refine ei c (ai (ai (by decide) i0) ?_)
       refine ah (p:=c=116) (by exact dN rfl) (fun m116=>?_) (fun m116=>?_)
       ·have e2:dP c=true:=by rw[m116];rfl
        refine eN (bP (resE (c :: d :: t))) ?_
        rw[hR,e,e2,ac9,aen]
        exact rfl
       refine ai (ai (by decide) (by decide)) ?_
       refine ai rfl ?_
       refine ei c (ai (ai (by decide) i0) ?_)
       refine ah (p:=c=120) (by exact dN rfl) (fun m120=>?_) (fun m120=>?_)
       ·have e2:dP c=true:=by rw[m120];rfl
        refine eN (bP (resE (c :: d :: t))) ?_
        rw[hR,e,e2,ac9,aen]
        exact rfl
       refine ai (ai (by decide) (by decide)) ?_
       refine ai rfl ?_
       refine ei c (ai (ai (by decide) i0) ?_)
       refine ah (p:=c=121) (by exact dN rfl) (fun m121=>?_) (fun m121=>?_)
       ·have e2:dP c=true:=by rw[m121];rfl
        refine eN (bP (resE (c :: d :: t))) ?_
        rw[hR,e,e2,ac9,aen]
        exact rfl
       refine ai (ai (by decide) (by decide)) ?_
       refine ai rfl ?_
       refine ei c (ai (ai (by decide) i0) ?_)
       refine ah (p:=c=122) (by exact dN rfl) (fun m122=>?_) (fun m122=>?_)
       ·have e2:dP c=true:=by rw[m122];rfl
        refine eN (bP (resE (c :: d :: t))) ?_
        rw[hR,e,e2,ac9,aen]
        exact rfl
       have e2:dP c=false:=by unfold dP;simp[m97,m98,m99,m100,m101,m102,m116,m120,m121,m122]
       refine eN (bP (resE (c :: d :: t))) ?_
       rw[hR,e2,aoc,arK,hN]
       exact rfl
   ·have hN:(oC c&&((d :: t)==[112]||(d :: t)==[109]))=false:=by unfold oC;rw[decide_eq_false h4];simp
    refine fR ((d :: t).length) (fun k=>[(3,.s (iA (k+1:Nat)))]) (fun k=>[]) (fun k=>∀x∈(d :: t).take k,eu x=true) (by exact (ai (ai (fun _=>rfl) (iE (by omega))) rfl)) (by exact trivial) ?_ ?_
    ·exact fun y hy=>absurd hy (by simp)
    intro (k:Nat) ⟨hk,hall⟩
    refine ah (p:=k<(d :: t).length) (by exact aB (by rw[hz];simp only[aog];omega)) (fun h8=>?_) (fun h8=>?_)
    ·refine ei ((d :: t).getD k 0) (ai (ai (aaT _) (nI (s:=c :: d :: t) (k:=k+1) (by simp at h8 ⊢;omega))) ?_)
     refine cK (yN) ((d :: t).getD k 0) (by exact rfl) (trivial) ?_
     refine aC (b:=!eu ((d :: t).getD k 0)) rfl (fun h9=>?_) (fun h9=>?_)
     ·have e:(d :: t).all eu=false:=by
       rw[asa]
       exact ⟨_,aay (bB 0 h8),by simpa using h9⟩
      refine eN (bP (resE (c :: d :: t))) ?_
      rw[hR,e,ar0,arK,hN]
      exact rfl
     refine nX (k) (ai (ai (fun _=>rfl) (aH (by omega))) rfl) trivial ?_
     intro y hy
     rw[aO 0 h8] at hy
     rcases acw.1 hy with hy | hy
     ·exact hall y hy
     ·simp only[acC] at hy;subst hy;simpa using h9
    ·obtain rfl:k=(d :: t).length:=by omega
     rw[acr] at hall
     have e:(d :: t).all eu=true:=alQ.2 hall
     refine ai (by decide) ?_
     refine ei (mD.unroll 11) ?_
     refine ai (ai (by decide) (by decide)) ?_
     refine ai rfl ?_
     refine ei c (ai (ai (by decide) i0) ?_)
     refine ah (p:=c=97) (by exact dN rfl) (fun m97=>?_) (fun m97=>?_)
     ·have e2:dP c=true:=by rw[m97];rfl
      refine eN (bP (resE (c :: d :: t))) ?_
      rw[hR,e,e2,ac9,aen]
      exact rfl
     refine ai (ai (by decide) (by decide)) ?_
     refine ai rfl ?_
     refine ei c (ai (ai (by decide) i0) ?_)
     refine ah (p:=c=98) (by exact dN rfl) (fun m98=>?_) (fun m98=>?_)
     ·have e2:dP c=true:=by rw[m98];rfl
      refine eN (bP (resE (c :: d :: t))) ?_
      rw[hR,e,e2,ac9,aen]
      exact rfl
     refine ai (ai (by decide) (by decide)) ?_
     refine ai rfl ?_
     refine ei c (ai (ai (by decide) i0) ?_)
     refine ah (p:=c=99) (by exact dN rfl) (fun m99=>?_) (fun m99=>?_)
     ·have e2:dP c=true:=by rw[m99];rfl
      refine eN (bP (resE (c :: d :: t))) ?_
      rw[hR,e,e2,ac9,aen]
      exact rfl
     refine ai (ai (by decide) (by decide)) ?_
     refine ai rfl ?_
     refine ei c (ai (ai (by decide) i0) ?_)
     refine ah (p:=c=100) (by exact dN rfl) (fun m100=>?_) (fun m100=>?_)
     ·have e2:dP c=true:=by rw[m100];rfl
      refine eN (bP (resE (c :: d :: t))) ?_
      rw[hR,e,e2,ac9,aen]
      exact rfl
     refine ai (ai (by decide) (by decide)) ?_
     refine ai rfl ?_
     refine ei c (ai (ai (by decide) i0) ?_)
     refine ah (p:=c=101) (by exact dN rfl) (fun m101=>?_) (fun m101=>?_)
     ·have e2:dP c=true:=by rw[m101];rfl
      refine eN (bP (resE (c :: d :: t))) ?_
      rw[hR,e,e2,ac9,aen]
      exact rfl
     refine ai (ai (by decide) (by decide)) ?_
     refine ai rfl ?_
     refine ei c (ai (ai (by decide) i0) ?_)
     refine ah (p:=c=102) (by exact dN rfl) (fun m102=>?_) (fun m102=>?_)
     ·have e2:dP c=true:=by rw[m102];rfl
      refine eN (bP (resE (c :: d :: t))) ?_
      rw[hR,e,e2,ac9,aen]
      exact rfl
     refine ai (ai (by decide) (by decide)) ?_
     refine ai rfl ?_
     refine ei c (ai (ai (by decide) i0) ?_)
     refine ah (p:=c=116) (by exact dN rfl) (fun m116=>?_) (fun m116=>?_)
     ·have e2:dP c=true:=by rw[m116];rfl
      refine eN (bP (resE (c :: d :: t))) ?_
      rw[hR,e,e2,ac9,aen]
      exact rfl
     refine ai (ai (by decide) (by decide)) ?_
     refine ai rfl ?_
     refine ei c (ai (ai (by decide) i0) ?_)
     refine ah (p:=c=120) (by exact dN rfl) (fun m120=>?_) (fun m120=>?_)
     ·have e2:dP c=true:=by rw[m120];rfl
      refine eN (bP (resE (c :: d :: t))) ?_
      rw[hR,e,e2,ac9,aen]
      exact rfl
     refine ai (ai (by decide) (by decide)) ?_
     refine ai rfl ?_
     refine ei c (ai (ai (by decide) i0) ?_)
     refine ah (p:=c=121) (by exact dN rfl) (fun m121=>?_) (fun m121=>?_)
     ·have e2:dP c=true:=by rw[m121];rfl
      refine eN (bP (resE (c :: d :: t))) ?_
      rw[hR,e,e2,ac9,aen]
      exact rfl
     refine ai (ai (by decide) (by decide)) ?_
     refine ai rfl ?_
     refine ei c (ai (ai (by decide) i0) ?_)
     refine ah (p:=c=122) (by exact dN rfl) (fun m122=>?_) (fun m122=>?_)
     ·have e2:dP c=true:=by rw[m122];rfl
      refine eN (bP (resE (c :: d :: t))) ?_
      rw[hR,e,e2,ac9,aen]
      exact rfl
     have e2:dP c=false:=by unfold dP;simp[m97,m98,m99,m100,m101,m102,m116,m120,m121,m122]
     refine eN (bP (resE (c :: d :: t))) ?_
     rw[hR,e2,aoc,arK,hN]
     exact rfl
  ·have hN:(oC c&&((d :: t)==[112]||(d :: t)==[109]))=false:=by unfold oC;rw[decide_eq_false h3];simp
   refine fR ((d :: t).length) (fun k=>[(3,.s (iA (k+1:Nat)))]) (fun k=>[]) (fun k=>∀x∈(d :: t).take k,eu x=true) (by exact (ai (ai (fun _=>rfl) (iE (by omega))) rfl)) (by exact trivial) ?_ ?_
   ·exact fun y hy=>absurd hy (by simp)
   intro (k:Nat) ⟨hk,hall⟩
   refine ah (p:=k<(d :: t).length) (by exact aB (by rw[hz];simp only[aog];omega)) (fun h8=>?_) (fun h8=>?_)
   ·refine ei ((d :: t).getD k 0) (ai (ai (aaT _) (nI (s:=c :: d :: t) (k:=k+1) (by simp at h8 ⊢;omega))) ?_)
    refine cK (yN) ((d :: t).getD k 0) (by exact rfl) (trivial) ?_
    refine aC (b:=!eu ((d :: t).getD k 0)) rfl (fun h9=>?_) (fun h9=>?_)
    ·have e:(d :: t).all eu=false:=by
      rw[asa]
      exact ⟨_,aay (bB 0 h8),by simpa using h9⟩
     refine eN (bP (resE (c :: d :: t))) ?_
     rw[hR,e,ar0,arK,hN]
     exact rfl
    refine nX (k) (ai (ai (fun _=>rfl) (aH (by omega))) rfl) trivial ?_
    intro y hy
    rw[aO 0 h8] at hy
    rcases acw.1 hy with hy | hy
    ·exact hall y hy
    ·simp only[acC] at hy;subst hy;simpa using h9
   ·obtain rfl:k=(d :: t).length:=by omega
    rw[acr] at hall
    have e:(d :: t).all eu=true:=alQ.2 hall
    refine ai (by decide) ?_
    refine ei (mD.unroll 11) ?_
    refine ai (ai (by decide) (by decide)) ?_
    refine ai rfl ?_
    refine ei c (ai (ai (by decide) i0) ?_)
    refine ah (p:=c=97) (by exact dN rfl) (fun m97=>?_) (fun m97=>?_)
    ·have e2:dP c=true:=by rw[m97];rfl
     refine eN (bP (resE (c :: d :: t))) ?_
     rw[hR,e,e2,ac9,aen]
     exact rfl
    refine ai (ai (by decide) (by decide)) ?_
    refine ai rfl ?_
    refine ei c (ai (ai (by decide) i0) ?_)
    refine ah (p:=c=98) (by exact dN rfl) (fun m98=>?_) (fun m98=>?_)
    ·have e2:dP c=true:=by rw[m98];rfl
     refine eN (bP (resE (c :: d :: t))) ?_
     rw[hR,e,e2,ac9,aen]
     exact rfl
    refine ai (ai (by decide) (by decide)) ?_
    refine ai rfl ?_
    refine ei c (ai (ai (by decide) i0) ?_)
    refine ah (p:=c=99) (by exact dN rfl) (fun m99=>?_) (fun m99=>?_)
    ·have e2:dP c=true:=by rw[m99];rfl
     refine eN (bP (resE (c :: d :: t))) ?_
     rw[hR,e,e2,ac9,aen]
     exact rfl
    refine ai (ai (by decide) (by decide)) ?_
    refine ai rfl ?_
    refine ei c (ai (ai (by decide) i0) ?_)
    refine ah (p:=c=100) (by exact dN rfl) (fun m100=>?_) (fun m100=>?_)
    ·have e2:dP c=true:=by rw[m100];rfl
     refine eN (bP (resE (c :: d :: t))) ?_
     rw[hR,e,e2,ac9,aen]
     exact rfl
    refine ai (ai (by decide) (by decide)) ?_
    refine ai rfl ?_
    refine ei c (ai (ai (by decide) i0) ?_)
    refine ah (p:=c=101) (by exact dN rfl) (fun m101=>?_) (fun m101=>?_)
    ·have e2:dP c=true:=by rw[m101];rfl
     refine eN (bP (resE (c :: d :: t))) ?_
     rw[hR,e,e2,ac9,aen]
     exact rfl
    refine ai (ai (by decide) (by decide)) ?_
    refine ai rfl ?_
    refine ei c (ai (ai (by decide) i0) ?_)
    refine ah (p:=c=102) (by exact dN rfl) (fun m102=>?_) (fun m102=>?_)
    ·have e2:dP c=true:=by rw[m102];rfl
     refine eN (bP (resE (c :: d :: t))) ?_
     rw[hR,e,e2,ac9,aen]
     exact rfl
    refine ai (ai (by decide) (by decide)) ?_
    refine ai rfl ?_
    refine ei c (ai (ai (by decide) i0) ?_)
    refine ah (p:=c=116) (by exact dN rfl) (fun m116=>?_) (fun m116=>?_)
    ·have e2:dP c=true:=by rw[m116];rfl
     refine eN (bP (resE (c :: d :: t))) ?_
     rw[hR,e,e2,ac9,aen]
     exact rfl
    refine ai (ai (by decide) (by decide)) ?_
    refine ai rfl ?_
    refine ei c (ai (ai (by decide) i0) ?_)
    refine ah (p:=c=120) (by exact dN rfl) (fun m120=>?_) (fun m120=>?_)
    ·have e2:dP c=true:=by rw[m120];rfl
     refine eN (bP (resE (c :: d :: t))) ?_
     rw[hR,e,e2,ac9,aen]
     exact rfl
    refine ai (ai (by decide) (by decide)) ?_
    refine ai rfl ?_
    refine ei c (ai (ai (by decide) i0) ?_)
    refine ah (p:=c=121) (by exact dN rfl) (fun m121=>?_) (fun m121=>?_)
    ·have e2:dP c=true:=by rw[m121];rfl
     refine eN (bP (resE (c :: d :: t))) ?_
     rw[hR,e,e2,ac9,aen]
     exact rfl
    refine ai (ai (by decide) (by decide)) ?_
    refine ai rfl ?_
    refine ei c (ai (ai (by decide) i0) ?_)
    refine ah (p:=c=122) (by exact dN rfl) (fun m122=>?_) (fun m122=>?_)
    ·have e2:dP c=true:=by rw[m122];rfl
     refine eN (bP (resE (c :: d :: t))) ?_
     rw[hR,e,e2,ac9,aen]
     exact rfl
    have e2:dP c=false:=by unfold dP;simp[m97,m98,m99,m100,m101,m102,m116,m120,m121,m122]
    refine eN (bP (resE (c :: d :: t))) ?_
    rw[hR,e2,aoc,arK,hN]
    exact rfl
 ·have hN:(oC c&&((d :: t)==[112]||(d :: t)==[109]))=false:=by
   cases t with
   | nil=>exact absurd rfl h2
   | cons y t=>simp
  refine fR ((d :: t).length) (fun k=>[(3,.s (iA (k+1:Nat)))]) (fun k=>[]) (fun k=>∀x∈(d :: t).take k,eu x=true) (by exact (ai (ai (fun _=>rfl) (iE (by omega))) rfl)) (by exact trivial) ?_ ?_
  ·exact fun y hy=>absurd hy (by simp)
  intro (k:Nat) ⟨hk,hall⟩
  refine ah (p:=k<(d :: t).length) (by exact aB (by rw[hz];simp only[aog];omega)) (fun h8=>?_) (fun h8=>?_)
  ·refine ei ((d :: t).getD k 0) (ai (ai (aaT _) (nI (s:=c :: d :: t) (k:=k+1) (by simp at h8 ⊢;omega))) ?_)
   refine cK (yN) ((d :: t).getD k 0) (by exact rfl) (trivial) ?_
   refine aC (b:=!eu ((d :: t).getD k 0)) rfl (fun h9=>?_) (fun h9=>?_)
   ·have e:(d :: t).all eu=false:=by
     rw[asa]
     exact ⟨_,aay (bB 0 h8),by simpa using h9⟩
    refine eN (bP (resE (c :: d :: t))) ?_
    rw[hR,e,ar0,arK,hN]
    exact rfl
   refine nX (k) (ai (ai (fun _=>rfl) (aH (by omega))) rfl) trivial ?_
   intro y hy
   rw[aO 0 h8] at hy
   rcases acw.1 hy with hy | hy
   ·exact hall y hy
   ·simp only[acC] at hy;subst hy;simpa using h9
  ·obtain rfl:k=(d :: t).length:=by omega
   rw[acr] at hall
   have e:(d :: t).all eu=true:=alQ.2 hall
   refine ai (by decide) ?_
   refine ei (mD.unroll 11) ?_
   refine ai (ai (by decide) (by decide)) ?_
   refine ai rfl ?_
   refine ei c (ai (ai (by decide) i0) ?_)
   refine ah (p:=c=97) (by exact dN rfl) (fun m97=>?_) (fun m97=>?_)
   ·have e2:dP c=true:=by rw[m97];rfl
    refine eN (bP (resE (c :: d :: t))) ?_
    rw[hR,e,e2,ac9,aen]
    exact rfl
   refine ai (ai (by decide) (by decide)) ?_
   refine ai rfl ?_
   refine ei c (ai (ai (by decide) i0) ?_)
   refine ah (p:=c=98) (by exact dN rfl) (fun m98=>?_) (fun m98=>?_)
   ·have e2:dP c=true:=by rw[m98];rfl
    refine eN (bP (resE (c :: d :: t))) ?_
    rw[hR,e,e2,ac9,aen]
    exact rfl
   refine ai (ai (by decide) (by decide)) ?_
   refine ai rfl ?_
   refine ei c (ai (ai (by decide) i0) ?_)
   refine ah (p:=c=99) (by exact dN rfl) (fun m99=>?_) (fun m99=>?_)
   ·have e2:dP c=true:=by rw[m99];rfl
    refine eN (bP (resE (c :: d :: t))) ?_
    rw[hR,e,e2,ac9,aen]
    exact rfl
   refine ai (ai (by decide) (by decide)) ?_
   refine ai rfl ?_
   refine ei c (ai (ai (by decide) i0) ?_)
   refine ah (p:=c=100) (by exact dN rfl) (fun m100=>?_) (fun m100=>?_)
   ·have e2:dP c=true:=by rw[m100];rfl
    refine eN (bP (resE (c :: d :: t))) ?_
    rw[hR,e,e2,ac9,aen]
    exact rfl
   refine ai (ai (by decide) (by decide)) ?_
   refine ai rfl ?_
   refine ei c (ai (ai (by decide) i0) ?_)
   refine ah (p:=c=101) (by exact dN rfl) (fun m101=>?_) (fun m101=>?_)
   ·have e2:dP c=true:=by rw[m101];rfl
    refine eN (bP (resE (c :: d :: t))) ?_
    rw[hR,e,e2,ac9,aen]
    exact rfl
   refine ai (ai (by decide) (by decide)) ?_
   refine ai rfl ?_
   refine ei c (ai (ai (by decide) i0) ?_)
   refine ah (p:=c=102) (by exact dN rfl) (fun m102=>?_) (fun m102=>?_)
   ·have e2:dP c=true:=by rw[m102];rfl
    refine eN (bP (resE (c :: d :: t))) ?_
    rw[hR,e,e2,ac9,aen]
    exact rfl
   refine ai (ai (by decide) (by decide)) ?_
   refine ai rfl ?_
   refine ei c (ai (ai (by decide) i0) ?_)
   refine ah (p:=c=116) (by exact dN rfl) (fun m116=>?_) (fun m116=>?_)
   ·have e2:dP c=true:=by rw[m116];rfl
    refine eN (bP (resE (c :: d :: t))) ?_
    rw[hR,e,e2,ac9,aen]
    exact rfl
   refine ai (ai (by decide) (by decide)) ?_
   refine ai rfl ?_
   refine ei c (ai (ai (by decide) i0) ?_)
   refine ah (p:=c=120) (by exact dN rfl) (fun m120=>?_) (fun m120=>?_)
   ·have e2:dP c=true:=by rw[m120];rfl
    refine eN (bP (resE (c :: d :: t))) ?_
    rw[hR,e,e2,ac9,aen]
    exact rfl
   refine ai (ai (by decide) (by decide)) ?_
   refine ai rfl ?_
   refine ei c (ai (ai (by decide) i0) ?_)
   refine ah (p:=c=121) (by exact dN rfl) (fun m121=>?_) (fun m121=>?_)
   ·have e2:dP c=true:=by rw[m121];rfl
    refine eN (bP (resE (c :: d :: t))) ?_
    rw[hR,e,e2,ac9,aen]
    exact rfl
   refine ai (ai (by decide) (by decide)) ?_
   refine ai rfl ?_
   refine ei c (ai (ai (by decide) i0) ?_)
   refine ah (p:=c=122) (by exact dN rfl) (fun m122=>?_) (fun m122=>?_)
   ·have e2:dP c=true:=by rw[m122];rfl
    refine eN (bP (resE (c :: d :: t))) ?_
    rw[hR,e,e2,ac9,aen]
    exact rfl
   have e2:dP c=false:=by unfold dP;simp[m97,m98,m99,m100,m101,m102,m116,m120,m121,m122]
   refine eN (bP (resE (c :: d :: t))) ?_
   rw[hR,e2,aoc,arK,hN]
   exact rfl
def aal (l:List UInt8) (k:Nat):PV:=bP (l.any fun y=>y.toNat==k)
theorem xL:∀(l:List Value) (k:Nat),nG (vals l) k=.val (l.getD k undef)
 | [],k=>rfl
 | v :: l,0=>rfl
 | v :: l,k+1=>by
  show nG (vals l) k=_
  rw[xL l k];rfl
theorem agU (n:Nat) (v:Value) {k:Nat} (h:k<n):(List.replicate n v).getD k undef=v:=by
 rw[aai,awJ,if_pos h];rfl
theorem apC {l:List UInt8} {c:UInt8} (k:Nat):vS (aal l) c.toNat (bP true) k=aal (l++[c]) k:=by
 unfold vS aal
 rw[axW]
 by_cases h:k=c.toNat
 ·rw[if_pos h];subst h;simp
 ·rw[if_neg h]
  have:(c.toNat==k)=false:=by simpa using fun e=>h e.symm
  simp[this]
def aur:Spec:=bq (fun l:List UInt8=>[sA l]) (fun l=>l.length≤1000∧∀y∈l,y.toNat<128) (fun l=>.tup [.arr 256 (aal l),bP true])
theorem arf:av Tryz.prog 293 aur:=by
 refine vF Tryz.func293 ?_
 rintro (l:List UInt8) hpre
 obtain ⟨hl,ha⟩:=hpre
 have hl:l.length≤1000:=hl
 have hz:=bY l
 refine fR (l.length) (fun k=>[(4,.s (iA k))]) (fun k=>[⟨0,323,[.ob (.arr 323 256 (aal (l.take k)))]⟩]) (fun k=>True) ?_ ?_ ?_ ?_
 ·exact (ai (ai (fun _=>rfl) (iE (by omega))) rfl)
 ·refine (ai (ai rfl (ai rfl ?_)) trivial)
  intro k hk
  show nG (vals (List.replicate 256 (.bool false))) k=_
  rw[xL,agU 256 _ hk];rfl
 ·trivial
 intro (k:Nat) ⟨hk,_⟩
 refine ah (p:=k<l.length) (by exact aB (by rw[hz];omega)) (fun h1=>?_) (fun h1=>?_)
 ·refine ei (l.getD k 0) (ai (ai (aaT _) (nI h1)) ?_)
  have hc:=ha _ (aay (bB 0 h1))
  refine bG (128≤(l.getD k 0).toNat) (fun h2=>?_) fun h2=>?_
  ·omega
  refine ai (ai (aaT _) (by show (((l.getD k 0).toNat:Nat):Int)<256;omega)) ?_
  refine ai (by show 0+(((l.getD k 0).toNat:Nat):Int).toNat*1<256;rw[ad9];omega) ?_
  refine nX (k) (ai (ai (fun _=>rfl) (aH (by omega))) rfl) (ai (ai rfl (ai rfl ?_)) trivial) trivial
  intro j hj
  show vS (aal (l.take k)) (0+(((l.getD k 0).toNat:Nat):Int).toNat*1) (bP true) j=_
  rw[ad9,auM,ajN,apC,aO 0 h1]
 ·obtain rfl:k=l.length:=by omega
  rw[acr]
  refine eN _ ?_
  exact (ai (ai rfl (fun _ _=>rfl)) rfl)
def gQ (l:List UInt8) (c:UInt8):Bool:=l.any fun y=>y.toNat==c.toNat
def av2:Spec:={ A:=List UInt8×UInt8,args:=fun a=>[.own 0 0,cA a.2],objs:=fun a=>[.arr 323 256 (aal a.1)],pre:=fun _=>True,res:=fun a=>bP (gQ a.1 a.2),objs':=fun _=>[],fresh:=true,ro:=1 }
theorem alX:av Tryz.prog 306 av2:=by
 refine vF Tryz.func306 ?_
 rintro (a:List UInt8×UInt8) hpre
 have hc:a.2.toNat<256:=a.2.toNat_lt
 have e0:0+((a.2.toNat:Nat):Int).toNat*1=a.2.toNat:=by simp
 refine ai (ai (aaT _) (by show ((a.2.toNat:Nat):Int)<256;omega)) ?_
 refine ai (by show 0+((a.2.toNat:Nat):Int).toNat*1<256;rw[e0];exact hc) ?_
 refine ai (ai (fun _=>trivial) ?_) trivial
 show (a.1.any fun y=>y.toNat==0+((a.2.toNat:Nat):Int).toNat*1)=_
 rw[e0];rfl
def xq (p:UInt8→Bool) (s:List UInt8):Nat→Nat
 | 0=>0
 | k+1=>if p (s.getD k 0) then xq p s k else k+1
def trR (p:UInt8→Bool) (s:List UInt8):List UInt8:=s.take (xq p s s.length)
theorem akt (s:List UInt8) (k:Nat):(strOf s).extract 0 k=strOf (s.take k):=by
 apply ByteArray.ext
 simp[strOf]
theorem akp (s:List UInt8) (k:Nat):(strOf s).extract k (strOf s).size=strOf (s.drop k):=by
 apply ByteArray.ext
 have:(strOf s).size=s.length:=bY s
 rw[this]
 simp[strOf]
 rw[auV (by simp)]
def avj (g:List UInt8→List UInt8→List UInt8):Spec:={ A:=List UInt8×List UInt8,args:=fun a=>[sA a.2,.own 0 0],objs:=fun a=>[.arr 323 256 (aal a.1)],pre:=fun a=>a.2.length≤1000000,res:=fun a=>sP (g a.1 a.2),objs':=fun _=>[],fresh:=true,ro:=1 }
theorem aqP:av Tryz.prog 295 (avj fun l s=>trR (gQ l) s):=by
 refine vF Tryz.func295 ?_
 rintro (a:List UInt8×List UInt8) hpre
 have hl:a.2.length≤1000000:=hpre
 refine ei (mD.inv { X:=Nat,up:=fun k=>[(0,.s (sA (a.2.take k)))],uo:=fun _=>[],inv:=fun k=>k≤a.2.length∧xq (gQ a.1) a.2 a.2.length=xq (gQ a.1) a.2 k,meas:=fun k=>k,x0:=a.2.length }) ?_
 refine ai (ai (ai (by exact (a4 (ai rfl rfl))) (ai ?_ ?_)) ?_) (ai ?_ ?_)
 ·refine (ai (ai nof ?_) rfl)
  show strOf a.2=strOf (a.2.take a.2.length)
  rw[acr]
 ·exact trivial
 ·rfl
 ·exact ⟨acn _,rfl⟩
 intro (k:Nat) ⟨hk,hinv⟩
 have htl:(a.2.take k).length=k:=by rw[arM];omega
 have hz:(strOf (a.2.take k)).size=k:=by rw[bY,htl]
 refine ah (p:=0<k) (by exact aB (by show (0:Int)<(((strOf (a.2.take k)).size:Nat):Int)↔_;rw[hz];omega)) (fun h1=>?_) (fun h1=>?_)
 ·obtain ⟨k,rfl⟩:∃j,k=j+1:=⟨k-1,by omega⟩
  have hw:IntKind.i64.wrap ((((strOf (a.2.take (k+1))).size:Nat):Int)-1)=(k:Int):=by rw[hz,jT (by omega) (by omega)];omega
  have hg:(a.2.take (k+1)).getD k 0=a.2.getD k 0:=by rw[aai,aai,avp,if_pos (by omega)]
  refine ei (a.2.getD k 0) (ai (ai (by rw[hw];exact aaT _) (by rw[hw,←hg];exact nI (by omega))) ?_)
  refine ei _ (ai (alX) (ei ((a.1,a.2.getD k 0)) (ei [0] (ai (a4 (ai (fun _=>Or.inl rfl) (ai nof (Or.inl rfl)))) (ai (by exact (ai (ai rfl rfl) rfl)) (ai (by exact (ai rfl (ai rfl (fun _ _=>rfl)))) (ai (trivial) ?_)))))))
  have hT:xq (gQ a.1) a.2 (k+1)=if gQ a.1 (a.2.getD k 0) then xq (gQ a.1) a.2 k else k+1:=rfl
  refine aC (b:=!gQ a.1 (a.2.getD k 0)) rfl (fun h2=>?_) (fun h2=>?_)
  ·have h2:gQ a.1 (a.2.getD k 0)=false:=by simpa using h2
   have e:trR (gQ a.1) a.2=a.2.take (k+1):=by
    unfold trR;rw[hinv,hT,h2];rfl
   refine eN (sP (trR (gQ a.1) a.2)) ?_
   rw[e]
   exact rfl
  ·have h2:gQ a.1 (a.2.getD k 0)=true:=by simpa using h2
   refine ai (ai (by decide) (ai (by rw[hw];exact aaT _) (by rw[hw,hz];omega))) ?_
   refine ei (k) (ai (ai rfl rfl) (ai (ai ?_ ?_) (ai ?_ ?_)))
   ·refine (ai rfl (ai (ai rfl rfl) (ai (ai rfl rfl) (ai (ai (ai (fun _=>rfl) ?_) rfl) trivial))))
    show (strOf (a.2.take (k+1))).extract 0 (IntKind.i64.wrap ((((strOf (a.2.take (k+1))).size:Nat):Int)-1)).toNat=strOf (a.2.take k)
    rw[hw,ad9,akt,List.take_take,Nat.min_eq_left (by omega)]
   ·rfl
   ·exact ⟨by omega,by rw[hinv,hT,h2];rfl⟩
   ·show k<k+1;omega
 ·obtain rfl:k=0:=by omega
  have e:trR (gQ a.1) a.2=a.2.take 0:=by
   unfold trR;rw[hinv];rfl
  refine eN (sP (trR (gQ a.1) a.2)) ?_
  rw[e]
  exact rfl
theorem aqm:av Tryz.prog 294 (avj fun l s=>s.dropWhile (gQ l)):=by
 refine vF Tryz.func294 ?_
 rintro (a:List UInt8×List UInt8) hpre
 have hl:a.2.length≤1000000:=hpre
 refine ei (mD.inv { X:=Nat,up:=fun k=>[(0,.s (sA (a.2.drop k)))],uo:=fun _=>[],inv:=fun k=>k≤a.2.length∧a.2.dropWhile (gQ a.1)=(a.2.drop k).dropWhile (gQ a.1),meas:=fun k=>a.2.length-k,x0:=0 }) ?_
 refine ai (ai (ai (by exact (a4 (ai rfl rfl))) (ai ?_ ?_)) ?_) (ai ?_ ?_)
 ·exact (ai (ai nof rfl) rfl)
 ·exact trivial
 ·rfl
 ·exact ⟨ah8 _,rfl⟩
 intro (k:Nat) ⟨hk,hinv⟩
 have htl:(a.2.drop k).length=a.2.length-k:=List.length_drop
 have hz:(strOf (a.2.drop k)).size=a.2.length-k:=by rw[bY,htl]
 refine ah (p:=k<a.2.length) (by exact aB (by show (0:Int)<(((strOf (a.2.drop k)).size:Nat):Int)↔_;rw[hz];omega)) (fun h1=>?_) (fun h1=>?_)
 ·have hcons:a.2.drop k=a.2.getD k 0 :: a.2.drop (k+1):=by
   rw[axv h1,aai,aau h1];rfl
  refine ei (a.2.getD k 0) (ai (ai (by decide) (by rw[hcons];rfl)) ?_)
  refine ei _ (ai (alX) (ei ((a.1,a.2.getD k 0)) (ei [0] (ai (a4 (ai (fun _=>Or.inl rfl) (ai nof (Or.inl rfl)))) (ai (by exact (ai (ai rfl rfl) rfl)) (ai (by exact (ai rfl (ai rfl (fun _ _=>rfl)))) (ai (trivial) ?_)))))))
  refine aC (b:=!gQ a.1 (a.2.getD k 0)) rfl (fun h2=>?_) (fun h2=>?_)
  ·have h2:gQ a.1 (a.2.getD k 0)=false:=by simpa using h2
   have e:a.2.dropWhile (gQ a.1)=a.2.drop k:=by
    rw[hinv,hcons,axZ,if_neg (by rw[h2];decide)]
   refine eN (sP (a.2.dropWhile (gQ a.1))) ?_
   rw[e]
   exact rfl
  ·have h2:gQ a.1 (a.2.getD k 0)=true:=by simpa using h2
   refine ai (ai (by decide) (ai (by rw[hz];omega) (Int.le_refl _))) ?_
   refine ei ((k+1)) (ai (ai rfl rfl) (ai (ai ?_ ?_) (ai ?_ ?_)))
   ·refine (ai rfl (ai (ai rfl rfl) (ai (ai rfl rfl) (ai (ai (ai (fun _=>rfl) ?_) rfl) trivial))))
    show (strOf (a.2.drop k)).extract 1 ((((strOf (a.2.drop k)).size:Nat):Int)).toNat=strOf (a.2.drop (k+1))
    rw[ad9,akp,List.drop_drop]
   ·rfl
   ·exact ⟨h1,by rw[hinv,hcons,axZ,if_pos h2]⟩
   ·show a.2.length-(k+1)<a.2.length-k;omega
 ·have e:a.2.dropWhile (gQ a.1)=a.2.drop k:=by
   rw[hinv,axL (by omega)];rfl
  refine eN (sP (a.2.dropWhile (gQ a.1))) ?_
  rw[e]
  exact rfl
def nK:List UInt8:=[48,49,50,51,52,53,54,55,56,57]
def aiA (s:List UInt8):List UInt8:=(trR (gQ nK) s).dropWhile (gQ nK)
theorem asE:av Tryz.prog 285 (bq (fun s:List UInt8=>[sA s,sA nK]) (fun s=>s.length≤1000000) (fun s=>sP (aiA s))):=by
 refine vF Tryz.func285 ?_
 rintro (s:List UInt8) hpre
 have hl:s.length≤1000000:=hpre
 refine ah (p:=s=[]) (by show (s==[])=true↔_;exact beq_iff_eq) (fun h1=>?_) (fun h1=>?_)
 ·subst h1
  refine eN _ ?_
  exact rfl
 refine cK (arf) (nK) (by exact rfl) (⟨by show nK.length≤1000;decide,by decide⟩) ?_
 refine ei _ (ai (aqP) (ei ((nK,s)) (ei [0] (ai (a4 (ai (fun _=>Or.inl rfl) (ai nof (Or.inl rfl)))) (ai (by exact (ai rfl (ai rfl rfl))) (ai (by exact (ai rfl (ai rfl (fun _ _=>rfl)))) (ai (hl) ?_)))))))
 refine ei _ (ai (aqm) (ei ((nK,trR (gQ nK) s)) (ei [0] (ai (a4 (ai (fun _=>Or.inl rfl) (ai nof (Or.inl rfl)))) (ai (by exact (ai rfl (ai rfl rfl))) (ai (by exact (ai rfl (ai rfl (fun _ _=>rfl)))) (ai ((by show (trR (gQ nK) s).length≤1000000;unfold trR;rw[arM];omega)) ?_)))))))
 refine eN _ ?_
 exact rfl
theorem aqJ (c:UInt8):gQ nK c=eu c:=by
 rw[arX]
 unfold gQ nK eu
 simp only[axF,axX,axM,aoU,aaX,beq_iff_eq,decide_eq_true_eq]
 have h48:(48:UInt8).toNat=48:=rfl
 have h49:(49:UInt8).toNat=49:=rfl
 have h50:(50:UInt8).toNat=50:=rfl
 have h51:(51:UInt8).toNat=51:=rfl
 have h52:(52:UInt8).toNat=52:=rfl
 have h53:(53:UInt8).toNat=53:=rfl
 have h54:(54:UInt8).toNat=54:=rfl
 have h55:(55:UInt8).toNat=55:=rfl
 have h56:(56:UInt8).toNat=56:=rfl
 have h57:(57:UInt8).toNat=57:=rfl
 omega
theorem al6 {p:UInt8→Bool} {s:List UInt8}:∀{k:Nat},(∀j,j<k→p (s.getD j 0)=true)→xq p s k=0
 | 0,_=>rfl
 | k+1,h=>by rw[xq,if_pos (h k (by omega))];exact al6 fun j hj=>h j (by omega)
theorem alJ {p:UInt8→Bool} {s:List UInt8}:∀{k:Nat},xq p s k≠0→∃j,xq p s k=j+1∧p (s.getD j 0)=false∧j<k
 | 0,h=>absurd rfl h
 | k+1,h=>by
  by_cases hp:p (s.getD k 0)=true
  ·rw[xq,if_pos hp] at h ⊢
   obtain ⟨j,h1,h2,h3⟩:=alJ h
   exact ⟨j,h1,h2,by omega⟩
  ·rw[xq,if_neg hp]
   exact ⟨k,rfl,by simpa using hp,by omega⟩
theorem ah1 {p:UInt8→Bool}:∀{l:List UInt8},l.dropWhile p=[]↔∀x∈l,p x=true
 | []=>by simp
 | y :: l=>by
  rw[axZ]
  by_cases h:p y=true
  ·rw[if_pos h,ah1];simp[h]
  ·rw[if_neg h];simp[h]
theorem apb (s:List UInt8):(aiA s==[])=s.all eu:=by
 have hset:gQ nK=eu:=funext aqJ
 unfold aiA
 rw[hset,arX,beq_iff_eq,ah1,alQ]
 constructor
 ·intro h
  by_cases h0:xq eu s s.length=0
  ·intro x hx
   refine Classical.byContradiction fun hn=>?_
   obtain ⟨k,hk,rfl⟩:=aoG hx
   have:∀m,k<m→xq eu s m≠0:=by
    intro m hm
    induction m with
    | zero=>omega
    | succ m ih=>
     rw[xq]
     by_cases e:k=m
     ·subst e
      rw[if_neg (by rw[aai,aau hk];exact hn)]
      omega
     ·split
      ·exact ih (by omega)
      ·omega
   exact this _ hk h0
  ·obtain ⟨j,h1,h2,h3⟩:=alJ h0
   have:s.getD j 0∈trR eu s:=by
    unfold trR
    rw[h1,aO 0 h3];simp
   have:=h _ this
   rw[h2] at this;cases this
 ·intro h x hx
  have:xq eu s s.length=0:=al6 fun j hj=>h _ (aay (bB 0 hj))
  unfold trR at hx
  rw[this] at hx;simp at hx
theorem apO:av Tryz.prog 276 (bq (fun s:List UInt8=>[sA s]) (fun s=>s.length≤1000000) (fun s=>bP (!s.isEmpty&&s.all eu))):=by
 refine vF Tryz.func276 ?_
 rintro (s:List UInt8) hpre
 have hl:s.length≤1000000:=hpre
 refine aW (p:=s=[]) (by show (s != [])=true↔_;exact bne_iff_ne) (fun h1=>?_) (fun h1=>?_)
 ·refine cK (asE) (s) (by exact (ai rfl rfl)) (hl) ?_
  have h2:s.isEmpty=false:=by cases s with | nil=>exact absurd rfl h1 | cons x l=>rfl
  refine eN (bP (!s.isEmpty&&s.all eu)) ?_
  rw[show (!s.isEmpty&&s.all eu)=(aiA s==[]) by rw[h2,apb];rfl]
  exact rfl
 ·refine eN (bP (!s.isEmpty&&s.all eu)) ?_
  rw[show (!s.isEmpty&&s.all eu)=false by rw[h1];rfl]
  exact rfl
theorem alr (c:UInt8):(([97,98,99,100,101,102]:List UInt8).any fun y=>c==y)=oC c:=by
 rw[arX]
 unfold oC
 have h97:(97:UInt8).toNat=97:=rfl
 have h98:(98:UInt8).toNat=98:=rfl
 have h99:(99:UInt8).toNat=99:=rfl
 have h100:(100:UInt8).toNat=100:=rfl
 have h101:(101:UInt8).toNat=101:=rfl
 have h102:(102:UInt8).toNat=102:=rfl
 simp only[axF,axX,axM,aoU,aaX,beq_iff_eq,decide_eq_true_eq,←UInt8.toNat_inj]
 omega
theorem atc:av Tryz.prog 251 (bq (fun s:List UInt8=>[sA s]) (fun s=>s.length≤1000000) (fun s=>bP (resE s))):=by
 refine vF Tryz.func251 ?_
 rintro (s:List UInt8) hpre
 have hl:s.length≤1000000:=hpre
 refine ah (p:=s=[]) (by show (s==[])=true↔_;exact beq_iff_eq) (fun h1=>?_) (fun h1=>?_)
 ·subst h1
  refine eN _ ?_
  exact rfl
 obtain ⟨c,t,rfl⟩:∃c t,s=c :: t:=by
  cases s with
  | nil=>exact absurd rfl h1
  | cons c t=>exact ⟨c,t,rfl⟩
 have hz:(strOf (c :: t)).size=t.length+1:=by rw[bY];rfl
 have e1:(strOf (c :: t)).extract (0:Int).toNat (1:Int).toNat=strOf [c]:=akt (c :: t) 1
 have e2:(strOf (c :: t)).extract (1:Int).toNat ((((strOf (c :: t)).size:Nat):Int)).toNat=strOf t:=by rw[ad9];exact akp (c :: t) 1
 have hR:resE (c :: t)=(!t.isEmpty&&((dP c&&t.all eu)||(oC c&&(t==[112]||t==[109])))):=rfl
 have b1:(0:Int)≤0∧(0:Int)≤1∧(1:Int)≤(((strOf (c :: t)).size:Nat):Int):=⟨by decide,by decide,by rw[hz];omega⟩
 have b2:(0:Int)≤1∧(1:Int)≤(((strOf (c :: t)).size:Nat):Int)∧(((strOf (c :: t)).size:Nat):Int)≤(((strOf (c :: t)).size:Nat):Int):=⟨by decide,by rw[hz];omega,Int.le_refl _⟩
 have ht:t.length≤1000000:=by simp at hl;omega
 have e3:∀y:UInt8,(((strOf (c :: t)).extract (1:Int).toNat ((((strOf (c :: t)).size:Nat):Int)).toNat).data.toList==[y])=true↔t=[y]:=fun y=>by rw[e2];exact beq_iff_eq
 refine ai b1 ?_
 refine ei _ (ai (ag1) (ei (([97,98,99,100,101,102,116,120,121,122],c)) (ei [] (ai (a4 (ai (fun _=>Or.inl rfl) (ai nof (Or.inl rfl)))) (ai ?_ (ai (by exact trivial) (ai (trivial) ?_)))))))
 ·refine (ai rfl ?_)
  exact e1
 refine ah (p:=dP c=true) (by exact Iff.rfl) (fun h2=>?_) (fun h2=>?_)
 ·refine ai b2 ?_
  refine ei _ (ai (apO) (ei (t) (ei [] (ai (a4 (ai (fun _=>Or.inl rfl) (ai nof (Or.inl rfl)))) (ai ?_ (ai (by exact trivial) (ai (ht) ?_)))))))
  ·skip
   exact e2
  refine ah (p:=(!t.isEmpty&&t.all eu)=true) (by exact Iff.rfl) (fun h3=>?_) (fun h3=>?_)
  ·refine eN (bP (resE (c :: t))) ?_
   rw[show resE (c :: t)=true by rw[hR,h2];simp at h3 ⊢;exact ⟨h3.1,.inl h3.2⟩]
   exact rfl
  ·have hN:resE (c :: t)=(oC c&&(t==[112]||t==[109])):=by
    rw[hR]
    cases t with
    | nil=>simp
    | cons y t=>
     have h3:¬((y :: t).all eu)=true:=fun e=>h3 (by rw[e];rfl)
     rw[awF.2 h3];simp
   refine ai b1 ?_
   refine ei _ (ai (ag1) (ei (([97,98,99,100,101,102],c)) (ei [] (ai (a4 (ai (fun _=>Or.inl rfl) (ai nof (Or.inl rfl)))) (ai ?_ (ai (by exact trivial) (ai (trivial) ?_)))))))
   ·refine (ai rfl ?_)
    exact e1
   refine ah (p:=oC c=true) (by rw[alr]) (fun h4=>?_) (fun h4=>?_)
   ·refine ai b2 ?_
    refine ah (p:=t=[112]) (by exact e3 112) (fun h5=>?_) (fun h5=>?_)
    ·refine eN (bP (resE (c :: t))) ?_
     rw[hN,h4,h5]
     exact rfl
    ·refine ai b2 ?_
     refine eN (bP (resE (c :: t))) ?_
     rw[hN,h4,e2]
     skip
     show (t==[109])=(true&&(t==[112]||t==[109]))
     rw[show (t==[112])=false by simpa using h5];rfl
   ·refine eN (bP (resE (c :: t))) ?_
    rw[hN,awF.2 h4,aoc]
    exact rfl
 ·have hN:resE (c :: t)=(oC c&&(t==[112]||t==[109])):=by
   rw[hR,awF.2 h2]
   cases t with
   | nil=>simp
   | cons y t=>simp
  refine ai b1 ?_
  refine ei _ (ai (ag1) (ei (([97,98,99,100,101,102],c)) (ei [] (ai (a4 (ai (fun _=>Or.inl rfl) (ai nof (Or.inl rfl)))) (ai ?_ (ai (by exact trivial) (ai (trivial) ?_)))))))
  ·refine (ai rfl ?_)
   exact e1
  refine ah (p:=oC c=true) (by rw[alr]) (fun h4=>?_) (fun h4=>?_)
  ·refine ai b2 ?_
   refine ah (p:=t=[112]) (by exact e3 112) (fun h5=>?_) (fun h5=>?_)
   ·refine eN (bP (resE (c :: t))) ?_
    rw[hN,h4,h5]
    exact rfl
   ·refine ai b2 ?_
    refine eN (bP (resE (c :: t))) ?_
    rw[hN,h4,e2]
    skip
    show (t==[109])=(true&&(t==[112]||t==[109]))
    rw[show (t==[112])=false by simpa using h5];rfl
  ·refine eN (bP (resE (c :: t))) ?_
   rw[hN,awF.2 h4,aoc]
   exact rfl
def fA (s:List UInt8):Int:=if 24<s.length then 17 else if s.isEmpty||!jg (s.getD 0 0)||resE s then 3 else if s.all dV then 0 else 3
theorem ati:av Tryz.prog 200 (bq (fun s:List UInt8=>[sA s]) (fun s=>True) (fun s=>iP (fA s))):=by
 refine vF Tryz.func200 ?_
 rintro (s:List UInt8) hpre
 have hz:=bY s
 refine ah (p:=24<s.length) (by exact aB (by rw[hz];omega)) (fun h1=>?_) (fun h1=>?_)
 ·refine eN (iP (fA s)) ?_
  rw[fA,if_pos h1]
  exact rfl
 have hN:fA s=if s.isEmpty||!jg (s.getD 0 0)||resE s then 3 else if s.all dV then 0 else 3:=by unfold fA;rw[if_neg h1]
 refine ah (p:=s=[]) (by show (s==[])=true↔_;exact beq_iff_eq) (fun h2=>?_) (fun h2=>?_)
 ·refine eN (iP (fA s)) ?_
  rw[show fA s=3 by rw[hN,h2];rfl]
  exact rfl
 have hp:0<s.length:=List.length_pos_iff.2 h2
 have he:s.isEmpty=false:=by cases s with | nil=>exact absurd rfl h2 | cons x l=>rfl
 have i0:(strOf s)[(0:Int).toNat]?=some (s.getD 0 0):=nI hp
 refine ei (s.getD 0 0) (ai (ai (by decide) i0) ?_)
 refine bL ((s.getD 0 0).toNat<97) (fun h3=>?_) fun h3=>?_
 ·have hsF:jg (s.getD 0 0)=false:=by unfold jg;rw[decide_eq_false (by omega)];rfl
  refine eN (iP (fA s)) ?_
  rw[show fA s=3 by rw[hN,he,hsF];simp]
  exact rfl
 refine ei (s.getD 0 0) (ai (ai (by decide) i0) ?_)
 refine bL (122<(s.getD 0 0).toNat) (fun h4=>?_) fun h4=>?_
 ·have hsF:jg (s.getD 0 0)=false:=by unfold jg;rw[decide_eq_false (show ¬(s.getD 0 0).toNat≤122 by omega)];simp
  refine eN (iP (fA s)) ?_
  rw[show fA s=3 by rw[hN,he,hsF];simp]
  exact rfl
 have hs:jg (s.getD 0 0)=true:=by unfold jg;rw[decide_eq_true (by omega),decide_eq_true (by omega)];rfl
 rw[he,hs,Bool.not_true,arK,arK] at hN
 refine cK (atc) (s) (by exact rfl) ((by show s.length≤1000000;omega)) ?_
 refine aC (b:=resE s) rfl (fun h5=>?_) (fun h5=>?_)
 ·refine eN (iP (fA s)) ?_
  rw[hN,if_pos h5]
  exact rfl
 rw[if_neg (by rw[h5];decide)] at hN
 refine fR (s.length) (fun k=>[(25,.s (iA k))]) (fun k=>[]) (fun k=>∀c∈s.take k,dV c=true) (by exact (ai (ai (fun _=>rfl) (iE (by omega))) rfl)) (by exact trivial) ?_ ?_
 ·exact fun y hy=>absurd hy (by simp)
 intro (k:Nat) ⟨hk,hall⟩
 refine ah (p:=k<s.length) (by exact aB (by rw[hz];omega)) (fun h6=>?_) (fun h6=>?_)
 ·refine ei (s.getD k 0) (ai (ai (aaT _) (nI h6)) ?_)
  refine cK (anx) (s.getD k 0) (by exact rfl) (trivial) ?_
  refine aC (b:=!dV (s.getD k 0)) rfl (fun h7=>?_) (fun h7=>?_)
  ·have h8:s.all dV=false:=by
    rw[asa]
    exact ⟨s.getD k 0,aay (bB 0 h6),by simpa using h7⟩
   refine eN (iP (fA s)) ?_
   rw[hN,if_neg (show ¬s.all dV=true by rw[h8];decide)]
   exact rfl
  refine nX (k) (ai (ai (fun _=>rfl) (aH (by omega))) rfl) trivial ?_
  intro y hy
  rw[aO 0 h6] at hy
  rcases acw.1 hy with hy | hy
  ·exact hall y hy
  ·simp only[acC] at hy;subst hy;simpa using h7
 ·obtain rfl:k=s.length:=by omega
  rw[acr] at hall
  refine eN (iP (fA s)) ?_
  rw[hN,if_pos (alQ.2 hall)]
  exact rfl
theorem arB:av Tryz.prog 172 (bq (fun s:List UInt8=>[sA s]) (fun s=>True) (fun s=>iP (fA s))):=by
 refine vF Tryz.func172 ?_
 rintro (s:List UInt8) hpre
 have hz:=bY s
 refine ah (p:=24<s.length) (by exact aB (by rw[hz];omega)) (fun h1=>?_) (fun h1=>?_)
 ·refine eN (iP (fA s)) ?_
  rw[fA,if_pos h1]
  exact rfl
 have hN:fA s=if s.isEmpty||!jg (s.getD 0 0)||resE s then 3 else if s.all dV then 0 else 3:=by unfold fA;rw[if_neg h1]
 refine ah (p:=s=[]) (by exact um (by rw[hz];cases s with | nil=>simp | cons x l=>simp;omega)) (fun h2=>?_) (fun h2=>?_)
 ·refine eN (iP (fA s)) ?_
  rw[show fA s=3 by rw[hN,h2];rfl]
  exact rfl
 have hp:0<s.length:=List.length_pos_iff.2 h2
 have he:s.isEmpty=false:=by cases s with | nil=>exact absurd rfl h2 | cons x l=>rfl
 have i0:(strOf s)[(0:Int).toNat]?=some (s.getD 0 0):=nI hp
 refine ei (s.getD 0 0) (ai (ai (by decide) i0) ?_)
 refine cK (ajx) (s.getD 0 0) (by exact rfl) (trivial) ?_
 refine aC (b:=!jg (s.getD 0 0)) rfl (fun h3=>?_) (fun h3=>?_)
 ·have hsF:jg (s.getD 0 0)=false:=by simpa using h3
  refine eN (iP (fA s)) ?_
  rw[show fA s=3 by rw[hN,he,hsF];simp]
  exact rfl
 have hs:jg (s.getD 0 0)=true:=by simpa using h3
 rw[he,hs,Bool.not_true,arK,arK] at hN
 refine cK (aq9) (s) (by exact rfl) ((by show s.length≤1000000;omega)) ?_
 refine aC (b:=resE s) rfl (fun h5=>?_) (fun h5=>?_)
 ·refine eN (iP (fA s)) ?_
  rw[hN,if_pos h5]
  exact rfl
 rw[if_neg (by rw[h5];decide)] at hN
 obtain ⟨c,t,rfl⟩:∃c t,s=c :: t:=by
  cases s with
  | nil=>exact absurd rfl h2
  | cons c t=>exact ⟨c,t,rfl⟩
 have hl2:t.length≤1000000:=by simp at h1;omega
 have hc0:dV c=true:=by
  have hs:jg c=true:=hs
  unfold dV;rw[hs];simp
 refine fR (t.length) (fun k=>[(3,.s (iA (k+1:Nat)))]) (fun k=>[]) (fun k=>∀c∈t.take k,dV c=true) (by exact (ai (ai (fun _=>rfl) (iE (by omega))) rfl)) (by exact trivial) ?_ ?_
 ·exact fun y hy=>absurd hy (by simp)
 intro (k:Nat) ⟨hk,hall⟩
 refine ah (p:=k<t.length) (by exact aB (by rw[hz];simp only[aog];omega)) (fun h6=>?_) (fun h6=>?_)
 ·have i1:(strOf (c :: t))[((k+1:Nat):Int).toNat]?=some (t.getD k 0):=nI (s:=c :: t) (k:=k+1) (by simp;omega)
  refine ei (t.getD k 0) (ai (ai (aaT _) i1) ?_)
  refine cK (yN) (t.getD k 0) (by exact rfl) (trivial) ?_
  refine aC (b:=!eu (t.getD k 0)) rfl (fun h7=>?_) (fun h7=>?_)
  ·have hd:eu (t.getD k 0)=false:=by simpa using h7
   refine ei (t.getD k 0) (ai (ai (aaT _) i1) ?_)
   refine cK (ajx) (t.getD k 0) (by exact rfl) (trivial) ?_
   refine aC (b:=!jg (t.getD k 0)) rfl (fun h9=>?_) (fun h9=>?_)
   ·have hm:jg (t.getD k 0)=false:=by simpa using h9
    refine ei (t.getD k 0) (ai (ai (aaT _) i1) ?_)
    refine bG (65≤(t.getD k 0).toNat) (fun h10=>?_) fun h10=>?_
    ·refine ei (t.getD k 0) (ai (ai (aaT _) i1) ?_)
     refine aW (p:=(t.getD k 0).toNat≤90) (by (rw[alO,decide_eq_false_iff_not];omega)) (fun h11=>?_) (fun h11=>?_)
     ·have hcap:uJ (t.getD k 0)=false:=by unfold uJ;rw[decide_eq_false h11];simp
      refine ei (t.getD k 0) (ai (ai (aaT _) i1) ?_)
      refine bN ((t.getD k 0).toNat=95) (fun hu=>?_) fun hu=>?_
      ·have h8:(c :: t).all dV=false:=by
        rw[asa]
        exact ⟨t.getD k 0,arU _ (aay (bB 0 h6)),by unfold dV;rw[hd,hm,hcap,decide_eq_false hu];decide⟩
       refine eN (iP (fA (c :: t))) ?_
       rw[hN,if_neg (show ¬(c :: t).all dV=true by rw[h8];decide)]
       exact rfl
      ·refine nX (k) (ai (ai (fun _=>rfl) (aH (by omega))) rfl) trivial ?_
       intro y hy
       rw[aO 0 h6] at hy
       rcases acw.1 hy with hy | hy
       ·exact hall y hy
       ·simp only[acC] at hy;subst hy;unfold dV;rw[decide_eq_true hu];simp
     ·have hcap:uJ (t.getD k 0)=true:=by unfold uJ;rw[decide_eq_true h10,decide_eq_true h11];rfl
      refine nX (k) (ai (ai (fun _=>rfl) (aH (by omega))) rfl) trivial ?_
      intro y hy
      rw[aO 0 h6] at hy
      rcases acw.1 hy with hy | hy
      ·exact hall y hy
      ·simp only[acC] at hy;subst hy;unfold dV;rw[hcap];simp
    ·have hcap:uJ (t.getD k 0)=false:=by unfold uJ;rw[decide_eq_false h10];simp
     refine ei (t.getD k 0) (ai (ai (aaT _) i1) ?_)
     refine bN ((t.getD k 0).toNat=95) (fun hu=>?_) fun hu=>?_
     ·have h8:(c :: t).all dV=false:=by
       rw[asa]
       exact ⟨t.getD k 0,arU _ (aay (bB 0 h6)),by unfold dV;rw[hd,hm,hcap,decide_eq_false hu];decide⟩
      refine eN (iP (fA (c :: t))) ?_
      rw[hN,if_neg (show ¬(c :: t).all dV=true by rw[h8];decide)]
      exact rfl
     ·refine nX (k) (ai (ai (fun _=>rfl) (aH (by omega))) rfl) trivial ?_
      intro y hy
      rw[aO 0 h6] at hy
      rcases acw.1 hy with hy | hy
      ·exact hall y hy
      ·simp only[acC] at hy;subst hy;unfold dV;rw[decide_eq_true hu];simp
   ·have hm:jg (t.getD k 0)=true:=by simpa using h9
    refine nX (k) (ai (ai (fun _=>rfl) (aH (by omega))) rfl) trivial ?_
    intro y hy
    rw[aO 0 h6] at hy
    rcases acw.1 hy with hy | hy
    ·exact hall y hy
    ·simp only[acC] at hy;subst hy;unfold dV;rw[hm];simp
  ·have hd:eu (t.getD k 0)=true:=by simpa using h7
   refine nX (k) (ai (ai (fun _=>rfl) (aH (by omega))) rfl) trivial ?_
   intro y hy
   rw[aO 0 h6] at hy
   rcases acw.1 hy with hy | hy
   ·exact hall y hy
   ·simp only[acC] at hy;subst hy;unfold dV;rw[hd];simp
 ·obtain rfl:k=t.length:=by omega
  rw[acr] at hall
  refine eN (iP (fA (c :: t))) ?_
  rw[hN,if_pos (alQ.2 (fun x hx=>by rcases ah3.1 hx with rfl | hx;exact hc0;exact hall x hx))]
  exact rfl
def xk (l:List (List UInt8)) (k:Nat):Int:=if ¬fA (l.getD k [])=0 then fA (l.getD k []) else if (l.take k).any (fun y=>l.getD k []==y)=true then 7 else 0
def fq (l:List (List UInt8)):Int:=if 16<l.length then 5 else dw (xk l) l.length
def al9:Spec:=bq (fun l:List (List UInt8)=>[ssA l]) (fun _=>True) (fun l=>iP (fq l))
theorem aoy:av Tryz.prog 147 al9:=by
 refine vF Tryz.func147 ?_
 rintro (l:List (List UInt8)) hpre
 refine bL (16<l.length) (fun h0=>?_) fun h0=>?_
 ·refine eN (iP (fq l)) ?_
  rw[fq,if_pos h0]
  exact rfl
 have hA:fq l=dw (xk l) l.length:=by unfold fq;rw[if_neg h0]
 refine fR (l.length) (fun k=>[(11,.s (iA k))]) (fun k=>[]) (fun k=>∀j,j<k→xk l j=0) (by exact (ai (ai (fun _=>rfl) (iE (by omega))) rfl)) (by exact trivial) ?_ ?_
 ·exact fun j hj=>absurd hj (aee _)
 intro (k:Nat) ⟨hk,hall⟩
 refine bL (k<l.length) (fun h1=>?_) fun h1=>?_
 ·refine iX (k) (l.length) ?_
  refine cK (ati) (l.getD k []) (by exact rfl) (trivial) ?_
  refine bN (fA (l.getD k [])=0) (fun h2=>?_) fun h2=>?_
  ·have e:xk l k=fA (l.getD k []):=by unfold xk;rw[if_pos h2]
   refine eN (iP (fq l)) ?_
   rw[hA,dJ h1 hall (by rw[e];exact h2),e]
   exact rfl
  refine ai (ai (by decide) (ai (aaT _) (by show (k:Int)≤(l.length:Int);omega))) (ai (fun _ _=>rfl) ?_)
  have htk:(l.take k).length=k:=by rw[arM];omega
  refine ei _ (ai (atX) (ei ((l.take k,l.getD k [])) (ei [] (ai (a4 (ai (fun _=>Or.inl rfl) (ai nof (Or.inl rfl)))) (ai ?_ (ai (by exact trivial) (ai ((by show (l.take k).length≤1000000;omega)) ?_)))))))
  ·refine (ai (ai ?_ ?_) rfl)
   ·show ((k:Int).toNat-(0:Int).toNat)=(l.take k).length
    rw[htk];simp
   ·intro j hj
    have hj:j<(k:Int).toNat-(0:Int).toNat:=hj
    show [sP (l.getD ((0:Int).toNat+j) [])]=_
    rw[show (0:Int).toNat+j=j by simp]
    exact as4 hk j (by simpa using hj)
  refine aC (b:=(l.take k).any (fun y=>l.getD k []==y)) rfl (fun h4=>?_) (fun h4=>?_)
  ·have e:xk l k=7:=by unfold xk;rw[if_neg (fun h=>h h2),if_pos h4]
   refine eN (iP (fq l)) ?_
   rw[hA,dJ h1 hall (by rw[e];decide),e]
   exact rfl
  refine nX (k) (ai (ai (fun _=>rfl) (aH (by omega))) rfl) trivial ?_
  intro j hj
  by_cases hjk:j=k
  ·subst hjk;unfold xk;rw[if_neg (fun h=>h h2),if_neg (by rw[h4];decide)]
  ·exact hall j (by omega)
 ·obtain rfl:k=l.length:=by omega
  refine eN (iP (fq l)) ?_
  rw[hA,gK hall]
  exact rfl
theorem af3 {α:Type} {p:α→Bool} {l:List α} {k:Nat} {d:α} (h:k<l.length) (hp:p (l.getD k d)=true):l.any p=true:=
 amb.2 ⟨_,aay (bB d h),hp⟩
theorem amx:av Tryz.prog 113 al9:=by
 refine vF Tryz.func113 ?_
 rintro (l:List (List UInt8)) hpre
 refine bL (16<l.length) (fun h0=>?_) fun h0=>?_
 ·refine eN (iP (fq l)) ?_
  rw[fq,if_pos h0]
  exact rfl
 have hA:fq l=dw (xk l) l.length:=by unfold fq;rw[if_neg h0]
 refine fR (l.length) (fun k=>[(3,.s (iA k))]) (fun k=>[]) (fun k=>∀j,j<k→xk l j=0) (by exact (ai (ai (fun _=>rfl) (iE (by omega))) rfl)) (by exact trivial) ?_ ?_
 ·exact fun j hj=>absurd hj (aee _)
 intro (k:Nat) ⟨hk,hall⟩
 refine bL (k<l.length) (fun h1=>?_) fun h1=>?_
 ·refine iX (k) (l.length) ?_
  refine cK (arB) (l.getD k []) (by exact rfl) (trivial) ?_
  refine bN (fA (l.getD k [])=0) (fun h2=>?_) fun h2=>?_
  ·have e:xk l k=fA (l.getD k []):=by unfold xk;rw[if_pos h2]
   refine eN (iP (fq l)) ?_
   rw[hA,dJ h1 hall (by rw[e];exact h2),e]
   exact rfl
  have htk:(l.take k).length=k:=by rw[arM];omega
  refine fR (k) (fun j=>[(5,.s (iA j))]) (fun j=>[]) (fun j=>∀y∈(l.take k).take j,(l.getD k []==y)=false) (by exact (ai (ai (fun _=>rfl) (iE (by omega))) rfl)) (by exact trivial) ?_ ?_
  ·exact fun y hy=>absurd hy (by simp)
  intro (j:Nat) ⟨hj,hno⟩
  refine bL (j<k) (fun h3=>?_) fun h3=>?_
  ·have hjl:j<(l.take k).length:=by omega
   have hg:(l.take k).getD j []=l.getD j []:=by rw[aai,aai,avp,if_pos h3]
   refine dR (.seq [0,1,2,3,4,5,6,7,8]) ?_
   refine iX (j) (l.length) ?_
   refine iX (k) (l.length) ?_
   refine ah (p:=l.getD j []=l.getD k []) (by exact beq_iff_eq) (fun h4=>?_) (fun h4=>?_)
   ·have e:xk l k=7:=by unfold xk;rw[if_neg (fun h=>h h2),if_pos (af3 hjl (by rw[hg,h4];exact beq_self_eq_true _))]
    refine eN (iP (fq l)) ?_
    rw[hA,dJ h1 hall (by rw[e];decide),e]
    exact rfl
   refine nX (j) (ai (ai (fun _=>rfl) (aH (by omega))) rfl) trivial ?_
   intro y hy
   rw[aO [] hjl] at hy
   rcases acw.1 hy with hy | hy
   ·exact hno y hy
   ·simp only[acC] at hy;subst hy;rw[hg];exact beq_eq_false_iff_ne.2 fun e=>h4 e.symm
  ·obtain rfl:j=k:=by omega
   have hno:∀y∈l.take j,(l.getD j []==y)=false:=fun y hy=>hno y (by rw[auV (by omega)];exact hy)
   refine nX (j) (ai (ai (fun _=>rfl) (aH (by omega))) rfl) trivial ?_
   intro i hi
   by_cases hjk:i=j
   ·subst hjk;unfold xk
    rw[if_neg (fun h=>h h2),if_neg]
    rw[amb]
    rintro ⟨y,hy,e⟩
    rw[hno y hy] at e;cases e
   ·exact hall i (by omega)
 ·obtain rfl:k=l.length:=by omega
  refine eN (iP (fq l)) ?_
  rw[hA,gK hall]
  exact rfl
def kR (act:Int) (l:List Sk) (k:Nat):Int:=if (l.getD k bV).1<0∨act≤(l.getD k bV).1 then 2 else if 0<k∧(l.getD k bV).1≤(l.getD (k-1) bV).1 then 9 else 0
def gG (act:Int) (s:Stp):Int:=if ¬dw (kR act s.st) s.st.length=0 then dw (kR act s.st) s.st.length else if s.wt<0∨1000000<s.wt then 2 else 0
def ar7:Spec:=bq (fun a:aA×Stp=>[jh a.1,stA a.2]) (fun a=>a.2.st.length≤1000000) (fun a=>iP (gG a.1.act a.2))
theorem step_ok:av Tryz.prog 148 ar7:=by
 refine vF Tryz.func148 ?_
 rintro (a:aA×Stp) hpre
 have hl:a.2.st.length≤1000000:=hpre
 refine fR (a.2.st.length) (fun k=>[(10,.s (iA k))]) (fun k=>[]) (fun k=>∀j,j<k→kR a.1.act a.2.st j=0) (by exact (ai (ai (fun _=>rfl) (iE (by omega))) rfl)) (by exact trivial) ?_ ?_
 ·exact fun j hj=>absurd hj (aee _)
 intro (k:Nat) ⟨hk,hall⟩
 refine bL (k<a.2.st.length) (fun h1=>?_) fun h1=>?_
 ·refine iX (k) (a.2.st.length) ?_
  refine ah (p:=(a.2.st.getD k bV).1<0) (aB Iff.rfl) (fun h2=>?_) (fun h2=>?_)
  ·have e:kR a.1.act a.2.st k=2:=by unfold kR;rw[if_pos (by omega)]
   have e2:dw (kR a.1.act a.2.st) a.2.st.length=2:=(dJ h1 hall (by rw[e];decide)).trans e
   refine eN (iP (gG a.1.act a.2)) ?_
   rw[gG,if_pos (show ¬dw (kR a.1.act a.2.st) a.2.st.length=0 by rw[e2];decide),e2]
   exact rfl
  refine ah (p:=a.1.act≤(a.2.st.getD k bV).1) (fV Iff.rfl) (fun h3=>?_) (fun h3=>?_)
  ·have e:kR a.1.act a.2.st k=2:=by unfold kR;rw[if_pos (by omega)]
   have e2:dw (kR a.1.act a.2.st) a.2.st.length=2:=(dJ h1 hall (by rw[e];decide)).trans e
   refine eN (iP (gG a.1.act a.2)) ?_
   rw[gG,if_pos (show ¬dw (kR a.1.act a.2.st) a.2.st.length=0 by rw[e2];decide),e2]
   exact rfl
  refine dR (.seq [0,1,2,3,4,5,6,7,8,9,10,11,12,13,14]) ?_
  refine bL (0<k) (fun h4=>?_) fun h4=>?_
  ·have hw:IntKind.i64.wrap ((k:Int)-1)=((k-1:Nat):Int):=amX h4 (by omega)
   refine ai (ai (by rw[hw];exact aaT _) (by rw[hw];show ((k-1:Nat):Int)<(a.2.st.length:Int);omega)) ?_
   refine ai rfl ?_
   refine ah (p:=(a.2.st.getD k bV).1≤(a.2.st.getD (k-1) bV).1) (by exact fV (by rw[hw];exact Iff.rfl)) (fun h5=>?_) (fun h5=>?_)
   ·have e:kR a.1.act a.2.st k=9:=by unfold kR;rw[if_neg (by omega),if_pos ⟨h4,h5⟩]
    have e2:dw (kR a.1.act a.2.st) a.2.st.length=9:=(dJ h1 hall (by rw[e];decide)).trans e
    refine eN (iP (gG a.1.act a.2)) ?_
    rw[gG,if_pos (show ¬dw (kR a.1.act a.2.st) a.2.st.length=0 by rw[e2];decide),e2]
    exact rfl
   ·refine nX (k) (ai (ai (fun _=>rfl) (aH (by omega))) rfl) trivial ?_
    intro j hj
    by_cases hjk:j=k
    ·subst hjk;unfold kR;rw[if_neg (by omega),if_neg (fun h=>h5 h.2)]
    ·exact hall j (by omega)
  ·refine nX (k) (ai (ai (fun _=>rfl) (aH (by omega))) rfl) trivial ?_
   intro j hj
   by_cases hjk:j=k
   ·subst hjk;unfold kR;rw[if_neg (by omega),if_neg (fun h=>h4 h.1)]
   ·exact hall j (by omega)
 ·obtain rfl:k=a.2.st.length:=by omega
  have e2:dw (kR a.1.act a.2.st) a.2.st.length=0:=gK hall
  have hA:gG a.1.act a.2=if a.2.wt<0∨1000000<a.2.wt then 2 else 0:=by unfold gG;rw[if_neg (fun h=>h e2)]
  refine bL (a.2.wt<0) (fun h6=>?_) fun h6=>?_
  ·refine eN (iP (gG a.1.act a.2)) ?_
   rw[hA,if_pos (.inl h6)]
   exact rfl
  refine bL (1000000<a.2.wt) (fun h7=>?_) fun h7=>?_
  ·refine eN (iP (gG a.1.act a.2)) ?_
   rw[hA,if_pos (.inr h7)]
   exact rfl
  ·refine eN (iP (gG a.1.act a.2)) ?_
   rw[hA,if_neg (fun h=>h.elim h6 h7)]
   exact rfl
theorem aq3:av Tryz.prog 114 ar7:=by
 refine vF Tryz.func114 ?_
 rintro (a:aA×Stp) hpre
 have hl:a.2.st.length≤1000000:=hpre
 refine fR (a.2.st.length) (fun k=>[(5,.s (iA k))]) (fun k=>[]) (fun k=>∀j,j<k→kR a.1.act a.2.st j=0) (by exact (ai (ai (fun _=>rfl) (iE (by omega))) rfl)) (by exact trivial) ?_ ?_
 ·exact fun j hj=>absurd hj (aee _)
 intro (k:Nat) ⟨hk,hall⟩
 refine bL (k<a.2.st.length) (fun h1=>?_) fun h1=>?_
 ·refine iX (k) (a.2.st.length) ?_
  refine ah (p:=(a.2.st.getD k bV).1<0) (aB Iff.rfl) (fun h2=>?_) (fun h2=>?_)
  ·have e:kR a.1.act a.2.st k=2:=by unfold kR;rw[if_pos (by omega)]
   have e2:dw (kR a.1.act a.2.st) a.2.st.length=2:=(dJ h1 hall (by rw[e];decide)).trans e
   refine eN (iP (gG a.1.act a.2)) ?_
   rw[gG,if_pos (show ¬dw (kR a.1.act a.2.st) a.2.st.length=0 by rw[e2];decide),e2]
   exact rfl
  refine ah (p:=a.1.act≤(a.2.st.getD k bV).1) (fV Iff.rfl) (fun h3=>?_) (fun h3=>?_)
  ·have e:kR a.1.act a.2.st k=2:=by unfold kR;rw[if_pos (by omega)]
   have e2:dw (kR a.1.act a.2.st) a.2.st.length=2:=(dJ h1 hall (by rw[e];decide)).trans e
   refine eN (iP (gG a.1.act a.2)) ?_
   rw[gG,if_pos (show ¬dw (kR a.1.act a.2.st) a.2.st.length=0 by rw[e2];decide),e2]
   exact rfl
  refine bL (0<k) (fun h4=>?_) fun h4=>?_
  ·have hw:IntKind.i64.wrap ((k:Int)-1)=((k-1:Nat):Int):=amX h4 (by omega)
   refine ai (ai (by rw[hw];exact aaT _) (by rw[hw];show ((k-1:Nat):Int)<(a.2.st.length:Int);omega)) ?_
   refine ai rfl ?_
   refine ah (p:=(a.2.st.getD k bV).1≤(a.2.st.getD (k-1) bV).1) (by exact fV (by rw[hw];exact Iff.rfl)) (fun h5=>?_) (fun h5=>?_)
   ·have e:kR a.1.act a.2.st k=9:=by unfold kR;rw[if_neg (by omega),if_pos ⟨h4,h5⟩]
    have e2:dw (kR a.1.act a.2.st) a.2.st.length=9:=(dJ h1 hall (by rw[e];decide)).trans e
    refine eN (iP (gG a.1.act a.2)) ?_
    rw[gG,if_pos (show ¬dw (kR a.1.act a.2.st) a.2.st.length=0 by rw[e2];decide),e2]
    exact rfl
   ·refine nX (k) (ai (ai (fun _=>rfl) (aH (by omega))) rfl) trivial ?_
    intro j hj
    by_cases hjk:j=k
    ·subst hjk;unfold kR;rw[if_neg (by omega),if_neg (fun h=>h5 h.2)]
    ·exact hall j (by omega)
  ·refine nX (k) (ai (ai (fun _=>rfl) (aH (by omega))) rfl) trivial ?_
   intro j hj
   by_cases hjk:j=k
   ·subst hjk;unfold kR;rw[if_neg (by omega),if_neg (fun h=>h4 h.1)]
   ·exact hall j (by omega)
 ·obtain rfl:k=a.2.st.length:=by omega
  have e2:dw (kR a.1.act a.2.st) a.2.st.length=0:=gK hall
  have hA:gG a.1.act a.2=if a.2.wt<0∨1000000<a.2.wt then 2 else 0:=by unfold gG;rw[if_neg (fun h=>h e2)]
  refine bL (a.2.wt<0) (fun h6=>?_) fun h6=>?_
  ·refine eN (iP (gG a.1.act a.2)) ?_
   rw[hA,if_pos (.inl h6)]
   exact rfl
  refine bL (1000000<a.2.wt) (fun h7=>?_) fun h7=>?_
  ·refine eN (iP (gG a.1.act a.2)) ?_
   rw[hA,if_pos (.inr h7)]
   exact rfl
  ·refine eN (iP (gG a.1.act a.2)) ?_
   rw[hA,if_neg (fun h=>h.elim h6 h7)]
   exact rfl
def qh (n:Nat) (l:List Int) (k:Nat):Int:=if l.getD k 0<0∨(n:Int)≤l.getD k 0 then 2 else if 0<k∧l.getD k 0≤l.getD (k-1) 0 then 9 else 0
def jF (n:Nat) (l:List Int):Int:=if l.length=0 then 13 else dw (qh n l) l.length
def auH:Spec:=bq (fun a:aA×List Int=>[jh a.1,isA a.2]) (fun a=>a.2.length≤1000000) (fun a=>iP (jF a.1.sts.length a.2))
theorem ah6:av Tryz.prog 202 auH:=by
 refine vF Tryz.func202 ?_
 rintro (a:aA×List Int) hpre
 have hl:a.2.length≤1000000:=hpre
 refine bE (a.2.length=0) (fun h0=>?_) fun h0=>?_
 ·refine eN (iP (jF a.1.sts.length a.2)) ?_
  rw[jF,if_pos h0]
  exact rfl
 have hA:jF a.1.sts.length a.2=dw (qh a.1.sts.length a.2) a.2.length:=by unfold jF;rw[if_neg h0]
 refine fR (a.2.length) (fun k=>[(12,.s (iA k))]) (fun k=>[]) (fun k=>∀j,j<k→qh a.1.sts.length a.2 j=0) (by exact (ai (ai (fun _=>rfl) (iE (by omega))) rfl)) (by exact trivial) ?_ ?_
 ·exact fun j hj=>absurd hj (aee _)
 intro (k:Nat) ⟨hk,hall⟩
 refine bL (k<a.2.length) (fun h1=>?_) fun h1=>?_
 ·skip
  refine iX (k) (a.2.length) ?_
  refine ah (p:=a.2.getD k 0<0) (aB Iff.rfl) (fun h2=>?_) (fun h2=>?_)
  ·have e:qh a.1.sts.length a.2 k=2:=by unfold qh;rw[if_pos (by omega)]
   refine eN (iP (jF a.1.sts.length a.2)) ?_
   rw[hA,dJ h1 hall (by rw[e];decide),e]
   exact rfl
  skip
  refine ah (p:=(a.1.sts.length:Int)≤a.2.getD k 0) (fV Iff.rfl) (fun h3=>?_) (fun h3=>?_)
  ·have e:qh a.1.sts.length a.2 k=2:=by unfold qh;rw[if_pos (by omega)]
   refine eN (iP (jF a.1.sts.length a.2)) ?_
   rw[hA,dJ h1 hall (by rw[e];decide),e]
   exact rfl
  skip
  refine bL (0<k) (fun h4=>?_) fun h4=>?_
  ·have hw:IntKind.i64.wrap ((k:Int)-1)=((k-1:Nat):Int):=amX h4 (by omega)
   skip
   refine ai (ai (by rw[hw];exact aaT _) (by rw[hw];show ((k-1:Nat):Int)<(a.2.length:Int);omega)) ?_
   refine ai rfl ?_
   refine ah (p:=a.2.getD k 0≤a.2.getD (k-1) 0) (by exact fV (by rw[hw];exact Iff.rfl)) (fun h5=>?_) (fun h5=>?_)
   ·have e:qh a.1.sts.length a.2 k=9:=by unfold qh;rw[if_neg (by omega),if_pos ⟨h4,h5⟩]
    refine eN (iP (jF a.1.sts.length a.2)) ?_
    rw[hA,dJ h1 hall (by rw[e];decide),e]
    exact rfl
   ·refine nX (k) (ai (ai (fun _=>rfl) (aH (by omega))) rfl) trivial ?_
    intro j hj
    by_cases hjk:j=k
    ·subst hjk;unfold qh;rw[if_neg (by omega),if_neg (fun h=>h5 h.2)]
    ·exact hall j (by omega)
  ·refine nX (k) (ai (ai (fun _=>rfl) (aH (by omega))) rfl) trivial ?_
   intro j hj
   by_cases hjk:j=k
   ·subst hjk;unfold qh;rw[if_neg (by omega),if_neg (fun h=>h4 h.1)]
   ·exact hall j (by omega)
 ·obtain rfl:k=a.2.length:=by omega
  refine eN (iP (jF a.1.sts.length a.2)) ?_
  rw[hA,gK hall]
  exact rfl
theorem ajO:av Tryz.prog 115 auH:=by
 refine vF Tryz.func115 ?_
 rintro (a:aA×List Int) hpre
 have hl:a.2.length≤1000000:=hpre
 refine bE (a.2.length=0) (fun h0=>?_) fun h0=>?_
 ·refine eN (iP (jF a.1.sts.length a.2)) ?_
  rw[jF,if_pos h0]
  exact rfl
 have hA:jF a.1.sts.length a.2=dw (qh a.1.sts.length a.2) a.2.length:=by unfold jF;rw[if_neg h0]
 refine fR (a.2.length) (fun k=>[(5,.s (iA k))]) (fun k=>[]) (fun k=>∀j,j<k→qh a.1.sts.length a.2 j=0) (by exact (ai (ai (fun _=>rfl) (iE (by omega))) rfl)) (by exact trivial) ?_ ?_
 ·exact fun j hj=>absurd hj (aee _)
 intro (k:Nat) ⟨hk,hall⟩
 refine bL (k<a.2.length) (fun h1=>?_) fun h1=>?_
 ·refine dR (.seq [0,1,2,3,4,5,6,7,8,9,10,11,12,13,14]) ?_
  refine iX (k) (a.2.length) ?_
  refine ah (p:=a.2.getD k 0<0) (aB Iff.rfl) (fun h2=>?_) (fun h2=>?_)
  ·have e:qh a.1.sts.length a.2 k=2:=by unfold qh;rw[if_pos (by omega)]
   refine eN (iP (jF a.1.sts.length a.2)) ?_
   rw[hA,dJ h1 hall (by rw[e];decide),e]
   exact rfl
  refine iX (k) (a.2.length) ?_
  refine ah (p:=(a.1.sts.length:Int)≤a.2.getD k 0) (fV Iff.rfl) (fun h3=>?_) (fun h3=>?_)
  ·have e:qh a.1.sts.length a.2 k=2:=by unfold qh;rw[if_pos (by omega)]
   refine eN (iP (jF a.1.sts.length a.2)) ?_
   rw[hA,dJ h1 hall (by rw[e];decide),e]
   exact rfl
  refine dR (.seq [0,1,2,3,4,5,6,7,8,9,10,11,12,13]) ?_
  refine bL (0<k) (fun h4=>?_) fun h4=>?_
  ·have hw:IntKind.i64.wrap ((k:Int)-1)=((k-1:Nat):Int):=amX h4 (by omega)
   refine iX (k) (a.2.length) ?_
   refine ai (ai (by rw[hw];exact aaT _) (by rw[hw];show ((k-1:Nat):Int)<(a.2.length:Int);omega)) ?_
   refine ai rfl ?_
   refine ah (p:=a.2.getD k 0≤a.2.getD (k-1) 0) (by exact fV (by rw[hw];exact Iff.rfl)) (fun h5=>?_) (fun h5=>?_)
   ·have e:qh a.1.sts.length a.2 k=9:=by unfold qh;rw[if_neg (by omega),if_pos ⟨h4,h5⟩]
    refine eN (iP (jF a.1.sts.length a.2)) ?_
    rw[hA,dJ h1 hall (by rw[e];decide),e]
    exact rfl
   ·refine nX (k) (ai (ai (fun _=>rfl) (aH (by omega))) rfl) trivial ?_
    intro j hj
    by_cases hjk:j=k
    ·subst hjk;unfold qh;rw[if_neg (by omega),if_neg (fun h=>h5 h.2)]
    ·exact hall j (by omega)
  ·refine nX (k) (ai (ai (fun _=>rfl) (aH (by omega))) rfl) trivial ?_
   intro j hj
   by_cases hjk:j=k
   ·subst hjk;unfold qh;rw[if_neg (by omega),if_neg (fun h=>h4 h.1)]
   ·exact hall j (by omega)
 ·obtain rfl:k=a.2.length:=by omega
  refine eN (iP (jF a.1.sts.length a.2)) ?_
  rw[hA,gK hall]
  exact rfl
def kV (c:aA):Int:=2*c.act+c.ins.length+c.sts.length
def oo (c:aA):Prop:=0≤c.act∧c.act≤1000∧c.ins.length≤1000000∧c.sts.length≤1000000
def arV:Spec:=bq (fun c:aA=>[jh c]) oo (fun c=>iP (kV c))
theorem alU:av Tryz.prog 136 arV:=by
 refine vF Tryz.func136 ?_
 rintro (c:aA) hpre
 obtain ⟨h1,h2,h3,h4⟩:=hpre
 have h1:0≤c.act:=h1
 have h2:c.act≤1000:=h2
 have h3:c.ins.length≤1000000:=h3
 have h4:c.sts.length≤1000000:=h4
 refine ai (ai (fun _=>trivial) ?_) trivial
 show IntKind.i64.wrap (IntKind.i64.wrap (IntKind.i64.wrap (2*c.act)+(c.ins.length:Int))+(c.sts.length:Int))=kV c
 rw[jT (n:=2*c.act) (by omega) (by omega),jT (n:=2*c.act+(c.ins.length:Int)) (by omega) (by omega),jT (by omega) (by omega)];rfl
theorem arF:av Tryz.prog 117 arV:=by
 refine vF Tryz.func117 ?_
 rintro (c:aA) hpre
 obtain ⟨h1,h2,h3,h4⟩:=hpre
 have h1:0≤c.act:=h1
 have h2:c.act≤1000:=h2
 have h3:c.ins.length≤1000000:=h3
 have h4:c.sts.length≤1000000:=h4
 refine ai (ai (fun _=>trivial) ?_) trivial
 show IntKind.i64.wrap (IntKind.i64.wrap (IntKind.i64.wrap (2*c.act)+(c.ins.length:Int))+(c.sts.length:Int))=kV c
 rw[jT (n:=2*c.act) (by omega) (by omega),jT (n:=2*c.act+(c.ins.length:Int)) (by omega) (by omega),jT (by omega) (by omega)];rfl
def kE (c:aA) (t:rD):Int:=if ¬jF c.sts.length t.fr=0 then jF c.sts.length t.fr else if ¬jF c.sts.length t.to=0 then jF c.sts.length t.to else bf t.wh (kV c)
def anu (t:rD):Prop:=t.fr.length≤1000000∧t.to.length≤1000000∧t.wh.size≤1000000
def aw1:Spec:=bq (fun a:aA×rD=>[jh a.1,trA a.2]) (fun a=>oo a.1∧anu a.2) (fun a=>iP (kE a.1 a.2))
theorem avM:av Tryz.prog 149 aw1:=by
 refine vF Tryz.func149 ?_
 rintro (a:aA×rD) hpre
 obtain ⟨hs,h1,h2,h3⟩:=hpre
 refine ei (mD.unroll 3) ?_
 refine ai (by decide) ?_
 refine ai (by decide) ?_
 refine cK (ah6) ((a.1,a.2.fr)) (by exact (ai (ai rfl (ai (ai rfl (fun _ _=>rfl)) (ai (ai rfl (fun _ _=>rfl)) (ai rfl (fun _ _=>rfl))))) (ai rfl (fun _ _=>rfl)))) (h1) ?_
 refine aW (p:=jF a.1.sts.length a.2.fr=0) (bR (by dsimp only;omega)) (fun g1=>?_) (fun g1=>?_)
 ·refine eN (iP (kE a.1 a.2)) ?_
  rw[kE,if_pos g1]
  exact rfl
 refine ai (by decide) ?_
 refine ai (by decide) ?_
 refine cK (ah6) ((a.1,a.2.to)) (by exact (ai (ai rfl (ai (ai rfl (fun _ _=>rfl)) (ai (ai rfl (fun _ _=>rfl)) (ai rfl (fun _ _=>rfl))))) (ai rfl (fun _ _=>rfl)))) (h2) ?_
 refine aW (p:=jF a.1.sts.length a.2.to=0) (bR (by dsimp only;omega)) (fun g2=>?_) (fun g2=>?_)
 ·refine eN (iP (kE a.1 a.2)) ?_
  rw[kE,if_neg (fun h=>h g1),if_pos g2]
  exact rfl
 refine dR (.seq [0,1,2,3,4,5]) ?_
 refine cK (alU) (a.1) (by exact (ai rfl (ai (ai rfl (fun _ _=>rfl)) (ai (ai rfl (fun _ _=>rfl)) (ai rfl (fun _ _=>rfl)))))) (hs) ?_
 refine cK (qz) ((a.2.wh,kV a.1)) (by exact (ai (ai rfl (ai rfl (ai rfl (fun _ _=>rfl)))) rfl)) (h3) ?_
 refine eN (iP (kE a.1 a.2)) ?_
 rw[kE,if_neg (fun h=>h g1),if_neg (fun h=>h g2)]
 exact rfl
def aqy:Spec:=bq (fun a:aA×List Stp=>[.p false (aaK a.2),.p false (.bnd 148 [chP a.1])]) (fun a=>a.2.length≤1000000∧∀s∈a.2,s.st.length≤1000000) (fun a=>iP (dw (fun k=>gG a.1.act (a.2.getD k st0)) a.2.length))
theorem ane:av Tryz.prog 150 aqy:=by
 refine vF Tryz.func150 ?_
 rintro (a:aA×List Stp) hpre
 obtain ⟨hl,hs⟩:=hpre
 have hl:a.2.length≤1000000:=hl
 refine fR (a.2.length) (fun k=>[(10,.s (iA k))]) (fun k=>[]) (fun k=>∀j,j<k→gG a.1.act (a.2.getD j st0)=0) (by exact (ai (ai (fun _=>rfl) (iE (by omega))) rfl)) (by exact trivial) ?_ ?_
 ·exact fun j hj=>absurd hj (aee _)
 intro (k:Nat) ⟨hk,hall⟩
 refine bL (k<a.2.length) (fun h1=>?_) fun h1=>?_
 ·refine iX (k) (a.2.length) ?_
  refine cK (step_ok) ((a.1,a.2.getD k st0)) (by exact (ai (ai rfl (ai (ai rfl (fun _ _=>rfl)) (ai (ai rfl (fun _ _=>rfl)) (ai rfl (fun _ _=>rfl))))) (ai (ai rfl (fun _ _=>rfl)) (iE (by simp only[zz,reduceCtorEq]))))) (hs _ (aay (bB st0 h1))) ?_
  refine aW (p:=gG a.1.act (a.2.getD k st0)=0) (bR (by dsimp only;omega)) (fun h2=>?_) (fun h2=>?_)
  ·refine eN (iP (dw (fun k=>gG a.1.act (a.2.getD k st0)) a.2.length)) ?_
   rw[dJ h1 hall h2]
   exact rfl
  refine nX (k) (ai (ai (fun _=>rfl) (aH (by omega))) rfl) trivial ?_
  intro j hj
  by_cases hjk:j=k
  ·subst hjk;exact h2
  ·exact hall j (by omega)
 ·obtain rfl:k=a.2.length:=by omega
  refine eN (iP (dw (fun k=>gG a.1.act (a.2.getD k st0)) a.2.length)) ?_
  rw[gK hall]
  exact rfl
def aq1:Spec:=bq (fun a:aA×List rD=>[.p false (ada a.2),.p false (.bnd 149 [chP a.1])]) (fun a=>a.2.length≤1000000∧oo a.1∧∀s∈a.2,anu s) (fun a=>iP (dw (fun k=>kE a.1 (a.2.getD k aY)) a.2.length))
theorem amA:av Tryz.prog 151 aq1:=by
 refine vF Tryz.func151 ?_
 rintro (a:aA×List rD) hpre
 obtain ⟨hl,hc,hs⟩:=hpre
 have hl:a.2.length≤1000000:=hl
 refine fR (a.2.length) (fun k=>[(10,.s (iA k))]) (fun k=>[]) (fun k=>∀j,j<k→kE a.1 (a.2.getD j aY)=0) (by exact (ai (ai (fun _=>rfl) (iE (by omega))) rfl)) (by exact trivial) ?_ ?_
 ·exact fun j hj=>absurd hj (aee _)
 intro (k:Nat) ⟨hk,hall⟩
 refine bL (k<a.2.length) (fun h1=>?_) fun h1=>?_
 ·refine iX (k) (a.2.length) ?_
  refine cK (avM) ((a.1,a.2.getD k aY)) (by exact (ai (ai rfl (ai (ai rfl (fun _ _=>rfl)) (ai (ai rfl (fun _ _=>rfl)) (ai rfl (fun _ _=>rfl))))) (ai (ai rfl (fun _ _=>rfl)) (ai (ai rfl (fun _ _=>rfl)) (ai (iE (by simp only[zz,reduceCtorEq])) (ai (iE (by simp only[zz,reduceCtorEq])) (ai rfl (fun _ _=>rfl)))))))) (⟨hc,hs _ (aay (bB aY h1))⟩) ?_
  refine aW (p:=kE a.1 (a.2.getD k aY)=0) (bR (by dsimp only;omega)) (fun h2=>?_) (fun h2=>?_)
  ·refine eN (iP (dw (fun k=>kE a.1 (a.2.getD k aY)) a.2.length)) ?_
   rw[dJ h1 hall h2]
   exact rfl
  refine nX (k) (ai (ai (fun _=>rfl) (aH (by omega))) rfl) trivial ?_
  intro j hj
  by_cases hjk:j=k
  ·subst hjk;exact h2
  ·exact hall j (by omega)
 ·obtain rfl:k=a.2.length:=by omega
  refine eN (iP (dw (fun k=>kE a.1 (a.2.getD k aY)) a.2.length)) ?_
  rw[gK hall]
  exact rfl
def cB (c:aA):Int:=
 if c.act<1∨6<c.act then 2 else if ¬fq c.ins=0 then fq c.ins else if c.sts.length=0 then 13 else if 24<c.sts.length∨32<c.trs.length then 5 else
 if ¬dw (fun k=>gG c.act (c.sts.getD k st0)) c.sts.length=0 then dw (fun k=>gG c.act (c.sts.getD k st0)) c.sts.length else dw (fun k=>kE c (c.trs.getD k aY)) c.trs.length
def gN (c:aA):Prop:=(∀s∈c.sts,s.st.length≤1000000)∧∀t∈c.trs,anu t
theorem xJ {l:List (List UInt8)} (h:fq l=0):l.length≤16:=by
 unfold fq at h
 split at h
 ·cases h
 ·omega
def auq:Spec:=bq (fun c:aA=>[jh c]) gN (fun c=>iP (cB c))
theorem ac7:av Tryz.prog 94 auq:=by
 refine vF Tryz.func94 ?_
 rintro (c:aA) hpre
 obtain ⟨hst,htr⟩:=hpre
 refine bL (c.act<1) (fun h1=>?_) fun h1=>?_
 ·refine eN (iP (cB c)) ?_
  rw[cB,if_pos (.inl h1)]
  exact rfl
 refine bL (6<c.act) (fun h2=>?_) fun h2=>?_
 ·refine eN (iP (cB c)) ?_
  rw[cB,if_pos (.inr h2)]
  exact rfl
 have e0:¬(c.act<1∨6<c.act):=fun h=>h.elim h1 h2
 refine cK (aoy) (c.ins) (by exact (ai rfl (fun _ _=>rfl))) (trivial) ?_
 refine bN (fq c.ins=0) (fun h3=>?_) fun h3=>?_
 ·refine eN (iP (cB c)) ?_
  rw[cB,if_neg e0,if_pos h3]
  exact rfl
 have h16:=xJ h3
 have e1:¬¬fq c.ins=0:=fun h=>h h3
 refine bE (c.sts.length=0) (fun h4=>?_) fun h4=>?_
 ·refine eN (iP (cB c)) ?_
  rw[cB,if_neg e0,if_neg e1,if_pos h4]
  exact rfl
 refine bL (24<c.sts.length) (fun h5=>?_) fun h5=>?_
 ·refine eN (iP (cB c)) ?_
  rw[cB,if_neg e0,if_neg e1,if_neg h4,if_pos (.inl h5)]
  exact rfl
 refine bL (32<c.trs.length) (fun h6=>?_) fun h6=>?_
 ·refine eN (iP (cB c)) ?_
  rw[cB,if_neg e0,if_neg e1,if_neg h4,if_pos (.inr h6)]
  exact rfl
 have e2:¬(24<c.sts.length∨32<c.trs.length):=fun h=>h.elim h5 h6
 refine dR (.seq [0,1,2,3,4,5]) ?_
 refine cK (ane) ((c,c.sts)) (by exact (ai (ai rfl (fun _ _=>rfl)) (ai rfl rfl))) (⟨by show c.sts.length≤1000000;omega,hst⟩) ?_
 refine aW (p:=dw (fun k=>gG c.act (c.sts.getD k st0)) c.sts.length=0) (bR (by dsimp only;omega)) (fun h7=>?_) (fun h7=>?_)
 ·refine eN (iP (cB c)) ?_
  rw[cB,if_neg e0,if_neg e1,if_neg h4,if_neg e2,if_pos h7]
  exact rfl
 have hsm:oo c:=⟨by omega,by omega,by omega,by omega⟩
 refine cK (amA) ((c,c.trs)) (by exact (ai (ai rfl (fun _ _=>rfl)) (ai rfl rfl))) (⟨by show c.trs.length≤1000000;omega,hsm,htr⟩) ?_
 refine eN (iP (cB c)) ?_
 rw[cB,if_neg e0,if_neg e1,if_neg h4,if_neg e2,if_neg (fun h=>h h7)]
 exact rfl
theorem agt:av Tryz.prog 67 auq:=by
 refine vF Tryz.func67 ?_
 rintro (c:aA) hpre
 obtain ⟨hst,htr⟩:=hpre
 refine bL (c.act<1) (fun h1=>?_) fun h1=>?_
 ·refine eN (iP (cB c)) ?_
  rw[cB,if_pos (.inl h1)]
  exact rfl
 refine bL (6<c.act) (fun h2=>?_) fun h2=>?_
 ·refine eN (iP (cB c)) ?_
  rw[cB,if_pos (.inr h2)]
  exact rfl
 have e0:¬(c.act<1∨6<c.act):=fun h=>h.elim h1 h2
 refine cK (amx) (c.ins) (by exact (ai rfl (fun _ _=>rfl))) (trivial) ?_
 refine bN (fq c.ins=0) (fun h3=>?_) fun h3=>?_
 ·refine eN (iP (cB c)) ?_
  rw[cB,if_neg e0,if_pos h3]
  exact rfl
 have h16:=xJ h3
 have e1:¬¬fq c.ins=0:=fun h=>h h3
 refine bE (c.sts.length=0) (fun h4=>?_) fun h4=>?_
 ·refine eN (iP (cB c)) ?_
  rw[cB,if_neg e0,if_neg e1,if_pos h4]
  exact rfl
 refine bL (24<c.sts.length) (fun h5=>?_) fun h5=>?_
 ·refine eN (iP (cB c)) ?_
  rw[cB,if_neg e0,if_neg e1,if_neg h4,if_pos (.inl h5)]
  exact rfl
 refine bL (32<c.trs.length) (fun h6=>?_) fun h6=>?_
 ·refine eN (iP (cB c)) ?_
  rw[cB,if_neg e0,if_neg e1,if_neg h4,if_pos (.inr h6)]
  exact rfl
 have e2:¬(24<c.sts.length∨32<c.trs.length):=fun h=>h.elim h5 h6
 have hA:cB c=if ¬dw (fun k=>gG c.act (c.sts.getD k st0)) c.sts.length=0 then dw (fun k=>gG c.act (c.sts.getD k st0)) c.sts.length else dw (fun k=>kE c (c.trs.getD k aY)) c.trs.length:=by
  unfold cB;rw[if_neg e0,if_neg e1,if_neg h4,if_neg e2]
 refine fR (c.sts.length) (fun k=>[(4,.s (iA k))]) (fun k=>[]) (fun k=>∀j,j<k→gG c.act (c.sts.getD j st0)=0) (by exact (ai (ai (fun _=>rfl) (iE (by omega))) rfl)) (by exact trivial) ?_ ?_
 ·exact fun j hj=>absurd hj (aee _)
 intro (k:Nat) ⟨hk,hall⟩
 refine bL (k<c.sts.length) (fun g1=>?_) fun g1=>?_
 ·refine dR (.seq [0,1,2,3,4,5,6,7]) ?_
  refine iX (k) (c.sts.length) ?_
  refine cK (aq3) ((c,c.sts.getD k st0)) (by exact (ai (ai rfl (ai (ai rfl (fun _ _=>rfl)) (ai (ai rfl (fun _ _=>rfl)) (ai rfl (fun _ _=>rfl))))) (ai (ai rfl (fun _ _=>rfl)) (iE (by simp only[zz,reduceCtorEq]))))) (hst _ (aay (bB st0 g1))) ?_
  refine aW (p:=gG c.act (c.sts.getD k st0)=0) (bR (by dsimp only;omega)) (fun g2=>?_) (fun g2=>?_)
  ·have e:=dJ (f:=fun k=>gG c.act (c.sts.getD k st0)) g1 hall g2
   refine eN (iP (cB c)) ?_
   rw[hA,if_pos (show ¬dw (fun k=>gG c.act (c.sts.getD k st0)) c.sts.length=0 by rw[e];exact g2),e]
   exact rfl
  refine nX (k) (ai (ai (fun _=>rfl) (aH (by omega))) rfl) trivial ?_
  intro j hj
  by_cases hjk:j=k
  ·subst hjk;exact g2
  ·exact hall j (by omega)
 ·obtain rfl:k=c.sts.length:=by omega
  rw[if_neg (fun h=>h (gK hall))] at hA
  refine fR (c.trs.length) (fun j=>[(6,.s (iA j))]) (fun j=>[]) (fun j=>∀i,i<j→kE c (c.trs.getD i aY)=0) (by exact (ai (ai (fun _=>rfl) (iE (by omega))) rfl)) (by exact trivial) ?_ ?_
  ·exact fun i hi=>absurd hi (aee _)
  intro (j:Nat) ⟨hj,hallt⟩
  refine bL (j<c.trs.length) (fun g3=>?_) fun g3=>?_
  ·refine iX (j) (c.trs.length) ?_
   have hto:=htr _ (aay (bB aY g3))
   refine cK (ajO) ((c,(c.trs.getD j aY).fr)) (by exact (ai (ai rfl (ai (ai rfl (fun _ _=>rfl)) (ai (ai rfl (fun _ _=>rfl)) (ai rfl (fun _ _=>rfl))))) (ai rfl (fun _ _=>rfl)))) (hto.1) ?_
   refine aW (p:=jF c.sts.length (c.trs.getD j aY).fr=0) (bR (by dsimp only;omega)) (fun g4=>?_) (fun g4=>?_)
   ·have e:kE c (c.trs.getD j aY)=jF c.sts.length (c.trs.getD j aY).fr:=by unfold kE;rw[if_pos g4]
    refine eN (iP (cB c)) ?_
    rw[hA,dJ (f:=fun k=>kE c (c.trs.getD k aY)) g3 hallt (by rw[e];exact g4),e]
    exact rfl
   refine cK (ajO) ((c,(c.trs.getD j aY).to)) (by exact (ai (ai rfl (ai (ai rfl (fun _ _=>rfl)) (ai (ai rfl (fun _ _=>rfl)) (ai rfl (fun _ _=>rfl))))) (ai rfl (fun _ _=>rfl)))) (hto.2.1) ?_
   refine aW (p:=jF c.sts.length (c.trs.getD j aY).to=0) (bR (by dsimp only;omega)) (fun g5=>?_) (fun g5=>?_)
   ·have e:kE c (c.trs.getD j aY)=jF c.sts.length (c.trs.getD j aY).to:=by unfold kE;rw[if_neg (fun h=>h g4),if_pos g5]
    refine eN (iP (cB c)) ?_
    rw[hA,dJ (f:=fun k=>kE c (c.trs.getD k aY)) g3 hallt (by rw[e];exact g5),e]
    exact rfl
   refine dR (.seq [0,1,2,3,4,5]) ?_
   have hsm:oo c:=⟨by omega,by omega,by omega,by omega⟩
   refine cK (arF) (c) (by exact (ai rfl (ai (ai rfl (fun _ _=>rfl)) (ai (ai rfl (fun _ _=>rfl)) (ai rfl (fun _ _=>rfl)))))) (hsm) ?_
   refine cK (ac5) (((c.trs.getD j aY).wh,kV c)) (by exact (ai (ai (iE (by simp only[zz,reduceCtorEq])) (ai (iE (by simp only[zz,reduceCtorEq])) (ai rfl (fun _ _=>rfl)))) rfl)) (trivial) ?_
   have e:kE c (c.trs.getD j aY)=bf (c.trs.getD j aY).wh (kV c):=by unfold kE;rw[if_neg (fun h=>h g4),if_neg (fun h=>h g5)]
   refine aW (p:=bf (c.trs.getD j aY).wh (kV c)=0) (bR (by dsimp only;omega)) (fun g6=>?_) (fun g6=>?_)
   ·refine eN (iP (cB c)) ?_
    rw[hA,dJ (f:=fun k=>kE c (c.trs.getD k aY)) g3 hallt (by rw[e];exact g6),e]
    exact rfl
   refine nX (j) (ai (ai (fun _=>rfl) (aH (by omega))) rfl) trivial ?_
   intro i hi
   by_cases hij:i=j
   ·subst hij;rw[e];exact g6
   ·exact hallt i (by omega)
  ·obtain rfl:j=c.trs.length:=by omega
   refine eN (iP (cB c)) ?_
   rw[hA,gK hallt]
   exact rfl
abbrev dec (n : Nat) : List UInt8 := Lib.decDigits n
def aaH (n:Nat):List UInt8:=if n=0 then [] else dec n
theorem ahS (n:Nat):aaH n=if n=0 then [] else aaH (n / 10)++[UInt8.ofNat (48+n % 10)]:=by
 unfold aaH
 by_cases h:n=0
 ·rw[if_pos h,if_pos h]
 ·rw[if_neg h,if_neg h]
  unfold dec
  rw[Lib.decDigits]
  by_cases h2:n<10
  ·rw[dif_pos h2,if_pos (by omega),axx h2];rfl
  ·rw[dif_neg h2,if_neg (by omega)]
def gy:Nat→Nat→List UInt8
 | 0,_=>[]
 | j+1,x=>gy j (x / 10)++[UInt8.ofNat (48+x % 10)]
theorem ab6:∀(j n:Nat),n / 10 ^ j≠0→aaH n=aaH (n / 10 ^ j)++gy j n
 | 0,n,_=>by simp[gy]
 | j+1,n,h=>by
  have hn:n≠0:=by rintro rfl;simp at h
  have hd:n / 10 / 10 ^ j=n / 10 ^ (j+1):=by rw[auN,axI,axU]
  rw[ahS,if_neg hn,ab6 j (n / 10) (by rw[hd];exact h),hd,gy,auY]
def limbs (n:Nat):List Int:=if n=0 then [] else if n<1000000 then [(n:Int)] else [((n % 1000000:Nat):Int),((n / 1000000:Nat):Int)]
def awj:Spec:=bQ (fun n:Nat=>[iA n]) (fun n=>n<1000000000000) (fun n=>fE (limbs n))
theorem wq (n:Nat) (h:n<1000000000000):IntKind.i64.wrap ((n:Int).tdiv 1000000)=((n / 1000000:Nat):Int):=by
 rw[show ((n:Int).tdiv 1000000)=((n / 1000000:Nat):Int) from rfl];exact xP (by omega)
theorem alF {x:PV} {g:Nat→List PV} (hg:g 0=[x]):∀k,k<1→(g k).length=1:=fun k hk=>by
 obtain rfl:k=0:=by omega
 rw[hg];rfl
theorem atg:av Tryz.prog 258 awj:=by
 refine vF Tryz.func258 ?_
 rintro (n:Nat) hpre
 have hn:n<1000000000000:=hpre
 have hq:=wq n hn
 have hq2:n / 1000000<1000000000000:=by omega
 have hq3:=wq (n / 1000000) hq2
 refine ei (mD.unroll 3) ?_
 refine bL (0<n) (fun h1=>?_) fun h1=>?_
 ·refine ai (by decide) ?_
  refine ai (ai (by decide) (by decide)) (ai (alF rfl) ?_)
  refine ai (by decide) ?_
  refine ah (p:=0<n / 1000000) (by exact aB (by rw[hq];omega)) (fun h2=>?_) (fun h2=>?_)
  ·refine ai (by decide) ?_
   refine ai (ai (by decide) (by decide)) (ai (alF rfl) ?_)
   refine ai (by decide) ?_
   refine bF (by exact decide_eq_false (by rw[hq,hq3];omega)) ?_
   have e:limbs n=[((n % 1000000:Nat):Int),((n / 1000000:Nat):Int)]:=by unfold limbs;rw[if_neg (by omega),if_neg (by omega)]
   refine eF (fE (limbs n)) ?_
   rw[e]
   refine (ai rfl ?_)
   intro k hk
   have hk:k<2:=hk
   match k,hk with
   | 0,_=>rfl
   | 1,_=>
    show [PV.val (.int .i64 ((IntKind.i64.wrap ((n:Int).tdiv 1000000)).tmod 1000000))]=[iP ((n / 1000000:Nat):Int)]
    rw[hq]
    show [PV.val (.int .i64 ((n / 1000000 % 1000000:Nat):Int))]=_
    rw[axx (by omega)];rfl
  ·have e:limbs n=[(n:Int)]:=by unfold limbs;rw[if_neg (by omega),if_pos (by omega)]
   refine eF (fE (limbs n)) ?_
   rw[e]
   refine (ai rfl ?_)
   intro k hk
   have hk:k<1:=hk
   obtain rfl:k=0:=by omega
   show [PV.val (.int .i64 ((n % 1000000:Nat):Int))]=[iP (n:Int)]
   rw[axx (by omega)];rfl
 ·have e:limbs n=[]:=by unfold limbs;rw[if_pos (by omega)]
  refine eF (fE (limbs n)) ?_
  rw[e]
  exact rfl
theorem tY (s:List UInt8) (l h:Nat):(strOf s).extract l h=strOf ((s.take h).drop l):=by
 apply ByteArray.ext
 simp only[strOf,ByteArray.data_extract]
 apply Array.ext'
 simp[List.drop_take]
theorem ava {d:Nat} (h:d<10):(nK.take (d+1)).drop d=[UInt8.ofNat (48+d)]:=by
 have:∀d:Fin 10,(nK.take (d.1+1)).drop d.1=[UInt8.ofNat (48+d.1)]:=by decide
 exact this ⟨d,h⟩
theorem tL:∀(j x:Nat),gy (j+1) x=UInt8.ofNat (48+x / 10 ^ j % 10) :: gy j x
 | 0,x=>by simp[gy]
 | j+1,x=>by
  rw[gy,tL j (x / 10),auN,show 10*10 ^ j=10 ^ (j+1) by rw[axI,axU]]
  conv=>rhs;rw[gy]
  rfl
theorem yt:∀(j x:Nat),(gy j x).length=j
 | 0,_=>rfl
 | j+1,x=>by rw[tL];simp[yt j x]
theorem xB {j x:Nat} (h0:x / 10 ^ j=0) (h1:j=0∨x / 10 ^ (j-1)≠0):aaH x=gy j x:=by
 cases j with
 | zero=>
  have:x=0:=by simpa using h0
  subst this;rfl
 | succ j=>
  have h1:x / 10 ^ j≠0:=by rcases h1 with h | h;omega;simpa using h
  rw[ab6 j x h1,tL]
  have hlt:x / 10 ^ j<10:=by
   rw[axI,axU,←auN,auN,axU,←auN] at h0
   omega
  rw[ahS,if_neg h1,axD hlt]
  rfl
def vM:List Int→Nat
 | []=>0
 | [x]=>x.toNat
 | x :: y :: _=>x.toNat+1000000*y.toNat
def okL (l:List Int):Prop:=l=[]∨(∃x:Nat,0<x∧x<1000000∧l=[(x:Int)])∨∃x y:Nat,x<1000000∧0<y∧y<1000000∧l=[(x:Int),(y:Int)]
theorem aqj {n:Nat} (h:n<1000000000000):okL (limbs n)∧vM (limbs n)=n:=by
 unfold limbs okL
 by_cases h0:n=0
 ·rw[if_pos h0];exact ⟨.inl rfl,h0.symm⟩
 ·rw[if_neg h0]
  by_cases h1:n<1000000
  ·rw[if_pos h1];exact ⟨.inr (.inl ⟨n,by omega,h1,rfl⟩),rfl⟩
  ·rw[if_neg h1]
   refine ⟨.inr (.inr ⟨n % 1000000,n / 1000000,by omega,by omega,by omega,rfl⟩),?_⟩
   show (((n % 1000000:Nat):Int)).toNat+1000000*(((n / 1000000:Nat):Int)).toNat=n
   rw[ad9,ad9];omega
def asV:Spec:=bq (fun l:List Int=>[isA l]) okL (fun l=>sP (dec (vM l)))
theorem ak5:av Tryz.prog 256 asV:=by
 refine vF Tryz.func256 ?_
 rintro (l:List Int) hpre
 have hq:∀a:Nat,a<1000000→IntKind.i64.wrap ((a:Int).tdiv 10)=((a / 10:Nat):Int):=fun a h=>by
  rw[show ((a:Int).tdiv 10)=((a / 10:Nat):Int) from rfl];exact xP (by omega)
 have hr:∀a:Nat,IntKind.i64.wrap ((a:Int).tmod 10+1)=((a % 10+1:Nat):Int):=fun a=>by
  rw[show ((a:Int).tmod 10)=((a % 10:Nat):Int) from rfl];exact jT (by omega) (by omega)
 have hx:∀a:Nat,(strOf nK).extract ((a:Int).tmod 10).toNat (IntKind.i64.wrap ((a:Int).tmod 10+1)).toNat=strOf [UInt8.ofNat (48+a % 10)]:=fun a=>by
  rw[hr,show ((a:Int).tmod 10)=((a % 10:Nat):Int) from rfl,ad9,ad9,tY,ava (by omega)]
 have hlt:∀x j:Nat,x<1000000→x / 10 ^ j<1000000:=fun x j h=>Nat.lt_of_le_of_lt (Nat.div_le_self _ _) h
 rcases hpre with rfl | ⟨x,hx0,hx1,rfl⟩ | ⟨x',x,hx1',hx0,hx1,rfl⟩
 ·refine eN (sP (dec (vM []))) ?_
  rw[show dec (vM [])=[48] by show Lib.decDigits 0=_;rw[Lib.decDigits];rfl]
  exact rfl
 ·refine ei (mD.unroll 2) ?_
  refine ai (ai (by decide) (by show (0:Int)<1;decide)) ?_
  refine ai rfl ?_
  have hs0:([]:List UInt8).length≤1000:=by decide
  refine ei (mD.inv { X:=Nat,up:=fun j=>[(6,.s (iA j)),(5,.s (iA (((x) / 10 ^ j:Nat)))),(3,.s (sA (gy j (x)++[])))],uo:=fun _=>[],inv:=fun j=>j≤6∧(j=0∨(x) / 10 ^ (j-1)≠0),meas:=fun j=>6-j,x0:=0 }) ?_
  refine ai (ai (ai (by exact (a4 (ai rfl rfl))) (ai ?_ ?_)) ?_) (ai ?_ ?_)
  ·refine (ai (ai (ai (fun _=>rfl) (iE (by simp only[zz,reduceCtorEq];rfl))) rfl) (ai (ai (ai nof ?_) rfl) (ai (ai (fun _=>rfl) rfl) rfl)))
   show ((x:Nat):Int)=(((x) / 10 ^ 0:Nat):Int)
   simp
  ·exact trivial
  ·rfl
  ·exact ⟨ah8 _,.inl rfl⟩
  intro (j:Nat) ⟨hj,hd⟩
  refine bL (j<6) (fun h5=>?_) fun h5=>?_
  ·refine bL (0<(x) / 10 ^ j) (fun h6=>?_) fun h6=>?_
   ·have hpj:=hlt (x) j hx1
    generalize hz:(x) / 10 ^ j=z at *
    refine ai (by decide) (ai (by decide) ?_)
    refine ai (ai (by show (0:Int)≤((z:Int).tmod 10);exact aaT _) (ai (by rw[hr];show ((z % 10:Nat):Int)≤_;omega) (by rw[hr];show ((z % 10+1:Nat):Int)≤10;omega))) ?_
    refine ai (by show (((((strOf nK).extract ((z:Int).tmod 10).toNat (IntKind.i64.wrap ((z:Int).tmod 10+1)).toNat).size+(strOf (gy j (x)++[])).size:Nat)):Int)≤9223372036854775807;rw[hx,bY,bY,aao,yt,axP];show ((1+(j+([]:List UInt8).length):Nat):Int)≤_;omega) ?_
    refine ai (by decide) ?_
    refine ei ((j+1)) (ai (ai rfl rfl) (ai (ai ?_ ?_) (ai ?_ ?_)))
    ·refine (ai rfl (ai (ai rfl rfl) (ai (ai rfl rfl) (ai (ai (ai (ai (fun _=>rfl) (aH (by omega))) rfl) (ai (ai (ai (fun _=>rfl) ?_) rfl) (ai (ai (fun _=>rfl) ?_) rfl))) trivial))))
     ·show IntKind.i64.wrap ((z:Int).tdiv 10)=((((x) / 10 ^ (j+1):Nat)):Int)
      rw[hq z (by omega),←hz,auN,axI]
     ·show (strOf nK).extract ((z:Int).tmod 10).toNat (IntKind.i64.wrap ((z:Int).tmod 10+1)).toNat++strOf (gy j (x)++[])=strOf (gy (j+1) (x)++[])
      rw[hx,uS,tL j (x),hz];rfl
    ·rfl
    ·exact ⟨h5,.inr (by show (x) / 10 ^ j≠0;rw[hz];omega)⟩
    ·show 6-(j+1)<6-j;omega
   ·have e:=xB (x:=x) (j:=j) (Nat.eq_zero_of_not_pos h6) hd
    refine eN (sP (dec (vM [(x:Int)]))) ?_
    rw[show dec (vM [(x:Int)])=gy _ x++[] by rw[ape,←e];unfold aaH;rw[if_neg (by omega)];rfl]
    exact rfl
  ·obtain rfl:j=6:=by omega
   have e:=xB (x:=x) (j:=6) (axD hx1) hd
   refine eN (sP (dec (vM [(x:Int)]))) ?_
   rw[show dec (vM [(x:Int)])=gy _ x++[] by rw[ape,←e];unfold aaH;rw[if_neg (by omega)];rfl]
   exact rfl
 ·refine ei (mD.unroll 3) ?_
  refine ai (ai (by decide) (by show (0:Int)<2;decide)) ?_
  refine ai rfl ?_
  refine ei (mD.inv { X:=Nat,up:=fun j=>[(6,.s (iA j)),(5,.s (iA ((x' / 10 ^ j:Nat)))),(3,.s (sA (gy j x'++[])))],uo:=fun _=>[],inv:=fun j=>j≤6,meas:=fun j=>6-j,x0:=0 }) ?_
  refine ai (ai (ai (by exact (a4 (ai rfl rfl))) (ai ?_ ?_)) ?_) (ai ?_ ?_)
  ·refine (ai (ai (ai (fun _=>rfl) (iE (by simp only[zz,reduceCtorEq];rfl))) rfl) (ai (ai (ai nof ?_) rfl) (ai (ai (fun _=>rfl) rfl) rfl)))
   show ((x':Nat):Int)=((x' / 10 ^ 0:Nat):Int)
   simp
  ·exact trivial
  ·rfl
  ·exact ah8 _
  intro (j:Nat) (hj:j≤6)
  refine bL (j<6) (fun h5=>?_) fun h5=>?_
  ·have hs0:([]:List UInt8).length≤1000:=by decide
   have hxx:=hx1
   have hx1:=hx1'
   have hpj:=hlt (x') j hx1
   generalize hz:(x') / 10 ^ j=z at *
   refine ai (by decide) (ai (by decide) ?_)
   refine ai (ai (by show (0:Int)≤((z:Int).tmod 10);exact aaT _) (ai (by rw[hr];show ((z % 10:Nat):Int)≤_;omega) (by rw[hr];show ((z % 10+1:Nat):Int)≤10;omega))) ?_
   refine ai (by show (((((strOf nK).extract ((z:Int).tmod 10).toNat (IntKind.i64.wrap ((z:Int).tmod 10+1)).toNat).size+(strOf (gy j (x')++[])).size:Nat)):Int)≤9223372036854775807;rw[hx,bY,bY,aao,yt,axP];show ((1+(j+([]:List UInt8).length):Nat):Int)≤_;omega) ?_
   refine ai (by decide) ?_
   refine ei ((j+1)) (ai (ai rfl rfl) (ai (ai ?_ ?_) (ai ?_ ?_)))
   ·refine (ai rfl (ai (ai rfl rfl) (ai (ai rfl rfl) (ai (ai (ai (ai (fun _=>rfl) (aH (by omega))) rfl) (ai (ai (ai (fun _=>rfl) ?_) rfl) (ai (ai (fun _=>rfl) ?_) rfl))) trivial))))
    ·show IntKind.i64.wrap ((z:Int).tdiv 10)=((((x') / 10 ^ (j+1):Nat)):Int)
     rw[hq z (by omega),←hz,auN,axI]
    ·show (strOf nK).extract ((z:Int).tmod 10).toNat (IntKind.i64.wrap ((z:Int).tmod 10+1)).toNat++strOf (gy j (x')++[])=strOf (gy (j+1) (x')++[])
     rw[hx,uS,tL j (x'),hz];rfl
   ·rfl
   ·exact h5
   ·show 6-(j+1)<6-j;omega
  ·obtain rfl:j=6:=by omega
   refine ai (ai (by decide) (by show (1:Int)<2;decide)) ?_
   refine ai rfl ?_
   have hs0:(gy 6 x'++[]).length≤1000:=by rw[ape,yt];decide
   refine ei (mD.inv { X:=Nat,up:=fun j=>[(6,.s (iA j)),(5,.s (iA (((x) / 10 ^ j:Nat)))),(3,.s (sA (gy j (x)++(gy 6 x'++[]))))],uo:=fun _=>[],inv:=fun j=>j≤6∧(j=0∨(x) / 10 ^ (j-1)≠0),meas:=fun j=>6-j,x0:=0 }) ?_
   refine ai (ai (ai (by exact (a4 (ai rfl rfl))) (ai ?_ ?_)) ?_) (ai ?_ ?_)
   ·refine (ai (ai (ai (fun _=>rfl) (iE (by simp only[zz,reduceCtorEq];rfl))) rfl) (ai (ai (ai nof ?_) rfl) (ai (ai nof rfl) rfl)))
    show ((x:Nat):Int)=(((x) / 10 ^ 0:Nat):Int)
    simp
   ·exact trivial
   ·rfl
   ·exact ⟨ah8 _,.inl rfl⟩
   intro (j:Nat) ⟨hj,hd⟩
   refine bL (j<6) (fun h5=>?_) fun h5=>?_
   ·refine bL (0<(x) / 10 ^ j) (fun h6=>?_) fun h6=>?_
    ·have hpj:=hlt (x) j hx1
     generalize hz:(x) / 10 ^ j=z at *
     refine ai (by decide) (ai (by decide) ?_)
     refine ai (ai (by show (0:Int)≤((z:Int).tmod 10);exact aaT _) (ai (by rw[hr];show ((z % 10:Nat):Int)≤_;omega) (by rw[hr];show ((z % 10+1:Nat):Int)≤10;omega))) ?_
     refine ai (by show (((((strOf nK).extract ((z:Int).tmod 10).toNat (IntKind.i64.wrap ((z:Int).tmod 10+1)).toNat).size+(strOf (gy j (x)++(gy 6 x'++[]))).size:Nat)):Int)≤9223372036854775807;rw[hx,bY,bY,aao,yt,axP];show ((1+(j+((gy 6 x'++[]):List UInt8).length):Nat):Int)≤_;omega) ?_
     refine ai (by decide) ?_
     refine ei ((j+1)) (ai (ai rfl rfl) (ai (ai ?_ ?_) (ai ?_ ?_)))
     ·refine (ai rfl (ai (ai rfl rfl) (ai (ai rfl rfl) (ai (ai (ai (ai (fun _=>rfl) (aH (by omega))) rfl) (ai (ai (ai (fun _=>rfl) ?_) rfl) (ai (ai (fun _=>rfl) ?_) rfl))) trivial))))
      ·show IntKind.i64.wrap ((z:Int).tdiv 10)=((((x) / 10 ^ (j+1):Nat)):Int)
       rw[hq z (by omega),←hz,auN,axI]
      ·show (strOf nK).extract ((z:Int).tmod 10).toNat (IntKind.i64.wrap ((z:Int).tmod 10+1)).toNat++strOf (gy j (x)++(gy 6 x'++[]))=strOf (gy (j+1) (x)++(gy 6 x'++[]))
       rw[hx,uS,tL j (x),hz];rfl
     ·rfl
     ·exact ⟨h5,.inr (by show (x) / 10 ^ j≠0;rw[hz];omega)⟩
     ·show 6-(j+1)<6-j;omega
    ·have e:=xB (x:=x) (j:=j) (Nat.eq_zero_of_not_pos h6) hd
     have hdiv:(x'+1000000*x) / 10 ^ 6=x:=by
      show (x'+1000000*x) / 1000000=x
      omega
     have hpad:gy 6 (x'+1000000*x)=gy 6 x':=by
      simp only[gy]
      have e0:(x'+1000000*x) % 10=x' % 10:=by omega
      have e1:(x'+1000000*x) / 10 % 10=x' / 10 % 10:=by omega
      have e2:(x'+1000000*x) / 10 / 10 % 10=x' / 10 / 10 % 10:=by omega
      have e3:(x'+1000000*x) / 10 / 10 / 10 % 10=x' / 10 / 10 / 10 % 10:=by omega
      have e4:(x'+1000000*x) / 10 / 10 / 10 / 10 % 10=x' / 10 / 10 / 10 / 10 % 10:=by omega
      have e5:(x'+1000000*x) / 10 / 10 / 10 / 10 / 10 % 10=x' / 10 / 10 / 10 / 10 / 10 % 10:=by omega
      rw[e0,e1,e2,e3,e4,e5]
     refine eN (sP (dec (vM [(x':Int),(x:Int)]))) ?_
     rw[show dec (vM [(x':Int),(x:Int)])=gy _ x++(gy 6 x'++[]) by rw[ape,←e];show dec (x'+1000000*x)=_;have h:=ab6 6 (x'+1000000*x) (by rw[hdiv];omega);rw[hdiv,hpad] at h;rw[←h];unfold aaH;rw[if_neg (by omega)]]
     exact rfl
   ·obtain rfl:j=6:=by omega
    have e:=xB (x:=x) (j:=6) (axD hx1) hd
    have hdiv:(x'+1000000*x) / 10 ^ 6=x:=by
     show (x'+1000000*x) / 1000000=x
     omega
    have hpad:gy 6 (x'+1000000*x)=gy 6 x':=by
     simp only[gy]
     have e0:(x'+1000000*x) % 10=x' % 10:=by omega
     have e1:(x'+1000000*x) / 10 % 10=x' / 10 % 10:=by omega
     have e2:(x'+1000000*x) / 10 / 10 % 10=x' / 10 / 10 % 10:=by omega
     have e3:(x'+1000000*x) / 10 / 10 / 10 % 10=x' / 10 / 10 / 10 % 10:=by omega
     have e4:(x'+1000000*x) / 10 / 10 / 10 / 10 % 10=x' / 10 / 10 / 10 / 10 % 10:=by omega
     have e5:(x'+1000000*x) / 10 / 10 / 10 / 10 / 10 % 10=x' / 10 / 10 / 10 / 10 / 10 % 10:=by omega
     rw[e0,e1,e2,e3,e4,e5]
    refine eN (sP (dec (vM [(x':Int),(x:Int)]))) ?_
    rw[show dec (vM [(x':Int),(x:Int)])=gy _ x++(gy 6 x'++[]) by rw[ape,←e];show dec (x'+1000000*x)=_;have h:=ab6 6 (x'+1000000*x) (by rw[hdiv];omega);rw[hdiv,hpad] at h;rw[←h];unfold aaH;rw[if_neg (by omega)]]
    exact rfl
theorem ao5:av Tryz.prog 212 (bq (fun n:Nat=>[iA n]) (fun n=>n<1000000000000) (fun n=>sP (dec n))):=by
 refine vF Tryz.func212 ?_
 rintro (n:Nat) hpre
 have hn:n<1000000000000:=hpre
 obtain ⟨h1,h2⟩:=aqj hn
 refine cK (atg) (n) (by exact rfl) (hn) ?_
 refine cK (ak5) (limbs n) (by exact (ai rfl (fun _ _=>rfl))) (h1) ?_
 refine eN (sP (dec n)) ?_
 rw[show dec n=dec (vM (limbs n)) by rw[h2]]
 exact rfl
theorem aqr:av Tryz.prog 159 (bq (fun n:Nat=>[iA n]) (fun n=>n<1000000000000) (fun n=>sP (dec n))):=by
 refine vF Tryz.func159 ?_
 rintro (n:Nat) hpre
 refine cK (ao5) (n) (by exact rfl) (hpre) ?_
 refine eN _ ?_
 exact rfl
theorem aqk:av Tryz.prog 209 (bq (fun n:Nat=>[iA n]) (fun n=>n<100) (fun n=>sP (dec n))):=
 ai2 (ahO (α:=Nat) Tryz.func209 rfl rfl (vals:=fun n=>[.int .i64 n]) (pre:=fun n=>n<100) (ret:=fun n=>.string (strOf (dec n))) (fun _ _=>rfl)
  fun n hn w=>(Tryz.strconv_Itoa_small n hn w).mono fun e w' h=>by
   obtain ⟨h1,h2⟩:=h
   subst h2
   exact ⟨h1,RowKit.Below.refl _ _⟩) id
  (fun _ _=>rfl) (fun _ _=>rfl) (fun _ _=>rfl) (fun _ _=>rfl) (fun _ h=>h)
theorem fJ {l:List PV} (n:Nat) (h:l.length=n):∀k,k<n→(aU 1 l k).length=1:=by
 intro k hk
 subst h
 induction l generalizing k with
 | nil=>simp at hk
 | cons d l ih=>
  cases k with
  | zero=>rfl
  | succ k=>
   have h1:=ih k (by simpa using hk)
   show (aU 1 (d :: l) (k+1)).length=1
   have:aU 1 (d :: l) (k+1)=aU 1 l k:=by
    unfold aU
    rw[auM,auM];rfl
   rw[this];exact h1
theorem lY {c:aA} (h:cB c=0):(1≤c.act∧c.act≤6)∧fq c.ins=0∧(0<c.sts.length∧c.sts.length≤24)∧c.trs.length≤32∧(∀k,k<c.sts.length→gG c.act (c.sts.getD k st0)=0)∧∀k,k<c.trs.length→kE c (c.trs.getD k aY)=0:=by
 unfold cB at h
 split at h
 ·cases h
 split at h
 ·rename_i h1 h2;exact absurd h h2
 split at h
 ·cases h
 split at h
 ·cases h
 split at h
 ·rename_i h1;exact absurd h h1
 rename_i h1 h2 h3 h4 h5
 refine ⟨by omega,aku.1 h2,by omega,by omega,fun k hk=>pJ (aku.1 h5) k hk,fun k hk=>pJ h k hk⟩
structure oP where
 nm:List UInt8
 kd:Int
 on:Ex
 off:Ex
 dl:Int
 ini:Bool
structure bC where
 act:Int
 ins:List (List UInt8)
 sgs:List oP
 pl:List Int
 mi:List Int
structure eZ where
 en:List Int
 va:List Bool
 inp:List Bool
 vl:List Bool
 ti:List Int
def sgK (x:oP):List PV:=[sP x.nm,iP x.kd,iP x.on.op,iP x.on.idx,.seq x.on.args.length (jo x.on.args),iP x.off.op,iP x.off.idx,.seq x.off.args.length (jo x.off.args),iP x.dl,bP x.ini]
def ak:oP:=⟨[],0,bD,bD,0,false⟩
def ard (l:List oP):PV:=.seq l.length (fun k=>sgK (l.getD k ak))
def ctK (c:bC):List PV:=[iP c.act,xg c.ins,ard c.sgs,fE c.pl,fE c.mi]
def ctP (c:bC):PV:=.agg (ctK c)
def rQ (c:bC):SV:=.p false (ctP c)
def axl (s:eZ):List PV:=[fE s.en,kH s.va,kH s.inp,kH s.vl,fE s.ti]
def vk (s:eZ):PV:=.agg (axl s)
def yR (s:eZ):SV:=.p false (vk s)
def bU (c:bC):Int:=2*c.act+c.ins.length
def dx (c:bC):Int:=2*c.act+c.ins.length+c.sgs.length
def kQ (c:bC):Prop:=(0≤c.act∧c.act≤1000)∧c.ins.length≤1000000∧c.sgs.length≤1000000
def abL (n:Nat):List UInt8:=[UInt8.ofNat (97+n / 2),UInt8.ofNat (48+n % 2)]
def dZ (c:bC) (n:Nat):List UInt8:=if (n:Int)<2*c.act then abL n else if (n:Int)<bU c then c.ins.getD (n-2*c.act.toNat) [] else (c.sgs.getD (n-2*c.act.toNat-c.ins.length) ak).nm
def jE (s:List UInt8):Bool:=!s.isEmpty&&jg (s.getD 0 0)&&s.all dV
def kK (c:bC) (n:Nat):Int:=if !jE (dZ c n) then 3 else if 24<(dZ c n).length then 17 else if (List.range n).any (fun i=>dZ c i==dZ c n) then 7 else 0
def bK (x:Ex):Bool:=(x.op==0)&&(x.idx==0)&&x.args.isEmpty
mutual
def qO (v:Int):Ex→Bool
 | .node o i l=>if o=1 then i==v else aiC v l
def aiC (v:Int):List Ex→Bool
 | []=>false
 | x :: l=>qO v x||aiC v l
end
def acS (c:bC) (i k:Nat):Bool:=decide (i≤k)&&(((c.sgs.getD k ak).kd==0)&&qO (bU c+(k:Int)) (c.sgs.getD i ak).on)
def qN (c:bC) (i:Nat):Bool:=(List.range c.sgs.length).any (acS c i)
def aT (c:bC) (i:Nat):Int:=
 if ¬kK c (2*c.act.toNat+c.ins.length+i)=0 then kK c (2*c.act.toNat+c.ins.length+i)
 else if (c.sgs.getD i ak).kd<0∨3≤(c.sgs.getD i ak).kd then 1
 else if ¬bf (c.sgs.getD i ak).on (dx c)=0 then bf (c.sgs.getD i ak).on (dx c)
 else if (c.sgs.getD i ak).kd=1∧¬bf (c.sgs.getD i ak).off (dx c)=0 then bf (c.sgs.getD i ak).off (dx c)
 else if (c.sgs.getD i ak).kd=0∧qN c i=true then 9
 else if (c.sgs.getD i ak).kd=2∧((c.sgs.getD i ak).dl<1∨1000000<(c.sgs.getD i ak).dl) then 2
 else if (¬(c.sgs.getD i ak).kd=1∧(bK (c.sgs.getD i ak).off=false∨(c.sgs.getD i ak).ini=true))∨(¬(c.sgs.getD i ak).kd=2∧¬(c.sgs.getD i ak).dl=0) then 3 else 0
def abw (c:bC) (l:List Int):Bool:=l.any fun x=>decide (x<0)||decide (dx c≤x)
def nS (c:bC):Int:=if ¬((c.pl.length:Int)=c.act∧(c.mi.length:Int)=c.act) then 8 else if abw c c.pl||abw c c.mi then 6 else 0
def bH (c:bC):Int:=
 if c.act<1∨6<c.act then 2 else if 16<c.ins.length∨64<c.sgs.length then 5
 else if ¬dw (fun i=>kK c (2*c.act.toNat+i)) c.ins.length=0 then dw (fun i=>kK c (2*c.act.toNat+i)) c.ins.length
 else if ¬dw (aT c) c.sgs.length=0 then dw (aT c) c.sgs.length else nS c
def aw8 (x:oP):Prop:=x.on.size≤1000000∧x.off.size≤1000000
def anI (c:bC):Prop:=(∀x∈c.sgs,aw8 x)∧c.pl.length≤1000000∧c.mi.length≤1000000
def lM (m:List Bool) (k:Nat):PV:=bP (m.getD k false)
def mkP (m:List Bool):PV:=.arr 24 (lM m)
def mkA (m:List Bool):SV:=.p false (mkP m)
theorem rU (g:Nat→PV):∀(n i k:Nat),k<n→(pQ g i n)[k]?=some (g (i+k))
 | 0,_,_,h=>by omega
 | n+1,i,0,_=>rfl
 | n+1,i,k+1,h=>by
  show (pQ g (i+1) n)[k]?=_
  rw[rU g n (i+1) k (by omega),show i+1+k=i+(k+1) by omega]
theorem awh (m:List Bool) {k:Nat} (h:k<24):(iK 24 (lM m))[k]?=some (lM m k):=by
 unfold iK;rw[rU _ _ _ _ h,ajN]
def oI (n:Nat) (l:List Int):Prop:=∀k∈l,0≤k∧k<(n:Int)
theorem xW {n:Nat} {l:List Int} (h:oI n l) {k:Nat} (hk:k<l.length):0≤l.getD k 0∧l.getD k 0<(n:Int):=h _ (aay (bB 0 hk))
def kC (m:List Bool) (k:Int):Bool:=m.getD k.toNat false
def allM (m:List Bool) (l:List Int):Bool:=l.all (kC m)
def auR (m:List Bool):PV:=.fn 137 [.pt (iK 24 (lM m)) 0]
theorem atL:av Tryz.prog 137 (bq (fun a:List Bool×Int=>[iA a.2,.p false (.pt (iK 24 (lM a.1)) 0)]) (fun a=>0≤a.2∧a.2<24) (fun a=>bP (!kC a.1 a.2))):=by
 refine vF Tryz.func137 ?_
 rintro (a:List Bool×Int) hpre
 have h1:0≤a.2:=hpre.1
 have h2:a.2<24:=hpre.2
 refine ai ⟨h1,h2⟩ ?_
 refine ei (lM a.1 a.2.toNat) (ai (by rw[ajN];exact awh a.1 (by omega)) ?_)
 refine eN _ ?_
 exact rfl
def awx:Spec:=bq (fun a:List Bool×List Int=>[isA a.2,.p false (auR a.1)]) (fun a=>oI 24 a.2∧a.2.length≤1000000) (fun a=>iP (jv (fun k=>!kC a.1 k) a.2))
theorem atf:av Tryz.prog 187 awx:=by
 refine vF Tryz.func187 ?_
 rintro (a:List Bool×List Int) hpre
 obtain ⟨hx,hl⟩:=hpre
 have hl:a.2.length≤1000000:=hl
 refine fR (a.2.length) (fun k=>[(8,.s (iA k))]) (fun k=>[]) (fun k=>∀y∈a.2.take k,(!kC a.1 y)=false) (by exact (ai (ai (fun _=>rfl) (iE (by omega))) rfl)) (by exact trivial) ?_ ?_
 ·exact fun y hy=>absurd hy (by simp)
 intro (k:Nat) ⟨hk,hall⟩
 refine bL (k<a.2.length) (fun h1=>?_) fun h1=>?_
 ·refine iX (k) (a.2.length) ?_
  refine cK (atL) ((a.1,a.2.getD k 0)) (by exact (ai (iE (by simp only[zz,reduceCtorEq])) (ai rfl rfl))) (xW hx h1) ?_
  refine aC (b:=!kC a.1 (a.2.getD k 0)) rfl (fun h2=>?_) (fun h2=>?_)
  ·refine eN (iP (jv (fun k=>!kC a.1 k) a.2)) ?_
   rw[qV (d:=0) h1 h2 hall]
   exact rfl
  refine nX (k) (ai (ai (fun _=>rfl) (aH (by omega))) rfl) trivial ?_
  intro y hy
  rw[aO 0 h1] at hy
  rcases acw.1 hy with hy | hy
  ·exact hall y hy
  ·simp only[acC] at hy;subst hy;exact h2
 ·obtain rfl:k=a.2.length:=by omega
  rw[acr] at hall
  refine eN (iP (jv (fun k=>!kC a.1 k) a.2)) ?_
  rw[tX hall]
  exact rfl
theorem atN:av Tryz.prog 130 (bq (fun a:List Bool×List Int=>[isA a.2,.p false (auR a.1)]) (fun a=>oI 24 a.2∧a.2.length≤1000000) (fun a=>bP (a.2.any fun k=>!kC a.1 k))):=by
 refine vF Tryz.func130 ?_
 rintro (a:List Bool×List Int) hpre
 refine cK (atf) (a) (by exact (ai (ai rfl (fun _ _=>rfl)) (ai rfl rfl))) (hpre) ?_
 refine eN (bP (a.2.any fun k=>!kC a.1 k)) ?_
 rw[(qD (fun k=>!kC a.1 k) a.2).symm]
 exact rfl
theorem anL:av Tryz.prog 82 (bq (fun a:List Bool×List Int=>[mkA a.1,isA a.2]) (fun a=>oI 24 a.2∧a.2.length≤1000000) (fun a=>bP (allM a.1 a.2))):=by
 refine vI [3000006] Tryz.func82 ?_
 rintro (a:List Bool×List Int) hpre
 refine cK (atN) (a) (by exact (ai (ai rfl (fun _ _=>rfl)) (ai rfl rfl))) (hpre) ?_
 refine eN (bP (allM a.1 a.2)) ?_
 rw[show allM a.1 a.2=!(a.2.any fun k=>!kC a.1 k) by unfold allM;simp[List.not_any_eq_all_not]]
 exact rfl
def qQ (l:List Bool):List Bool:=l++List.replicate (24-l.length) false
theorem aeL (l:List Bool) (k:Nat):(qQ l).getD k false=l.getD k false:=by
 unfold qQ
 rw[aai,aai]
 by_cases h:k<l.length
 ·rw[alx h]
 ·rw[ael (by omega),awG (l:=l) (by omega),awJ]
  split<;>rfl
theorem arJ {l:List Bool} (h:l.length≤24):(qQ l).length=24:=by unfold qQ;rw[aao,an7];omega
def mk0:List Bool:=qQ []
def oL (c:aA) (a:List Bool):Int:=if ¬cB c=0 then cB c else if ¬a.length=c.sts.length then 8 else 0
def qb (c:aA) (a:List Bool):List Bool:=if oL c a=0 then qQ a else mk0
def axd:Spec:=bQ (fun a:aA×List Bool=>[jh a.1,rY a.2]) (fun a=>gN a.1) (fun a=>.tup [mkP (qb a.1 a.2),iP (oL a.1 a.2)])
theorem al4:∀k,k<24→nG (vals (List.replicate 24 (.bool false))) k=lM mk0 k:=by
 intro k hk
 rw[xL,agU 24 _ hk]
 unfold lM mk0
 rw[aeL];rfl
theorem yx {c:aA} {a:List Bool} (h:oL c a=0):cB c=0∧a.length=c.sts.length∧a.length≤24:=by
 unfold oL at h
 split at h
 ·rename_i h1;exact absurd h h1
 ·rename_i h1
  split at h
  ·cases h
  ·rename_i h2
   have h1:=aku.1 h1
   have h2:=aku.1 h2
   have:=(lY h1).2.2.1.2
   exact ⟨h1,h2,by omega⟩
theorem asI {l:List Bool} (h:l.length≤24):∀k,k<24→ad3 (nG (vals (List.replicate 24 (.bool false)))) 0 (Nat.min l.length 24) (fun k=>[bP (l.getD k false)]) k=lM (qQ l) k:=by
 intro k hk
 unfold ad3
 have hm:Nat.min l.length 24=l.length:=Nat.min_eq_left h
 rw[hm]
 unfold lM
 rw[aeL]
 by_cases hk2:k<l.length
 ·rw[if_pos ⟨ah8 _,by omega⟩,avm];rfl
 ·rw[if_neg (by omega),xL,agU 24 _ hk,aai,awG (by omega)];rfl
theorem apc:av Tryz.prog 76 axd:=by
 refine vF Tryz.func76 ?_
 rintro (a:aA×List Bool) hpre
 refine cK (ac7) (a.1) (by exact (ai rfl (ai (ai rfl (fun _ _=>rfl)) (ai (ai rfl (fun _ _=>rfl)) (ai rfl (fun _ _=>rfl)))))) (hpre) ?_
 refine bN (cB a.1=0) (fun h1=>?_) fun h1=>?_
 ·have e:oL a.1 a.2=cB a.1:=by unfold oL;rw[if_pos h1]
  refine eF (.tup [mkP (qb a.1 a.2),iP (oL a.1 a.2)]) ?_
  rw[qb,e,if_neg h1]
  refine (ai (ai rfl ?_) rfl)
  exact al4
 refine bN (a.2.length=a.1.sts.length) (fun h2=>?_) fun h2=>?_
 ·have e:oL a.1 a.2=8:=by unfold oL;rw[if_neg (fun h=>h h1),if_pos h2]
  refine eF (.tup [mkP (qb a.1 a.2),iP (oL a.1 a.2)]) ?_
  rw[qb,e,if_neg (show ¬(8:Int)=0 by decide)]
  refine (ai (ai rfl ?_) rfl)
  exact al4
 have e:oL a.1 a.2=0:=by unfold oL;rw[if_neg (fun h=>h h1),if_neg (fun h=>h h2)]
 refine ai (ai (by decide) (ai (by decide) (by decide))) ?_
 refine ai (ai rfl (fun _ _=>rfl)) ?_
 refine eF (.tup [mkP (qb a.1 a.2),iP (oL a.1 a.2)]) ?_
 rw[qb,e,if_pos rfl]
 refine (ai (ai rfl ?_) rfl)
 exact asI (yx e).2.2
def mH (c:aA) (a v:List Bool):Int:=if ¬oL c a=0 then oL c a else if ¬(v.length:Int)=kV c then 8 else 0
def awS:Spec:=bQ (fun a:aA×List Bool×List Bool=>[jh a.1,rY a.2.1,rY a.2.2]) (fun a=>gN a.1) (fun a=>.tup [mkP (qb a.1 a.2.1),iP (mH a.1 a.2.1 a.2.2)])
theorem iZ {c:aA} (h:cB c=0):oo c:=by
 obtain ⟨h1,h2,h3,h4,-⟩:=lY h
 have:=xJ h2
 exact ⟨by omega,by omega,by omega,by omega⟩
theorem aqE:av Tryz.prog 80 awS:=by
 refine vF Tryz.func80 ?_
 rintro (a:aA×List Bool×List Bool) hpre
 refine cK (apc) ((a.1,a.2.1)) (by exact (ai (ai rfl (ai (ai rfl (fun _ _=>rfl)) (ai (ai rfl (fun _ _=>rfl)) (ai rfl (fun _ _=>rfl))))) (ai rfl (fun _ _=>rfl)))) (hpre) ?_
 refine ah (p:=oL a.1 a.2.1=0) (um (by dsimp only;omega)) (fun h1=>?_) (fun h1=>?_)
 ·refine cK (alU) (a.1) (by exact (ai rfl (ai (ai rfl (fun _ _=>rfl)) (ai (ai rfl (fun _ _=>rfl)) (ai rfl (fun _ _=>rfl)))))) (iZ (yx h1).1) ?_
  refine bN ((a.2.2.length:Int)=kV a.1) (fun h2=>?_) fun h2=>?_
  ·have e:mH a.1 a.2.1 a.2.2=8:=by unfold mH;rw[if_neg (fun h=>h h1),if_pos h2]
   refine eF (.tup [mkP (qb a.1 a.2.1),iP (mH a.1 a.2.1 a.2.2)]) ?_
   rw[e]
   exact (ai (ai rfl (fun _ _=>rfl)) rfl)
  ·have e:mH a.1 a.2.1 a.2.2=0:=by unfold mH;rw[if_neg (fun h=>h h1),if_neg (fun h=>h h2)]
   refine eF (.tup [mkP (qb a.1 a.2.1),iP (mH a.1 a.2.1 a.2.2)]) ?_
   rw[e]
   exact (ai (ai rfl (fun _ _=>rfl)) (iE (by simp only[zz,reduceCtorEq];omega)))
 ·have e:mH a.1 a.2.1 a.2.2=oL a.1 a.2.1:=by unfold mH;rw[if_pos h1]
  refine eF (.tup [mkP (qb a.1 a.2.1),iP (mH a.1 a.2.1 a.2.2)]) ?_
  rw[e]
  exact (ai (ai rfl (fun _ _=>rfl)) rfl)
theorem ab9 {n:Nat} {f g:Nat→List PV}:∀k,k<0+n→bI 0 f g k=g k:=fun k hk=>by
 unfold bI;rw[if_neg (aee _),avm]
def avZ:Spec:=bq (fun l:List (Bool)=>[rY l]) (fun l=>l.length≤1000000) (fun l=>kH l)
theorem tF:av Tryz.prog 61 avZ:=by
 refine vF Tryz.func61 ?_
 rintro (l:List (Bool)) hpre
 have hl:l.length≤1000000:=hpre
 intro b hb
 refine gV (fun h1=>?_) (fun h1=>?_)
 ·have h1:l.length=0:=hb h1
  refine eN (kH l) ?_
  rw[awK.1 h1]
  exact rfl
 ·refine ai (mxL (n:=0+l.length) (by omega) (by decide)) (ai (fun _ _=>rfl) ?_)
  refine ai (ai (fun _ k hk=>by rw[ab9 k hk];rfl) ?_) trivial
  refine (ai ?_ (fun _ _=>rfl))
  exact ajN _
def av4:Spec:=bq (fun l:List (Int)=>[isA l]) (fun l=>l.length≤1000000) (fun l=>fE l)
theorem tN:av Tryz.prog 121 av4:=by
 refine vF Tryz.func121 ?_
 rintro (l:List (Int)) hpre
 have hl:l.length≤1000000:=hpre
 intro b hb
 refine gV (fun h1=>?_) (fun h1=>?_)
 ·have h1:l.length=0:=hb h1
  refine eN (fE l) ?_
  rw[awK.1 h1]
  exact rfl
 ·refine ai (mxL (n:=0+l.length) (by omega) (by decide)) (ai (fun _ _=>rfl) ?_)
  refine ai (ai (fun _ k hk=>by rw[ab9 k hk];rfl) ?_) trivial
  refine (ai ?_ (fun _ _=>rfl))
  exact ajN _
def aw5:Spec:=bq (fun a:aA×List Bool=>[jh a.1,mkA a.2]) (fun a=>a.1.sts.length≤24∧a.2.length=24) (fun a=>kH (a.2.take a.1.sts.length))
theorem asG:av Tryz.prog 83 aw5:=by
 refine vF Tryz.func83 ?_
 rintro (a:aA×List Bool) hpre
 obtain ⟨h1,h2⟩:=hpre
 have h1:a.1.sts.length≤24:=h1
 have h2:a.2.length=24:=h2
 refine ai (ai (by decide) (ai (aaT _) (by show (a.1.sts.length:Int)≤24;omega))) ?_
 have htl:(a.2.take a.1.sts.length).length=a.1.sts.length:=by rw[arM];omega
 refine ei _ (ai (tF) (ei (a.2.take a.1.sts.length) (ei [] (ai (ai rfl (ai rfl (ai rfl (ai rfl (ai (fun _=>Or.inl rfl) (ai (fun _=>ai rfl rfl) (Or.inl rfl))))))) (ai ?_ (ai (by exact trivial) (ai ((by show (a.2.take a.1.sts.length).length≤1000000;omega)) ?_)))))))
 ·refine (ai rfl (ai ?_ ?_))
  ·show ((a.1.sts.length:Int)).toNat-(0:Int).toNat=(a.2.take a.1.sts.length).length
   rw[htl];simp
  ·intro k hk
   have hk:k<((a.1.sts.length:Int)).toNat-(0:Int).toNat:=hk
   have hk:k<a.1.sts.length:=by simpa using hk
   show [bP (a.2.getD ((0:Int).toNat+k) false)]=[bP ((a.2.take a.1.sts.length).getD k false)]
   rw[show (0:Int).toNat+k=k by simp,aai,aai,avp,if_pos hk]
 refine eN _ ?_
 exact (ai rfl (fun _ _=>rfl))
def isR (l:List Int):LV:=.rw 3 1 l.length (fun k=>[iP (l.getD k 0)])
theorem as2 {a b:List Int} {n:Nat} {f g:Nat→List PV} (hn:n=a.length) (hf:∀k,k<a.length→f k=[iP (a.getD k 0)]) (hg:∀k,k<b.length→g k=[iP (b.getD k 0)]):∀k,k<(a++b).length→bI n f g k=[iP ((a++b).getD k 0)]:=by
 intro k hk
 subst hn
 unfold bI
 by_cases h:k<a.length
 ·rw[if_pos h,hf k h,aai,aai,alx h]
 ·have hb:k-a.length<b.length:=by rw[aao] at hk;omega
  rw[if_neg h,hg _ hb,aai,aai,ael (by omega)]
theorem dK (a:List Int) (x:Int):∀k,k<a.length+1→bI a.length (fun k=>[iP (a.getD k 0)]) (aU 1 [iP x]) k=[iP ((a++[x]).getD k 0)]:=fun k hk=>
 as2 (a:=a) (b:=[x]) rfl (fun _ _=>rfl) (fun j hj=>by
  have hj:j<1:=hj
  obtain rfl:j=0:=by omega
  rfl) k (by rw[aao];exact hk)
def pE (c:aA) (m vs:List Bool) (i:Nat):Bool:=allM m (c.trs.getD i aY).fr&&fO vs (c.trs.getD i aY).wh
def jP (p:Nat→Bool):Nat→List Int
 | 0=>[]
 | n+1=>if p n then jP p n++[(n:Int)] else jP p n
theorem ae4 (p:Nat→Bool):∀n,(jP p n).length≤n
 | 0=>acn _
 | n+1=>by
  have:=ae4 p n
  rw[jP];split
  ·rw[aao];simp;omega
  ·omega
def awY:Spec:=bQ (fun a:aA×List Bool×List Bool=>[jh a.1,mkA a.2.1,rY a.2.2]) (fun a=>cB a.1=0∧gN a.1∧(a.2.2.length:Int)=kV a.1) (fun a=>.tup [fE (jP (pE a.1 a.2.1 a.2.2) a.1.trs.length),iP 0])
theorem alD {n:Nat} {l:List Int} (h:jF n l=0) (hn:n≤24):oI 24 l∧oI n l∧0<l.length:=by
 unfold jF at h
 split at h
 ·cases h
 ·rename_i h0
  have h1:=pJ h
  have:oI n l:=by
   intro k hk
   obtain ⟨i,hi,rfl⟩:=aoG hk
   have h2:=h1 i hi
   unfold qh at h2
   have hg:l.getD i 0=l[i]:=by rw[aai,aau hi];rfl
   rw[hg] at h2
   split at h2
   ·cases h2
   ·omega
  exact ⟨fun k hk=>by have:=this k hk;omega,this,by omega⟩
theorem ata {c:aA} {t:rD} (h:kE c t=0) (hn:c.sts.length≤24):(oI 24 t.fr∧oI c.sts.length t.fr)∧(oI 24 t.to∧oI c.sts.length t.to)∧bf t.wh (kV c)=0:=by
 unfold kE at h
 split at h
 ·rename_i h1;exact absurd h h1
 rename_i h1
 split at h
 ·rename_i h2;exact absurd h h2
 rename_i h2
 have g1:=alD (aku.1 h1) hn
 have g2:=alD (aku.1 h2) hn
 exact ⟨⟨g1.1,g1.2.1⟩,⟨g2.1,g2.2.1⟩,h⟩
theorem rO {c:aA} (h:cB c=0) {i:Nat} (hi:i<c.trs.length):(oI 24 (c.trs.getD i aY).fr∧oI c.sts.length (c.trs.getD i aY).fr)∧(oI 24 (c.trs.getD i aY).to∧oI c.sts.length (c.trs.getD i aY).to)∧bf (c.trs.getD i aY).wh (kV c)=0:=by
 obtain ⟨_,_,h3,_,_,h6⟩:=lY h
 exact ata (h6 i hi) h3.2
theorem mP {c:aA} (h:gN c) {i:Nat} (hi:i<c.trs.length):anu (c.trs.getD i aY):=h.2 _ (aay (bB aY hi))
theorem enabled_ok:av Tryz.prog 81 awY:=by
 refine vF Tryz.func81 ?_
 rintro (a:aA×List Bool×List Bool) hpre
 obtain ⟨hc,ho,hv⟩:=hpre
 have hc:cB a.1=0:=hc
 have ho:gN a.1:=ho
 have hv:(a.2.2.length:Int)=kV a.1:=hv
 have h32:=(lY hc).2.2.2.1
 refine fR (a.1.trs.length) (fun k=>[(16,.s (iA k)),(8,isR (jP (pE a.1 a.2.1 a.2.2) k))]) (fun k=>[]) (fun k=>True) (by exact (ai (ai (ai (fun _=>rfl) (iE (by omega))) rfl) rfl)) (by exact trivial) ?_ ?_
 ·trivial
 intro (k:Nat) ⟨hk,_⟩
 have hfl:=ae4 (pE a.1 a.2.1 a.2.2) k
 refine bL (k<a.1.trs.length) (fun h1=>?_) fun h1=>?_
 ·refine iX (k) (a.1.trs.length) ?_
  obtain ⟨g1,g2,g3⟩:=rO hc h1
  have hto:=mP ho h1
  have hP:pE a.1 a.2.1 a.2.2 k=(allM a.2.1 (a.1.trs.getD k aY).fr&&fO a.2.2 (a.1.trs.getD k aY).wh):=rfl
  refine cK (anL) ((a.2.1,(a.1.trs.getD k aY).fr)) (by exact (ai (ai rfl (fun _ _=>rfl)) (ai rfl (fun _ _=>rfl)))) (⟨g1.1,hto.1⟩) ?_
  refine aC (b:=!allM a.2.1 (a.1.trs.getD k aY).fr) rfl (fun h2=>?_) (fun h2=>?_)
  ·have h2:allM a.2.1 (a.1.trs.getD k aY).fr=false:=by simpa using h2
   have e:jP (pE a.1 a.2.1 a.2.2) (k+1)=jP (pE a.1 a.2.1 a.2.2) k:=by rw[jP,if_neg (by rw[hP,h2,aoc];decide)]
   refine nX (k) (ai (ai (ai (fun _=>rfl) (aH (by omega))) rfl) (ai rfl (ai rfl (ai ?_ ?_)))) trivial trivial
   ·rw[e]
   ·rw[e];exact fun _ _=>rfl
  have h2:allM a.2.1 (a.1.trs.getD k aY).fr=true:=by simpa using h2
  have hev:d9 (a.1.trs.getD k aY).wh a.2.2=(fO a.2.2 (a.1.trs.getD k aY).wh,0):=by unfold d9;rw[hv,if_pos g3]
  refine cK ((uT vT ((a.1.trs.getD k aY).wh,a.2.2) hto.2.2 (by show PV.tup [bP (d9 (a.1.trs.getD k aY).wh a.2.2).1,iP (d9 (a.1.trs.getD k aY).wh a.2.2).2]=_;rw[hev]))) (()) (by exact (ai (ai (iE (by simp only[zz,reduceCtorEq])) (ai (iE (by simp only[zz,reduceCtorEq])) (ai rfl (fun _ _=>rfl)))) (ai rfl (fun _ _=>rfl)))) (trivial) ?_
  refine aC (b:=fO a.2.2 (a.1.trs.getD k aY).wh) rfl (fun h3=>?_) (fun h3=>?_)
  ·have e:jP (pE a.1 a.2.1 a.2.2) (k+1)=jP (pE a.1 a.2.1 a.2.2) k++[(k:Int)]:=by rw[jP,if_pos (by rw[hP,h2,h3];rfl)]
   refine ai (mxL (n:=(jP (pE a.1 a.2.1 a.2.2) k).length+1) (by omega) (by decide)) (ai (fJ 1 rfl) ?_)
   refine nX (k) (ai (ai (ai (fun _=>rfl) (aH (by omega))) rfl) (ai rfl (ai rfl (ai ?_ ?_)))) trivial trivial
   ·rw[e,aao];rfl
   ·rw[e];exact dK _ _
  ·have e:jP (pE a.1 a.2.1 a.2.2) (k+1)=jP (pE a.1 a.2.1 a.2.2) k:=by rw[jP,if_neg (by rw[hP,h3,ar0];decide)]
   refine nX (k) (ai (ai (ai (fun _=>rfl) (aH (by omega))) rfl) (ai rfl (ai rfl (ai ?_ ?_)))) trivial trivial
   ·rw[e]
   ·rw[e];exact fun _ _=>rfl
 ·obtain rfl:k=a.1.trs.length:=by omega
  refine ai (ai (fun _=>(by exact (ai (fun _ _=>rfl) trivial))) ?_) trivial
  exact (ai (ai rfl (fun _ _=>rfl)) rfl)
theorem ama {c:aA} {a v:List Bool} (h:mH c a v=0):oL c a=0∧(v.length:Int)=kV c:=by
 unfold mH at h
 split at h
 ·rename_i h1;exact absurd h h1
 ·rename_i h1
  split at h
  ·cases h
  ·rename_i h2;exact ⟨aku.1 h1,aku.1 h2⟩
theorem aqf (a:List Bool) (k:Int):kC (qQ a) k=kC a k:=aeL a k.toNat
theorem ai0 (a:List Bool) (l:List Int):allM (qQ a) l=allM a l:=by
 unfold allM;rw[show kC (qQ a)=kC a from funext (aqf a)]
theorem aud (c:aA) (a v:List Bool):pE c (qQ a) v=pE c a v:=by
 funext i;unfold pE;rw[ai0]
def dW (m:List Bool) (l:List Int) (b:Bool):List Bool:=l.foldl (fun m k=>m.set k.toNat b) m
theorem lX (b:Bool):∀(l:List Int) (m:List Bool),(dW m l b).length=m.length
 | [],_=>rfl
 | k :: l,m=>by
  show (dW (m.set k.toNat b) l b).length=_
  rw[lX b l,aob]
theorem abO (m:List Bool) (l:List Int) (k:Int) (b:Bool):dW m (l++[k]) b=(dW m l b).set k.toNat b:=by unfold dW;rw[au5];rfl
theorem alp {m:List Bool} (hm:m.length=24) {j:Nat} (hj:j<24) (b:Bool) (k:Nat):vS (lM m) j (bP b) k=lM (m.set j b) k:=by
 unfold vS lM
 rw[aai,aai,axC]
 by_cases h:k=j
 ·rw[if_pos h,if_pos h.symm,if_pos (by omega)];rfl
 ·rw[if_neg h,if_neg (fun e=>h e.symm)]
def mkO (m:List Bool):Ob:=.arr 132 24 (lM m)
def gM (l:List Int) (k:Int):Bool:=l.any fun y=>k==y
def nC (c:aA) (s:List Bool×List Int) (i:Int):List Bool×List Int:=if allM s.1 (c.trs.getD i.toNat aY).fr then (dW s.1 (c.trs.getD i.toNat aY).fr false,s.2++[i]) else s
def jA (c:aA) (m:List Bool) (l:List Int):List Bool×List Int:=l.foldl (nC c) (m,[])
theorem amO (c:aA) (m:List Bool) (l:List Int) (i:Int):jA c m (l++[i])=nC c (jA c m l) i:=by unfold jA;rw[au5];rfl
theorem apu (c:aA) (s:List Bool×List Int) (i:Int):(nC c s i).1.length=s.1.length∧(nC c s i).2.length≤s.2.length+1:=by
 unfold nC
 split
 ·exact ⟨lX _ _ _,by simp⟩
 ·exact ⟨rfl,by omega⟩
theorem akI (c:aA):∀(l:List Int) (s:List Bool×List Int),(l.foldl (nC c) s).1.length=s.1.length∧(l.foldl (nC c) s).2.length≤s.2.length+l.length
 | [],s=>⟨rfl,by simp⟩
 | i :: l,s=>by
  have h1:=apu c s i
  have h2:=akI c l (nC c s i)
  exact ⟨h2.1.trans h1.1,by rw[avb,aog];omega⟩
theorem aiS (c:aA):∀(l:List Int) (s:List Bool×List Int) (x:Int),x∈(l.foldl (nC c) s).2→x∈s.2∨x∈l
 | [],s,x,h=>.inl h
 | i :: l,s,x,h=>by
  rcases aiS c l (nC c s i) x h with h | h
  ·unfold nC at h
   split at h
   ·rcases acw.1 h with h | h
    ·exact .inl h
    ·exact .inr (by simp at h;simp[h])
   ·exact .inl h
  ·exact .inr (arU _ h)
theorem abt {p:Nat→Bool}:∀{n:Nat} {x:Int},x∈jP p n→∃i:Nat,i<n∧x=i∧p i=true
 | 0,x,h=>by simp[jP] at h
 | n+1,x,h=>by
  rw[jP] at h
  split at h
  ·rename_i hp
   rcases acw.1 h with h | h
   ·obtain ⟨i,h1,h2,h3⟩:=abt h;exact ⟨i,by omega,h2,h3⟩
   ·simp at h;exact ⟨n,by omega,h,hp⟩
  ·obtain ⟨i,h1,h2,h3⟩:=abt h;exact ⟨i,by omega,h2,h3⟩
def kF (c:aA) (m:List Bool) (l:List Int):List Bool:=l.foldl (fun m i=>dW m (c.trs.getD i.toNat aY).to true) m
theorem amv (c:aA) (m:List Bool) (l:List Int) (i:Int):kF c m (l++[i])=dW (kF c m l) (c.trs.getD i.toNat aY).to true:=by unfold kF;rw[au5];rfl
theorem aah (c:aA):∀(l:List Int) (m:List Bool),(kF c m l).length=m.length
 | [],_=>rfl
 | i :: l,m=>by
  show (kF c (dW m (c.trs.getD i.toNat aY).to true) l).length=_
  rw[aah c l,lX]
def ug (c:aA) (a v:List Bool):List Bool×List Int:=jA c (qQ a) (jP (pE c a v) c.trs.length)
def xQ (c:aA) (a v:List Bool):PV:=if mH c a v=0 then .tup [kH ((kF c (ug c a v).1 (ug c a v).2).take c.sts.length),fE (ug c a v).2,iP 0] else .tup [kH [],fE [],iP (mH c a v)]
def aww:Spec:=bQ (fun a:aA×List Bool×List Bool=>[jh a.1,rY a.2.1,rY a.2.2]) (fun a=>gN a.1) (fun a=>xQ a.1 a.2.1 a.2.2)
theorem atP:av Tryz.prog 42 aww:=by
 refine vF Tryz.func42 ?_
 rintro ⟨c,a,v⟩ hpre
 have ho:gN c:=hpre
 refine cK ((mM aqE (c,a,v) ho (r:=.tup [mkP (qb c a),iP (mH c a v)]) rfl)) (()) (by exact (ai (ai rfl (ai (ai rfl (fun _ _=>rfl)) (ai (ai rfl (fun _ _=>rfl)) (ai rfl (fun _ _=>rfl))))) (ai (ai rfl (fun _ _=>rfl)) (ai rfl (fun _ _=>rfl))))) (trivial) ?_
 refine bN (mH c a v=0) (fun h1=>?_) fun h1=>?_
 ·refine eF (xQ c a v) ?_
  rw[xQ,if_neg h1]
  exact (ai rfl (ai rfl rfl))
 have hA:xQ c a v=.tup [kH ((kF c (ug c a v).1 (ug c a v).2).take c.sts.length),fE (ug c a v).2,iP 0]:=by unfold xQ;rw[if_pos h1]
 obtain ⟨g1,g2⟩:=ama h1
 have hc:=(yx g1).1
 have ha24:=(yx g1).2.2
 have e1:qb c a=qQ a:=if_pos g1
 refine cK ((mM enabled_ok (c,qb c a,v) ⟨hc,ho,g2⟩ (r:=.tup [fE (jP (pE c a v) c.trs.length),iP 0]) (by show PV.tup [fE (jP (pE c (qb c a) v) c.trs.length),iP 0]=_;rw[e1,aud]))) (()) (by exact (ai (ai rfl (ai (ai rfl (fun _ _=>rfl)) (ai (ai rfl (fun _ _=>rfl)) (ai rfl (fun _ _=>rfl))))) (ai (ai rfl (fun _ _=>rfl)) (ai rfl (fun _ _=>rfl))))) (trivial) ?_
 have h32:=(lY hc).2.2.2.1
 have h24:=(lY hc).2.2.1.2
 have hlm:∀x∈jP (pE c a v) c.trs.length,0≤x∧x<(c.trs.length:Int):=fun x hx=>by
  obtain ⟨i,h1,h2,_⟩:=abt hx;omega
 have hll:=ae4 (pE c a v) c.trs.length
 have hS:ug c a v=jA c (qb c a) (jP (pE c a v) c.trs.length):=by rw[e1];rfl
 rw[hS] at hA
 have hm:(qb c a).length=24:=by rw[e1];exact arJ ha24
 clear hS e1
 generalize jP (pE c a v) c.trs.length=l at hA hlm hll ⊢
 generalize qb c a=m at hA hm ⊢
 have hsl:∀k,(jA c m (l.take k)).1.length=24∧(jA c m (l.take k)).2.length≤32:=fun k=>by
  have h:=akI c (l.take k) (m,[])
  refine ⟨h.1.trans hm,?_⟩
  have h2:(jA c m (l.take k)).2.length≤0+(l.take k).length:=h.2
  rw[arM] at h2;omega
 refine fR (l.length) (fun k=>[(46,.s (iA k)),(13,isR (jA c m (l.take k)).2)]) (fun k=>[⟨2,132,[.ob (mkO (jA c m (l.take k)).1)]⟩]) (fun k=>True) ?_ ?_ ?_ ?_
 ·exact (ai (ai (ai (fun _=>rfl) (iE (by omega))) rfl) rfl)
 ·exact (ai (ai rfl (ai rfl (fun _ _=>rfl))) trivial)
 ·trivial
 intro (k:Nat) ⟨hk,_⟩
 obtain ⟨s1,s2⟩:=hsl k
 refine bL (k<l.length) (fun h2=>?_) fun h2=>?_
 ·refine iX (k) (l.length) ?_
  have hx0:=hlm _ (aay (bB 0 h2))
  have hi:(l.getD k 0).toNat<c.trs.length:=by omega
  obtain ⟨q1,q2,q3⟩:=rO hc hi
  have hto:=mP ho hi
  have hst:jA c m (l.take (k+1))=nC c (jA c m (l.take k)) (l.getD k 0):=by rw[aO 0 h2,amO]
  refine ai hx0 ?_
  refine ai rfl ?_
  refine cK (anL) (((jA c m (l.take k)).1,(c.trs.getD (l.getD k 0).toNat aY).fr)) (by exact (ai (ai rfl (fun _ _=>rfl)) (ai rfl (fun _ _=>rfl)))) (⟨q1.1,hto.1⟩) ?_
  have hf:(c.trs.getD (l.getD k 0).toNat aY).fr.length≤1000000:=hto.1
  refine aC (b:=allM (jA c m (l.take k)).1 (c.trs.getD (l.getD k 0).toNat aY).fr) rfl (fun h4=>?_) (fun h4=>?_)
  ·have e:jA c m (l.take (k+1))=(dW (jA c m (l.take k)).1 (c.trs.getD (l.getD k 0).toNat aY).fr false,(jA c m (l.take k)).2++[l.getD k 0]):=by rw[hst];unfold nC;rw[h4];rfl
   refine ai (mxL (n:=(jA c m (l.take k)).2.length+1) (by omega) (by decide)) (ai (fJ 1 rfl) ?_)
   refine fR ((c.trs.getD (l.getD k 0).toNat aY).fr.length) (fun j=>[(66,.s (iA j))]) (fun j=>[⟨2,132,[.ob (mkO (dW (jA c m (l.take k)).1 ((c.trs.getD (l.getD k 0).toNat aY).fr.take j) false))]⟩]) (fun j=>True) ?_ ?_ ?_ ?_
   ·exact (ai (ai (fun _=>rfl) (iE (by omega))) rfl)
   ·exact (ai (ai rfl (ai rfl (fun _ _=>rfl))) trivial)
    skip
   ·trivial
   intro (j:Nat) ⟨hk1,_⟩
   refine ah (p:=j<(c.trs.getD (l.getD k 0).toNat aY).fr.length) (by simp only[zz,reduceCtorEq];omega) (fun h3=>?_) (fun h3=>?_)
   ·refine iX (j) ((c.trs.getD (l.getD k 0).toNat aY).fr.length) ?_
    have hx:=xW q1.1 h3
    have hx24:((c.trs.getD (l.getD k 0).toNat aY).fr.getD j 0).toNat<24:=by omega
    refine ai hx ?_
    refine ai (by show 0+((c.trs.getD (l.getD k 0).toNat aY).fr.getD j 0).toNat*1<24;omega) ?_
    refine nX (j) (ai (ai (fun _=>rfl) (aH (by omega))) rfl) (ai (ai rfl (ai rfl ?_)) trivial) trivial
    intro q hq
    show vS (lM (dW (jA c m (l.take k)).1 ((c.trs.getD (l.getD k 0).toNat aY).fr.take j) false)) (0+((c.trs.getD (l.getD k 0).toNat aY).fr.getD j 0).toNat*1) (bP false) q=lM (dW (jA c m (l.take k)).1 ((c.trs.getD (l.getD k 0).toNat aY).fr.take (j+1)) false) q
    rw[ajN,auM,alp (by rw[lX];exact s1) hx24,aO 0 h3,abO]
   ·obtain rfl:j=(c.trs.getD (l.getD k 0).toNat aY).fr.length:=by omega
    rw[acr]
    refine nX (k) (ai (ai (ai (fun _=>rfl) (aH (by omega))) rfl) (ai rfl (ai rfl (ai ?_ ?_)))) (ai (ai rfl (ai rfl ?_)) trivial) trivial
    ·rw[e,aao];rfl
    ·rw[e];exact dK _ _
    ·rw[e];exact fun _ _=>rfl
  ·have e:jA c m (l.take (k+1))=jA c m (l.take k):=by rw[hst];unfold nC;rw[h4];rfl
   refine nX (k) (ai (ai (ai (fun _=>rfl) (aH (by omega))) rfl) (ai rfl (ai rfl (ai ?_ ?_)))) (ai (ai rfl (ai rfl ?_)) trivial) trivial
   ·rw[e]
   ·rw[e];exact fun _ _=>rfl
   ·rw[e];exact fun _ _=>rfl
 ·obtain rfl:k=l.length:=by omega
  rw[acr] at s1 s2
  rw[acr]
  have hfm:∀x∈(jA c m l).2,0≤x∧x<(c.trs.length:Int):=fun x hx=>by
   rcases aiS c l (m,[]) x hx with h | h
   ·simp at h
   ·exact hlm x h
  generalize jA c m l=s at *
  refine fR (s.2.length) (fun j=>[(76,.s (iA j))]) (fun j=>[⟨2,132,[.ob (mkO (kF c s.1 (s.2.take j)))]⟩]) (fun j=>True) ?_ ?_ ?_ ?_
  ·exact (ai (ai (fun _=>rfl) (iE (by omega))) rfl)
  ·exact (ai (ai rfl (ai rfl (fun _ _=>rfl))) trivial)
  ·trivial
  intro (j:Nat) ⟨hj,_⟩
  have s3:(kF c s.1 (s.2.take j)).length=24:=(aah _ _ _).trans s1
  refine bL (j<s.2.length) (fun h2=>?_) fun h2=>?_
  ·refine ai (ai (aaT _) (by show (j:Int)<(s.2.length:Int);omega)) ?_
   refine ai (by show j<s.2.length;exact h2) ?_
   have hx0:=hfm _ (aay (bB 0 h2))
   have hi:(s.2.getD j 0).toNat<c.trs.length:=by omega
   obtain ⟨q1,q2,q3⟩:=rO hc hi
   have hto:=mP ho hi
   have hst:kF c s.1 (s.2.take (j+1))=dW (kF c s.1 (s.2.take j)) (c.trs.getD (s.2.getD j 0).toNat aY).to true:=by rw[aO 0 h2,amv]
   refine ai hx0 ?_
   refine ai rfl ?_
   have hf:(c.trs.getD (s.2.getD j 0).toNat aY).to.length≤1000000:=hto.2.1
   refine fR ((c.trs.getD (s.2.getD j 0).toNat aY).to.length) (fun i=>[(87,.s (iA i))]) (fun i=>[⟨2,132,[.ob (mkO (dW (kF c s.1 (s.2.take j)) ((c.trs.getD (s.2.getD j 0).toNat aY).to.take i) true))]⟩]) (fun i=>True) ?_ ?_ ?_ ?_
   ·exact (ai (ai (fun _=>rfl) (iE (by omega))) rfl)
   ·exact (ai (ai rfl (ai rfl (fun _ _=>rfl))) trivial)
    skip
   ·trivial
   intro (i:Nat) ⟨hk1,_⟩
   refine ah (p:=i<(c.trs.getD (s.2.getD j 0).toNat aY).to.length) (by simp only[zz,reduceCtorEq];omega) (fun h3=>?_) (fun h3=>?_)
   ·refine iX (i) ((c.trs.getD (s.2.getD j 0).toNat aY).to.length) ?_
    have hx:=xW q2.1 h3
    have hx24:((c.trs.getD (s.2.getD j 0).toNat aY).to.getD i 0).toNat<24:=by omega
    refine ai hx ?_
    refine ai (by show 0+((c.trs.getD (s.2.getD j 0).toNat aY).to.getD i 0).toNat*1<24;omega) ?_
    refine nX (i) (ai (ai (fun _=>rfl) (aH (by omega))) rfl) (ai (ai rfl (ai rfl ?_)) trivial) trivial
    intro q hq
    show vS (lM (dW (kF c s.1 (s.2.take j)) ((c.trs.getD (s.2.getD j 0).toNat aY).to.take i) true)) (0+((c.trs.getD (s.2.getD j 0).toNat aY).to.getD i 0).toNat*1) (bP true) q=lM (dW (kF c s.1 (s.2.take j)) ((c.trs.getD (s.2.getD j 0).toNat aY).to.take (i+1)) true) q
    rw[ajN,auM,alp (by rw[lX];exact s3) hx24,aO 0 h3,abO]
   ·obtain rfl:i=(c.trs.getD (s.2.getD j 0).toNat aY).to.length:=by omega
    rw[acr]
    refine nX (j) (ai (ai (fun _=>rfl) (aH (by omega))) rfl) (ai (ai rfl (ai rfl ?_)) trivial) trivial
    rw[hst];exact fun _ _=>rfl
  ·obtain rfl:j=s.2.length:=by omega
   rw[acr] at s3
   rw[acr]
   refine cK (asG) ((c,kF c s.1 s.2)) (by exact (ai (ai rfl (ai (ai rfl (fun _ _=>rfl)) (ai (ai rfl (fun _ _=>rfl)) (ai rfl (fun _ _=>rfl))))) (ai rfl (fun _ _=>rfl)))) (⟨h24,s3⟩) ?_
   refine eF (xQ c a v) ?_
   rw[hA]
   exact (ai (ai rfl (fun _ _=>rfl)) (ai (ai rfl (fun _ _=>rfl)) rfl))
theorem afv {α:Type} {l m:List α} {k:Nat} (d:α) (h1:k<l.length) (h2:k<m.length) (h:l.take k=m.take k) (e:l.getD k d=m.getD k d):l.take (k+1)=m.take (k+1):=by
 rw[aO d h1,aO d h2,h,e]
def avJ:Spec:=bq (fun a:List (Int)×List (Int)=>[isA a.1,isA a.2]) (fun a=>a.1.length≤1000000) (fun a=>bP (decide (a.1=a.2)))
theorem aj8:av Tryz.prog 21 avJ:=by
 refine vF Tryz.func21 ?_
 rintro (a:List (Int)×List (Int)) hpre
 have hl:a.1.length≤1000000:=hpre
 refine bN (a.1.length=a.2.length) (fun h1=>?_) fun h1=>?_
 ·refine eN (bP (decide (a.1=a.2))) ?_
  rw[decide_eq_false (fun h=>h1 (congrArg List.length h))]
  exact rfl
 refine fR (a.1.length) (fun k=>[(5,.s (iA k))]) (fun k=>[]) (fun k=>a.1.take k=a.2.take k) (by exact (ai (ai (fun _=>rfl) (iE (by omega))) rfl)) (by exact trivial) ?_ ?_
 ·rfl
 intro (k:Nat) ⟨hk,hall⟩
 refine bL (k<a.1.length) (fun h4=>?_) fun h4=>?_
 ·refine dR (.seq [0,1,2,3,4,5,6,7,8]) ?_
  refine iX (k) (a.1.length) ?_
  refine iX (k) (a.2.length) ?_
  refine aW (p:=a.1.getD k 0=a.2.getD k 0) (by exact bne_iff_ne) (fun h5=>?_) (fun h5=>?_)
  ·refine eN (bP (decide (a.1=a.2))) ?_
   rw[decide_eq_false (fun h=>h5 (by rw[h]))]
   exact rfl
  refine nX (k) (ai (ai (fun _=>rfl) (aH (by omega))) rfl) trivial ?_
  exact afv 0 h4 (by omega) hall h5
 ·obtain rfl:k=a.1.length:=by omega
  rw[acr,h1,acr] at hall
  refine eN (bP (decide (a.1=a.2))) ?_
  rw[decide_eq_true hall]
  exact rfl
theorem aeF:av Tryz.prog 161 (bq (fun a:List Int×Int=>[isA a.1,iA a.2]) (fun a=>a.1.length≤1000000) (fun a=>bP (gM a.1 a.2))):=by
 refine vF Tryz.func161 ?_
 rintro (a:List Int×Int) hpre
 have hl:a.1.length≤1000000:=hpre
 refine fR (a.1.length) (fun k=>[(5,.s (iA k))]) (fun k=>[]) (fun k=>∀y∈a.1.take k,(a.2==y)=false) (by exact (ai (ai (fun _=>rfl) (iE (by omega))) rfl)) (by exact trivial) ?_ ?_
 ·exact fun y hy=>absurd hy (by simp)
 intro (k:Nat) ⟨hk,hall⟩
 refine bL (k<a.1.length) (fun h1=>?_) fun h1=>?_
 ·refine iX (k) (a.1.length) ?_
  refine ah (p:=a.1.getD k 0=a.2) (by simp only[zz,reduceCtorEq]) (fun h2=>?_) (fun h2=>?_)
  ·refine eN (bP (gM a.1 a.2)) ?_
   rw[show gM a.1 a.2=true from af3 (d:=0) h1 (by rw[h2];exact beq_self_eq_true _)]
   exact rfl
  refine nX (k) (ai (ai (fun _=>rfl) (aH (by omega))) rfl) trivial ?_
  intro y hy
  rw[aO 0 h1] at hy
  rcases acw.1 hy with hy | hy
  ·exact hall y hy
  ·simp only[acC] at hy;subst hy;exact beq_eq_false_iff_ne.2 fun e=>h2 e.symm
 ·obtain rfl:k=a.1.length:=by omega
  rw[acr] at hall
  refine eN (bP (gM a.1 a.2)) ?_
  rw[show gM a.1 a.2=false from ar6.2 (fun y hy=>by rw[hall y hy];decide)]
  exact rfl
def nP (a b:List Int):Bool:=a.any fun k=>gM b k
def asY:Spec:=bq (fun a:List (Int)×List (Int)=>[isA a.1,isA a.2]) (fun a=>a.1.length≤1000000) (fun a=>bP (decide (a.1=a.2)))
theorem ahG:av Tryz.prog 57 asY:=by
 refine vF Tryz.func57 ?_
 rintro (a:List (Int)×List (Int)) hpre
 have hl:a.1.length≤1000000:=hpre
 refine bN (a.1.length=a.2.length) (fun h1=>?_) fun h1=>?_
 ·refine eN (bP (decide (a.1=a.2))) ?_
  rw[decide_eq_false (fun h=>h1 (congrArg List.length h))]
  exact rfl
 refine fR (a.1.length) (fun k=>[(5,.s (iA k))]) (fun k=>[]) (fun k=>a.1.take k=a.2.take k) (by exact (ai (ai (fun _=>rfl) (iE (by omega))) rfl)) (by exact trivial) ?_ ?_
 ·rfl
 intro (k:Nat) ⟨hk,hall⟩
 refine bL (k<a.1.length) (fun h4=>?_) fun h4=>?_
 ·refine dR (.seq [0,1,2,3,4,5,6,7,8]) ?_
  refine iX (k) (a.1.length) ?_
  refine iX (k) (a.2.length) ?_
  refine aW (p:=a.1.getD k 0=a.2.getD k 0) (by exact bne_iff_ne) (fun h5=>?_) (fun h5=>?_)
  ·refine eN (bP (decide (a.1=a.2))) ?_
   rw[decide_eq_false (fun h=>h5 (by rw[h]))]
   exact rfl
  refine nX (k) (ai (ai (fun _=>rfl) (aH (by omega))) rfl) trivial ?_
  exact afv 0 h4 (by omega) hall h5
 ·obtain rfl:k=a.1.length:=by omega
  rw[acr,h1,acr] at hall
  refine eN (bP (decide (a.1=a.2))) ?_
  rw[decide_eq_true hall]
  exact rfl
def atv:Spec:=bq (fun a:List (List UInt8)×List (List UInt8)=>[ssA a.1,ssA a.2]) (fun a=>a.1.length≤1000000) (fun a=>bP (decide (a.1=a.2)))
theorem aoo:av Tryz.prog 55 atv:=by
 refine vF Tryz.func55 ?_
 rintro (a:List (List UInt8)×List (List UInt8)) hpre
 have hl:a.1.length≤1000000:=hpre
 refine bN (a.1.length=a.2.length) (fun h1=>?_) fun h1=>?_
 ·refine eN (bP (decide (a.1=a.2))) ?_
  rw[decide_eq_false (fun h=>h1 (congrArg List.length h))]
  exact rfl
 refine fR (a.1.length) (fun k=>[(5,.s (iA k))]) (fun k=>[]) (fun k=>a.1.take k=a.2.take k) (by exact (ai (ai (fun _=>rfl) (iE (by omega))) rfl)) (by exact trivial) ?_ ?_
 ·rfl
 intro (k:Nat) ⟨hk,hall⟩
 refine bL (k<a.1.length) (fun h4=>?_) fun h4=>?_
 ·refine dR (.seq [0,1,2,3,4,5,6,7,8]) ?_
  refine iX (k) (a.1.length) ?_
  refine iX (k) (a.2.length) ?_
  refine aW (p:=a.1.getD k []=a.2.getD k []) (by (show (!(a.1.getD k []==a.2.getD k []))=true↔_;simp)) (fun h5=>?_) (fun h5=>?_)
  ·refine eN (bP (decide (a.1=a.2))) ?_
   rw[decide_eq_false (fun h=>h5 (by rw[h]))]
   exact rfl
  refine nX (k) (ai (ai (fun _=>rfl) (aH (by omega))) rfl) trivial ?_
  exact afv [] h4 (by omega) hall h5
 ·obtain rfl:k=a.1.length:=by omega
  rw[acr,h1,acr] at hall
  refine eN (bP (decide (a.1=a.2))) ?_
  rw[decide_eq_true hall]
  exact rfl
def sgA (x:oP):SV:=.p false (.agg (sgK x))
def arA (x:oP):Prop:=eO x.on=true∧eO x.off=true
theorem agq {x:Ex} (h:eO x=true):uw x x=true:=by unfold uw;rw[h,adY.2 rfl];rfl
theorem ao7:av Tryz.prog 56 (bq (fun x:oP=>[sgA x,sgA x]) arA (fun _=>bP true)):=by
 refine vF Tryz.func56 ?_
 rintro (x:oP) hpre
 obtain ⟨h1,h2⟩:=hpre
 refine bT (by show (x.nm==x.nm)=true;exact beq_self_eq_true _) ?_
 refine bT (by exact beq_self_eq_true x.kd) ?_
 refine cK (alE) ((x.on,x.on)) (by exact (ai (ai rfl (ai rfl (ai rfl (fun _ _=>rfl)))) (ai rfl (ai rfl (ai rfl (fun _ _=>rfl)))))) (trivial) ?_
 refine bT (by show uw x.on x.on=true;exact agq h1) ?_
 refine cK (alE) ((x.off,x.off)) (by exact (ai (ai rfl (ai rfl (ai rfl (fun _ _=>rfl)))) (ai rfl (ai rfl (ai rfl (fun _ _=>rfl)))))) (trivial) ?_
 refine bT (by show uw x.off x.off=true;exact agq h2) ?_
 refine bT (by exact beq_self_eq_true x.dl) ?_
 refine eN (bP true) ?_
 rw[(beq_self_eq_true x.ini).symm]
 exact rfl
def amT (c:bC):Prop:=(c.ins.length≤1000000∧c.sgs.length≤1000000∧c.pl.length≤1000000∧c.mi.length≤1000000)∧∀x∈c.sgs,arA x
theorem arE:av Tryz.prog 20 (bq (fun c:bC=>[rQ c,rQ c]) amT (fun _=>bP true)):=by
 refine vF Tryz.func20 ?_
 rintro (c:bC) hpre
 obtain ⟨⟨h1,h2,h3,h4⟩,hx⟩:=hpre
 have h1:c.ins.length≤1000000:=h1
 have h2:c.sgs.length≤1000000:=h2
 refine bN (c.act=c.act) (fun g1=>?_) fun g1=>?_
 ·exact absurd rfl g1
 refine cK (aoo) ((c.ins,c.ins)) (by exact (ai (ai rfl (fun _ _=>rfl)) (ai rfl (fun _ _=>rfl)))) (h1) ?_
 refine bF (by show (!decide (c.ins=c.ins))=false;simp) ?_
 refine bN (c.sgs.length=c.sgs.length) (fun g2=>?_) fun g2=>?_
 ·exact absurd rfl g2
 refine fR (c.sgs.length) (fun k=>[(5,.s (iA k))]) (fun k=>[]) (fun k=>True) (by exact (ai (ai (fun _=>rfl) (iE (by omega))) rfl)) (by exact trivial) ?_ ?_
 ·trivial
 intro (k:Nat) ⟨hk,_⟩
 refine bL (k<c.sgs.length) (fun g3=>?_) fun g3=>?_
 ·refine dR (.seq [0,1,2,3,4,5,6,7,8,9,10,11]) ?_
  refine iX (k) (c.sgs.length) ?_
  refine iX (k) (c.sgs.length) ?_
  refine cK (ao7) (c.sgs.getD k ak) (by exact (ai (ai rfl (ai (iE (by simp only[zz,reduceCtorEq])) (ai (iE (by simp only[zz,reduceCtorEq])) (ai (iE (by simp only[zz,reduceCtorEq])) (ai (ai rfl (fun _ _=>rfl)) (ai (iE (by simp only[zz,reduceCtorEq])) (ai (iE (by simp only[zz,reduceCtorEq])) (ai (ai rfl (fun _ _=>rfl)) (ai (iE (by simp only[zz,reduceCtorEq])) rfl))))))))) (ai rfl (ai (iE (by simp only[zz,reduceCtorEq])) (ai (iE (by simp only[zz,reduceCtorEq])) (ai (iE (by simp only[zz,reduceCtorEq])) (ai (ai rfl (fun _ _=>rfl)) (ai (iE (by simp only[zz,reduceCtorEq])) (ai (iE (by simp only[zz,reduceCtorEq])) (ai (ai rfl (fun _ _=>rfl)) (ai (iE (by simp only[zz,reduceCtorEq])) rfl))))))))))) (hx _ (aay (bB ak g3))) ?_
  refine nX (k) (ai (ai (fun _=>rfl) (aH (by omega))) rfl) trivial trivial
 obtain rfl:k=c.sgs.length:=by omega
 refine cK (ahG) ((c.pl,c.pl)) (by exact (ai (ai rfl (fun _ _=>rfl)) (ai rfl (fun _ _=>rfl)))) (h3) ?_
 refine bT (by show decide (c.pl=c.pl)=true;simp) ?_
 refine cK (ahG) ((c.mi,c.mi)) (by exact (ai (ai rfl (fun _ _=>rfl)) (ai rfl (fun _ _=>rfl)))) (h4) ?_
 refine eN (bP true) ?_
 rw[show true=decide (c.mi=c.mi) by simp]
 exact rfl
theorem adS:av Tryz.prog 176 (bq (fun c:bC=>[rQ c]) kQ (fun c=>iP (bU c))):=by
 refine vF Tryz.func176 ?_
 rintro (c:bC) hpre
 obtain ⟨⟨h1,h2⟩,h3,h4⟩:=hpre
 have h1:0≤c.act:=h1
 have h2:c.act≤1000:=h2
 have h3:c.ins.length≤1000000:=h3
 refine ai (ai (fun _=>trivial) ?_) trivial
 show IntKind.i64.wrap (IntKind.i64.wrap (2*c.act)+(c.ins.length:Int))=bU c
 rw[dD (n:=2*c.act) (by omega) (by omega),dD (by omega) (by omega)];rfl
theorem adJ:av Tryz.prog 104 (bq (fun c:bC=>[rQ c]) kQ (fun c=>iP (dx c))):=by
 refine vF Tryz.func104 ?_
 rintro (c:bC) hpre
 obtain ⟨⟨h1,h2⟩,h3,h4⟩:=hpre
 have h1:0≤c.act:=h1
 have h2:c.act≤1000:=h2
 have h3:c.ins.length≤1000000:=h3
 have h4:c.sgs.length≤1000000:=h4
 refine ai (ai (fun _=>trivial) ?_) trivial
 show IntKind.i64.wrap (IntKind.i64.wrap (IntKind.i64.wrap (2*c.act)+(c.ins.length:Int))+(c.sgs.length:Int))=dx c
 rw[dD (n:=2*c.act) (by omega) (by omega),dD (n:=2*c.act+(c.ins.length:Int)) (by omega) (by omega),dD (by omega) (by omega)];rfl
theorem qM:av Tryz.prog 178 (bq (fun x:Ex=>[iV x]) (fun _=>True) (fun x=>bP (bK x))):=by
 refine vF Tryz.func178 ?_
 rintro (x:Ex) hpre
 refine aC (b:=x.op==0) rfl (fun h1=>?_) (fun h1=>?_)
 ·refine aC (b:=x.idx==0) rfl (fun h2=>?_) (fun h2=>?_)
  ·refine eN (bP (bK x)) ?_
   rw[show bK x=(((x.args.length:Nat):Int)==0) by unfold bK;rw[h1,h2];cases x.args<;>rfl]
   exact rfl
  ·refine eN (bP (bK x)) ?_
   rw[show bK x=false by unfold bK;rw[h2];simp]
   exact rfl
 ·refine eN (bP (bK x)) ?_
  rw[show bK x=false by unfold bK;rw[h1];simp]
  exact rfl
def six:List UInt8:=[97,98,99,100,101,102]
theorem aaV {d:Nat} (h:d<6):(six.take (d+1)).drop d=[UInt8.ofNat (97+d)]:=by
 match d,h with
 | 0,_=>rfl | 1,_=>rfl | 2,_=>rfl | 3,_=>rfl | 4,_=>rfl | 5,_=>rfl
theorem at1 {d:Nat} (h:d<2):([48,49].take (d+1)).drop d=[UInt8.ofNat (48+d)]:=by
 match d,h with
 | 0,_=>rfl | 1,_=>rfl
def aj4 (a:bC×Nat):Prop:=kQ a.1∧a.1.act≤6∧(a.2:Int)<dx a.1
theorem ahQ:av Tryz.prog 174 (bq (fun a:bC×Nat=>[rQ a.1,iA a.2]) aj4 (fun a=>sP (dZ a.1 a.2))):=by
 refine vF Tryz.func174 ?_
 rintro ⟨c,n⟩ hpre
 obtain ⟨hs,h6,hn⟩:=hpre
 have hs0:=hs
 obtain ⟨⟨h1,h2⟩,h3,h4⟩:=hs
 have h1:0≤c.act:=h1
 have h6:c.act≤6:=h6
 have h3:c.ins.length≤1000000:=h3
 have h4:c.sgs.length≤1000000:=h4
 have hn:(n:Int)<2*c.act+c.ins.length+c.sgs.length:=hn
 refine ah (p:=(n:Int)<2*c.act) (by exact aB (by rw[dD (n:=2*c.act) (by omega) (by omega)])) (fun g1=>?_) (fun g1=>?_)
 ·have hq:IntKind.i64.wrap ((n:Int).tdiv 2)=((n / 2:Nat):Int):=by rw[show ((n:Int).tdiv 2)=((n / 2:Nat):Int) from rfl];exact xP (by omega)
  have hq1:IntKind.i64.wrap (IntKind.i64.wrap ((n:Int).tdiv 2)+1)=((n / 2+1:Nat):Int):=by rw[hq];exact aH (by omega)
  have hr:((n:Int).tmod 2)=((n % 2:Nat):Int):=rfl
  have hr1:IntKind.i64.wrap ((n:Int).tmod 2+1)=((n % 2+1:Nat):Int):=by rw[hr];exact aH (by omega)
  have hx:(strOf six).extract (IntKind.i64.wrap ((n:Int).tdiv 2)).toNat (IntKind.i64.wrap (IntKind.i64.wrap ((n:Int).tdiv 2)+1)).toNat=strOf [UInt8.ofNat (97+n / 2)]:=by
   rw[hq1,hq,ad9,ad9,tY,aaV (by omega)]
  have hy:(strOf [48,49]).extract ((n:Int).tmod 2).toNat (IntKind.i64.wrap ((n:Int).tmod 2+1)).toNat=strOf [UInt8.ofNat (48+n % 2)]:=by
   rw[hr1,hr,ad9,ad9,tY,at1 (by omega)]
  refine dR (.seq [0,1,2,3,4,5,6,7,8,9,10,11,12,13]) ?_
  refine ai (by decide) (ai (by decide) ?_)
  refine ai (ai (by rw[hq];exact aaT _) (ai (by rw[hq1,hq];omega) (by rw[hq1];show ((n / 2+1:Nat):Int)≤6;omega))) ?_
  refine ai (by decide) (ai (by decide) ?_)
  refine ai (ai (by show (0:Int)≤((n:Int).tmod 2);rw[hr];exact aaT _) (ai (by rw[hr1];show ((n % 2:Nat):Int)≤_;omega) (by rw[hr1];show ((n % 2+1:Nat):Int)≤2;omega))) ?_
  refine ai ?_ ?_
  ·show (((((strOf six).extract (IntKind.i64.wrap ((n:Int).tdiv 2)).toNat (IntKind.i64.wrap (IntKind.i64.wrap ((n:Int).tdiv 2)+1)).toNat).size+((strOf [48,49]).extract ((n:Int).tmod 2).toNat (IntKind.i64.wrap ((n:Int).tmod 2+1)).toNat).size:Nat)):Int)≤9223372036854775807
   rw[hx,hy];show ((2:Nat):Int)≤9223372036854775807;decide
  ·refine ai (ai (fun _=>trivial) ?_) trivial
   show (strOf six).extract (IntKind.i64.wrap ((n:Int).tdiv 2)).toNat (IntKind.i64.wrap (IntKind.i64.wrap ((n:Int).tdiv 2)+1)).toNat++(strOf [48,49]).extract ((n:Int).tmod 2).toNat (IntKind.i64.wrap ((n:Int).tmod 2+1)).toNat=strOf (dZ c n)
   rw[hx,hy]
   unfold dZ
   rw[if_pos g1];rfl
 refine cK (adS) (c) (by exact (ai rfl (ai (ai rfl (fun _ _=>rfl)) (ai (ai rfl (fun _ _=>rfl)) (ai (ai rfl (fun _ _=>rfl)) (ai rfl (fun _ _=>rfl))))))) (hs0) ?_
 refine ah (p:=(n:Int)<bU c) (by exact aB Iff.rfl) (fun g2=>?_) (fun g2=>?_)
 ·have hd:IntKind.i64.wrap ((n:Int)-IntKind.i64.wrap (2*c.act))=((n-2*c.act.toNat:Nat):Int):=by
   rw[dD (n:=2*c.act) (by omega) (by omega),dD (by omega) (by omega)];omega
  have g3:(n:Int)<2*c.act+c.ins.length:=g2
  refine ai (ai (by rw[hd];exact aaT _) (by rw[hd];show ((n-2*c.act.toNat:Nat):Int)<(c.ins.length:Int);omega)) ?_
  refine ai rfl ?_
  refine ai (ai (fun _=>trivial) ?_) trivial
  show strOf (c.ins.getD (IntKind.i64.wrap ((n:Int)-IntKind.i64.wrap (2*c.act))).toNat [])=strOf (dZ c n)
  unfold dZ
  rw[hd,if_neg g1,if_pos g2,ad9]
 ·have hN:bU c=2*c.act+c.ins.length:=rfl
  have hd:IntKind.i64.wrap ((n:Int)-bU c)=((n-2*c.act.toNat-c.ins.length:Nat):Int):=by
   rw[hN,dD (by omega) (by omega)];omega
  refine dR (.seq [0,1,2,3,4,5,6,7,8,9]) ?_
  refine cK (adS) (c) (by exact (ai rfl (ai (ai rfl (fun _ _=>rfl)) (ai (ai rfl (fun _ _=>rfl)) (ai (ai rfl (fun _ _=>rfl)) (ai rfl (fun _ _=>rfl))))))) (hs0) ?_
  refine ai (ai (by rw[hd];exact aaT _) (by rw[hd];show ((n-2*c.act.toNat-c.ins.length:Nat):Int)<(c.sgs.length:Int);omega)) ?_
  refine ai rfl ?_
  refine ai (ai (fun _=>trivial) ?_) trivial
  show strOf (c.sgs.getD (IntKind.i64.wrap ((n:Int)-bU c)).toNat ak).nm=strOf (dZ c n)
  unfold dZ
  rw[hd,if_neg g1,if_neg g2,ad9]
def acd (s:List UInt8) (k:Nat):Bool:=(decide (k=0)&&!jg (s.getD k 0))||!dV (s.getD k 0)
theorem qX {s:List UInt8} {k:Nat} (hk:k<s.length) (h:acd s k=true):jE s=false:=by
 unfold acd at h
 unfold jE
 rw[aoU] at h
 rcases h with h | h
 ·rw[aaX,decide_eq_true_iff] at h
  obtain ⟨rfl,h⟩:=h
  have h:jg (s.getD 0 0)=false:=by simpa using h
  rw[h];simp
 ·have h:dV (s.getD k 0)=false:=by simpa using h
  have:s.all dV=false:=by
   rw[asa]
   exact ⟨_,aay (bB 0 hk),by rw[h];decide⟩
  rw[this];simp
theorem aqG {s:List UInt8} (h:∀k,k<s.length→acd s k=false):jE s=!s.isEmpty:=by
 unfold jE
 cases s with
 | nil=>rfl
 | cons b t=>
  have h0:=h 0 (Nat.zero_lt_succ _)
  unfold acd at h0
  rw[auU] at h0
  have h1:jg ((b :: t).getD 0 0)=true:=by simpa using h0.1
  have h2:(b :: t).all dV=true:=by
   rw[alQ]
   intro x hx
   obtain ⟨k,hk,rfl⟩:=aoG hx
   have hk':=h k hk
   unfold acd at hk'
   rw[auU] at hk'
   have:=hk'.2
   rw[aai,aau hk] at this
   simpa using this
  rw[h1,h2];rfl
def nO (k x:Nat):Prop:=(k=0∧¬(97≤x∧x≤122))∨¬((97≤x∧x≤122)∨(65≤x∧x≤90)∨x=95∨(48≤x∧x≤57))
theorem nV {s:List UInt8} {k:Nat}:acd s k=true↔nO k (s.getD k 0).toNat:=by
 unfold acd nO dV eu jg uJ
 simp only[aoU,aaX,alO,decide_eq_true_eq,auU,axQ,decide_eq_false_iff_not]
 omega
theorem qZ {s:List UInt8} {k:Nat} (h:¬nO k (s.getD k 0).toNat):acd s k=false:=awF.2 fun e=>h (nV.1 e)
end Go.Sx.Pe
