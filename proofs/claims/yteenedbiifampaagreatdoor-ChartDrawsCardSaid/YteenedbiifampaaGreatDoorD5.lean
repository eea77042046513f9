/- ChartDraws, part 5 of its proof: declarations that the last part uses. -/
import Derived.Test.YteenedbiifampaaGreatDoorD4
set_option maxHeartbeats 1000000
set_option maxRecDepth 4000
set_option linter.unusedSimpArgs false
set_option linter.unusedVariables false
set_option linter.unusedSectionVars false
namespace Go.Sx.Pe
open Go Go.Proofs Go.Sx.Pn
theorem anx:aM Tryz.prog 130 (bM (fun a:gy×Stp×List Bool=>[uW a.1,stA a.2.1,enA a.2.2]) (fun a=>a.1.act≤6) (fun a=>iP (jA a.1.act a.2.1 a.2.2))):=by
 refine aW (Tb:=tab) mixed aB Tryz.func130 rfl rfl ?_
 rintro ⟨s,x,m⟩ hpre
 refine ai (ai rfl (ai rfl rfl)) ?_
 have ha:s.act≤6:=hpre
 refine ei _ (ai (apx) (ei (x) (ei [] (ai (a4 (ai (fun _=>Or.inl rfl) (ai nof (Or.inl rfl)))) (ai (by exact (ai (ai rfl (fun _ _=>rfl)) rfl)) (ai trivial (ai (trivial) ?_)))))))
 refine aF (p:=eP x=0) (bZ (by omega)) (fun h1=>?_) (fun h1=>?_)
 ·refine ai (ai (fun _=>trivial) ?_) trivial
  show aC _ (iP (jA s.act x m))
  rw[jA,if_pos h1]
  exact rfl
 obtain ⟨⟨_,h6⟩,hx,_⟩:=lT h1
 refine ei (bI.inv { X:=Nat,up:=fun k=>[(20,.s (iA k))],uo:=fun k=>[],inv:=fun k=>k≤x.st.length∧(∀y∈x.st.take k,decide (s.act≤y.1)=false),meas:=fun k=>x.st.length-k,x0:=0 }) ?_
 refine ai (ai (ai (by exact (a4 (ai rfl rfl))) (ai (by exact (ai (ai (fun _=>rfl) (iE (by simp only[zz,reduceCtorEq];rfl))) rfl)) (by exact trivial))) rfl) (ai (ai (aef _) ?_) ?_)
 ·exact fun y hy=>absurd hy (by simp)
 intro (k:Nat) ⟨hk,hall⟩
 refine ah (p:=k<x.st.length) (av (by dsimp only;omega)) (fun h2=>?_) (fun h2=>?_)
 ·refine ai (ai (abJ _) (iN (n:=x.st.length) (by omega))) (ai rfl ?_)
  refine ah (p:=s.act≤(x.st.getD k aV).1) (fJ Iff.rfl) (fun h3=>?_) (fun h3=>?_)
  ·have e:vL s.act x.st=true:=qg (d:=aV) h2 (decide_eq_true h3)
   refine ai (ai (fun _=>trivial) ?_) trivial
   show aC _ (iP (jA s.act x m))
   rw[jA,if_neg (fun h=>h h1),if_pos e]
   exact rfl
  refine ei (k+1) (ai (ai rfl rfl) (ai (ai (ai rfl (ai (ai rfl rfl) (ai (ai rfl rfl) (ai (ai (ai (fun _=>rfl) (aN (by omega))) rfl) trivial)))) rfl) (ai (ai (iL (by omega)) ?_) (iM (by omega)))))
  intro y hy
  rw[aX aV h2] at hy
  rcases ahq.1 hy with hy | hy
  ·exact hall y hy
  ·simp only[agL] at hy;subst hy;exact decide_eq_false h3
 ·obtain rfl:k=x.st.length:=by omega
  rw[afz] at hall
  have eo:vL s.act x.st=false:=aqh.2 (fun y hy=>by rw[hall y hy];decide)
  refine ei (bI.inv { X:=Nat,up:=fun j=>[(33,.s (iA j))],uo:=fun j=>[],inv:=fun j=>j≤x.st.length∧(∀y∈x.st.take j,(jw m y.1==y.2)=false),meas:=fun j=>x.st.length-j,x0:=0 }) ?_
  refine ai (ai (ai (by exact (a4 (ai rfl rfl))) (ai (by exact (ai (ai (fun _=>rfl) (iE (by simp only[zz,reduceCtorEq];rfl))) rfl)) (by exact trivial))) rfl) (ai (ai (aef _) ?_) ?_)
  ·exact fun y hy=>absurd hy (by simp)
  intro (j:Nat) ⟨hj,hal⟩
  refine ah (p:=j<x.st.length) (av (by dsimp only;omega)) (fun h4=>?_) (fun h4=>?_)
  ·refine ai (ai (abJ _) (iN (n:=x.st.length) (by omega))) (ai rfl ?_)
   have hxj:=sG hx h4
   refine ei (.seq [0,1,2,3,4,5,6]) (ai (by kernel_rfl) ?_)
   refine ai hxj ?_
   refine ai (by show 0+(x.st.getD j aV).1.toNat*1<6;omega) ?_
   refine ah (p:=(jw m (x.st.getD j aV).1==(x.st.getD j aV).2)=true) (by (show (m.getD (0+(x.st.getD j aV).1.toNat*1) false==(x.st.getD j aV).2)=true↔_;rw[amR,afY];exact Iff.rfl)) (fun h5=>?_) (fun h5=>?_)
   ·have e:atE m x.st=true:=qg (d:=aV) h4 h5
    refine ai (ai (fun _=>trivial) ?_) trivial
    show aC _ (iP (jA s.act x m))
    rw[jA,if_neg (fun h=>h h1),if_neg (by rw[eo];decide),if_pos e]
    exact rfl
   refine ei (j+1) (ai (ai rfl rfl) (ai (ai (ai rfl (ai (ai rfl rfl) (ai (ai rfl rfl) (ai (ai (ai (fun _=>rfl) (aN (by omega))) rfl) trivial)))) rfl) (ai (ai (iL (by omega)) ?_) (iM (by omega)))))
   intro y hy
   rw[aX aV h4] at hy
   rcases ahq.1 hy with hy | hy
   ·exact hal y hy
   ·simp only[agL] at hy;subst hy;exact aqk.2 h5
  ·obtain rfl:j=x.st.length:=by omega
   rw[afz] at hal
   have e:atE m x.st=false:=aqh.2 (fun y hy=>by rw[hal y hy];decide)
   refine ai (ai (fun _=>trivial) ?_) trivial
   show aC _ (iP (jA s.act x m))
   rw[jA,if_neg (fun h=>h h1),if_neg (by rw[eo];decide),if_neg (by rw[e];decide)]
   exact rfl
theorem aku:aM Tryz.prog 131 (iq (fun a:List Bool×Stp=>[enA a.1,stA a.2]) (fun a=>a.1.length≤6∧vk a.1.length a.2.st∧a.2.st.length≤1000000) (fun a=>enP (lG a.1 a.2.st))):=by
 refine aW (Tb:=tab) mixed aB Tryz.func131 rfl rfl ?_
 rintro ⟨m,x⟩ hpre
 refine ai (ai rfl (ai rfl rfl)) ?_
 obtain ⟨hm,hx,hl⟩:=hpre
 have hm:m.length≤6:=hm
 have hx:vk m.length x.st:=hx
 have hl:x.st.length≤1000000:=hl
 refine ei (bI.inv { X:=Nat,up:=fun k=>[(10,.s (iA k))],uo:=fun k=>[⟨0,194,[.ob (enO (lG m (x.st.take k)))]⟩],inv:=fun k=>k≤x.st.length∧(True),meas:=fun k=>x.st.length-k,x0:=0 }) ?_
 refine ai (ai (ai (by exact (a4 (ai rfl rfl))) (ai ?_ ?_)) rfl) (ai (ai (aef _) ?_) ?_)
 ·exact (ai (ai (fun _=>rfl) (iE (by simp only[zz,reduceCtorEq];rfl))) rfl)
 ·exact (ai (ai rfl (ai rfl (fun _ _=>rfl))) trivial)
 ·trivial
 intro (k:Nat) ⟨hk,_⟩
 refine ah (p:=k<x.st.length) (av (by dsimp only;omega)) (fun h1=>?_) (fun h1=>?_)
 ·refine ai (ai (abJ _) (iN (n:=x.st.length) (by omega))) (ai rfl ?_)
  have hxk:=sG hx h1
  refine ai (by show 0≤(x.st.getD k aV).1∧(x.st.getD k aV).1<6;omega) ?_
  refine ai (by show 0+(x.st.getD k aV).1.toNat*1<6;omega) ?_
  refine ei (k+1) (ai (ai rfl rfl) (ai (ai (ai rfl (ai (ai rfl rfl) (ai (ai rfl rfl) (ai (ai (ai (fun _=>rfl) (aN (by omega))) rfl) (ai (ai rfl (ai rfl ?_)) trivial))))) rfl) (ai (ai (iL (by omega)) trivial) (iM (by omega)))))
  intro q hq
  show pF (fM (lG m (x.st.take k))) (0+(x.st.getD k aV).1.toNat*1) (bP (x.st.getD k aV).2) q=fM (lG m (x.st.take (k+1))) q
  rw[afY,amR,afD (by rw[oW];omega),aX aV h1,adQ]
 ·obtain rfl:k=x.st.length:=by omega
  rw[afz]
  refine ai (ai (fun _=>(by exact (fun _ _=>rfl))) ?_) trivial
  exact (ai rfl (fun _ _=>rfl))
def zeroE (act:Int):List Bool:=List.replicate act.toNat false
def bL (act:Int) (l:List Stp) (k:Nat):List Bool:=(l.take k).foldl (fun m x=>lG m x.st) (zeroE act)
def gV (act:Int) (l:List Stp) (k:Nat):List Bool:=(l.take k).foldl (fun m x=>eZ m (x.st.map (·.1)) true) (zeroE act)
theorem aaR {act:Int} {l:List Stp} {k:Nat} (h:k<l.length):bL act l (k+1)=lG (bL act l k) (l.getD k st0).st:=by unfold bL;rw[aX st0 h,ari];rfl
theorem ac5 {act:Int} {l:List Stp} {k:Nat} (h:k<l.length):gV act l (k+1)=eZ (gV act l k) ((l.getD k st0).st.map (·.1)) true:=by unfold gV;rw[aX st0 h,ari];rfl
theorem zw {α β:Type} {f:List β→α→List β} (hf:∀m x,(f m x).length=m.length):∀(l:List α) (m:List β),(l.foldl f m).length=m.length
 | [],_=>rfl
 | x :: l,m=>by rw[arz,zw hf l,hf]
theorem wB (act:Int) (l:List Stp) (k:Nat):(bL act l k).length=act.toNat:=by
 refine (zw (f:=fun m (x:Stp)=>lG m x.st) (fun m x=>oW x.st m) (l.take k) (zeroE act)).trans ?_
 unfold zeroE;rw[aq8]
theorem aad (act:Int) (l:List Stp) (k:Nat):(gV act l k).length=act.toNat:=by
 refine (zw (f:=fun m (x:Stp)=>eZ m (x.st.map (·.1)) true) (fun m x=>iO true (x.st.map (·.1)) m) (l.take k) (zeroE act)).trans ?_
 unfold zeroE;rw[aq8]
def mE (s:gy):Int:=dW (fun k=>jA s.act (s.sts.getD k st0) (bL s.act s.sts k)) s.sts.length
def eD (s:gy):Int:=
 if s.act<1∨6<s.act then 2 else if s.sts.length=0 then 13 else if 64<s.sts.length then 5 else if ¬mE s=0 then mE s
 else if (bL s.act s.sts s.sts.length).any id=true then 9 else if ((gV s.act s.sts s.sts.length).any fun y=>false==y)=true then 13 else 0
theorem apZ:∀{m:List Bool},m.length≤6→(!((m.getD 0 false==false)&&((m.getD 1 false==false)&&((m.getD 2 false==false)&&((m.getD 3 false==false)&&((m.getD 4 false==false)&&((m.getD 5 false==false)&&true)))))))=m.any id
 | [],_=>rfl
 | [a],_=>by cases a<;>rfl
 | [a,b],_=>by cases a<;>cases b<;>rfl
 | [a,b,c],_=>by cases a<;>cases b<;>cases c<;>rfl
 | [a,b,c,d],_=>by cases a<;>cases b<;>cases c<;>cases d<;>rfl
 | [a,b,c,d,e],_=>by cases a<;>cases b<;>cases c<;>cases d<;>cases e<;>rfl
 | [a,b,c,d,e,f],_=>by cases a<;>cases b<;>cases c<;>cases d<;>cases e<;>cases f<;>rfl
 | _ :: _ :: _ :: _ :: _ :: _ :: _ :: _,h=>by simp at h
theorem aod (l:List Sk) {j:Nat} (h:j<l.length):(l.map (·.1)).getD j 0=(l.getD j aV).1:=by
 rw[aaM,aaM,ahO,aa8 h];rfl
theorem abE {act:Int} {x:Stp} {m:List Bool} (h:jA act x m=0):eP x=0∧∀y∈x.st,0≤y.1∧y.1<act:=by
 unfold jA at h
 split at h
 ·rename_i h1;exact absurd h h1
 rename_i h1
 have h1:=aoJ.1 h1
 split at h
 ·cases h
 rename_i h2
 refine ⟨h1,fun y hy=>⟨((lT h1).2.1 y hy).1,?_⟩⟩
 have:vL act x.st=false:=by simpa using h2
 have:=aqh.1 this y hy
 simpa using this
theorem acr:∀k,k<6→kP (vals (List.replicate 6 (.bool false))) k=fM [] k:=fun k hk=>by
 match k,hk with
 | 0,_=>rfl | 1,_=>rfl | 2,_=>rfl | 3,_=>rfl | 4,_=>rfl | 5,_=>rfl
theorem afA (act:Int) (k:Nat):fM (zeroE act) k=fM [] k:=by
 unfold fM zeroE
 rw[aaM,aq0]
 split<;>rfl
theorem ak6:aM Tryz.prog 67 (bM (fun s:gy=>[uW s]) (fun _=>True) (fun s=>iP (eD s))):=by
 refine aW (Tb:=tab) mixed aB Tryz.func67 rfl rfl ?_
 rintro (s:gy) hpre
 refine ai (ai rfl (ai rfl rfl)) ?_
 refine ah (p:=s.act<1) (av (by omega)) (fun h1=>?_) (fun h1=>?_)
 ·refine ai (ai (fun _=>trivial) ?_) trivial
  show aC _ (iP (eD s))
  rw[eD,if_pos (.inl h1)]
  exact rfl
 refine ah (p:=6<s.act) (av (by omega)) (fun h2=>?_) (fun h2=>?_)
 ·refine ai (ai (fun _=>trivial) ?_) trivial
  show aC _ (iP (eD s))
  rw[eD,if_pos (.inr h2)]
  exact rfl
 have e0:¬(s.act<1∨6<s.act):=fun h=>h.elim h1 h2
 refine ah (p:=s.sts.length=0) (gD (by omega)) (fun h3=>?_) (fun h3=>?_)
 ·refine ai (ai (fun _=>trivial) ?_) trivial
  show aC _ (iP (eD s))
  rw[eD,if_neg e0,if_pos h3]
  exact rfl
 refine ah (p:=64<s.sts.length) (av (by omega)) (fun h4=>?_) (fun h4=>?_)
 ·refine ai (ai (fun _=>trivial) ?_) trivial
  show aC _ (iP (eD s))
  rw[eD,if_neg e0,if_neg h3,if_pos h4]
  exact rfl
 have hA:eD s=if ¬mE s=0 then mE s else if (bL s.act s.sts s.sts.length).any id=true then 9 else if ((gV s.act s.sts s.sts.length).any fun y=>false==y)=true then 13 else 0:=by
  unfold eD;rw[if_neg e0,if_neg h3,if_neg h4]
 refine ei (bI.inv { X:=Nat,up:=fun k=>[(32,.s (iA k))],uo:=fun k=>[⟨1,194,[.ob (enO (bL s.act s.sts k))]⟩,⟨2,194,[.ob (enO (gV s.act s.sts k))]⟩],inv:=fun k=>k≤s.sts.length∧(∀j,j<k→jA s.act (s.sts.getD j st0) (bL s.act s.sts j)=0),meas:=fun k=>s.sts.length-k,x0:=0 }) ?_
 refine ai (ai (ai (by exact (a4 (ai rfl rfl))) (ai ?_ ?_)) rfl) (ai (ai (aef _) ?_) ?_)
 ·exact (ai (ai (fun _=>rfl) (iE (by simp only[zz,reduceCtorEq];rfl))) rfl)
 ·refine (ai (ai rfl (ai rfl ?_)) (ai (ai rfl (ai rfl ?_)) trivial))
  ·exact fun q hq=>(acr q hq).trans (afA s.act q).symm
  ·exact fun q hq=>(acr q hq).trans (afA s.act q).symm
 ·exact fun j hj=>absurd hj (akb _)
 intro (k:Nat) ⟨hk,hall⟩
 have hel:=wB s.act s.sts k
 have hml:=aad s.act s.sts k
 refine ah (p:=k<s.sts.length) (av (by omega)) (fun h5=>?_) (fun h5=>?_)
 ·refine ai (ai (abJ _) (iN (n:=s.sts.length) (by omega))) (ai rfl ?_)
  refine ei _ (ai (anx) (ei ((s,s.sts.getD k st0,bL s.act s.sts k)) (ei [] (ai (a4 (ai (fun _=>Or.inl rfl) (ai nof (Or.inl rfl)))) (ai (by exact (ai (ai rfl (ai rfl (fun _ _=>rfl))) (ai (ai (ai rfl (fun _ _=>rfl)) (iE (by simp only[zz,reduceCtorEq]))) (ai rfl (fun _ _=>rfl))))) (ai trivial (ai ((by show s.act≤6;omega)) ?_)))))))
  refine aF (p:=jA s.act (s.sts.getD k st0) (bL s.act s.sts k)=0) (bZ (by dsimp only;omega)) (fun h6=>?_) (fun h6=>?_)
  ·have e:mE s=jA s.act (s.sts.getD k st0) (bL s.act s.sts k):=dZ (f:=fun k=>jA s.act (s.sts.getD k st0) (bL s.act s.sts k)) h5 hall h6
   refine ai (ai (fun _=>trivial) ?_) trivial
   show aC _ (iP (eD s))
   rw[hA,if_pos (show ¬mE s=0 by rw[e];exact h6),e]
   exact rfl
  obtain ⟨hck,hso⟩:=abE h6
  have h6l:=(lT hck).1.2
  have hokS:vk s.act.toNat (s.sts.getD k st0).st:=fun y hy=>by have:=hso y hy;omega
  refine ei _ (ai ((jH aku (bL s.act s.sts k,s.sts.getD k st0) ⟨by show (bL s.act s.sts k).length≤6;omega,by show vk (bL s.act s.sts k).length _;rw[hel];exact hokS,by show (s.sts.getD k st0).st.length≤1000000;omega⟩ (r:=enP (bL s.act s.sts (k+1))) (by rw[aaR h5]))) (ei (()) (ei [] (ai (a4 (ai (fun _=>Or.inl rfl) (ai nof (Or.inl rfl)))) (ai (by exact (ai (ai rfl (fun _ _=>rfl)) (ai (ai rfl (fun _ _=>rfl)) (iE (by simp only[zz,reduceCtorEq]))))) (ai trivial (ai (trivial) ?_)))))))
  refine ei (bI.inv { X:=Nat,up:=fun j=>[(49,.s (iA j))],uo:=fun j=>[⟨2,194,[.ob (enO (eZ (gV s.act s.sts k) (((s.sts.getD k st0).st.map (·.1)).take j) true))]⟩],inv:=fun j=>j≤(s.sts.getD k st0).st.length∧(True),meas:=fun j=>(s.sts.getD k st0).st.length-j,x0:=0 }) ?_
  refine ai (ai (ai (by exact (a4 (ai rfl rfl))) (ai ?_ ?_)) rfl) (ai (ai (aef _) ?_) ?_)
  ·exact (ai (ai (fun _=>rfl) (iE (by simp only[zz,reduceCtorEq];rfl))) rfl)
  ·exact (ai (ai rfl (ai rfl (fun _ _=>rfl))) trivial)
  ·trivial
  intro (j:Nat) ⟨hj,_⟩
  refine ah (p:=j<(s.sts.getD k st0).st.length) (by simp only[zz,reduceCtorEq];omega) (fun h7=>?_) (fun h7=>?_)
  ·refine ai (ai (abJ _) (iN (n:=(s.sts.getD k st0).st.length) (by omega))) (ai rfl ?_)
   have hxj:=sG hokS h7
   refine ai (by show 0≤((s.sts.getD k st0).st.getD j aV).1∧((s.sts.getD k st0).st.getD j aV).1<6;omega) ?_
   refine ai (by show 0+((s.sts.getD k st0).st.getD j aV).1.toNat*1<6;omega) ?_
   refine ei (j+1) (ai (ai rfl rfl) (ai (ai (ai rfl (ai (ai rfl rfl) (ai (ai rfl rfl) (ai (ai (ai (fun _=>rfl) (aN (by omega))) rfl) (ai (ai rfl (ai rfl ?_)) trivial))))) rfl) (ai (ai (iL (by omega)) trivial) (iM (by omega)))))
   intro q hq
   show pF (fM (eZ (gV s.act s.sts k) (((s.sts.getD k st0).st.map (·.1)).take j) true)) (0+((s.sts.getD k st0).st.getD j aV).1.toNat*1) (bP true) q=fM (eZ (gV s.act s.sts k) (((s.sts.getD k st0).st.map (·.1)).take (j+1)) true) q
   have eg:=aod (s.sts.getD k st0).st h7
   rw[afY,amR,afD (by rw[iO];omega),aX 0 (by rw[akn];exact h7),wP,eg]
  ·obtain rfl:j=(s.sts.getD k st0).st.length:=by omega
   have e9:eZ (gV s.act s.sts k) (((s.sts.getD k st0).st.map (·.1)).take (s.sts.getD k st0).st.length) true=gV s.act s.sts (k+1):=by
    rw[ac5 h5,aq3 (by rw[akn];exact afi _)]
   refine ei (k+1) (ai (ai rfl rfl) (ai (ai (ai rfl (ai (ai rfl rfl) (ai (ai rfl rfl) (ai (ai (ai (fun _=>rfl) (aN (by omega))) rfl) (ai (ai rfl (ai rfl (fun _ _=>rfl))) (ai (ai rfl (ai rfl ?_)) trivial)))))) rfl) (ai (ai (iL (by omega)) ?_) (iM (by omega)))))
   ·exact fun q hq=>by rw[←e9]
   ·intro i hi
    by_cases e:i=k
    ·subst e;exact h6
    ·exact hall i (by omega)
 ·obtain rfl:k=s.sts.length:=by omega
  have e1:mE s=0:=gZ hall
  refine ah (p:=(bL s.act s.sts s.sts.length).any id=true) (by (rw[←apZ (m:=bL s.act s.sts s.sts.length) (by omega)];first | done | exact Iff.rfl)) (fun h8=>?_) (fun h8=>?_)
  ·refine ai (ai (fun _=>trivial) ?_) trivial
   show aC _ (iP (eD s))
   rw[hA,if_neg (fun h=>h e1),if_pos h8]
   exact rfl
  refine ai (ai (by decide) (ai (by show 0≤s.act;omega) (by show s.act≤6;omega))) ?_
  refine ei _ (ai (an6) (ei ((gV s.act s.sts s.sts.length,false)) (ei [] (ai (ai rfl (ai rfl (ai rfl (ai rfl (ai (fun _=>Or.inl rfl) (ai (fun _=>ai rfl rfl) (Or.inl rfl))))))) (ai ?_ (ai (by exact trivial) (ai ((by show (gV s.act s.sts s.sts.length).length≤1000000;omega)) ?_)))))))
  ·refine (ai (ai rfl (ai ?_ ?_)) rfl)
   ·show s.act.toNat-(0:Int).toNat=(gV s.act s.sts s.sts.length).length
    rw[hml];rfl
   ·intro q hq
    show [fM (gV s.act s.sts s.sts.length) ((0:Int).toNat+q)]=_
    rw[show (0:Int).toNat+q=q by simp];rfl
  refine bE (b:=(gV s.act s.sts s.sts.length).any fun y=>false==y) rfl (fun h9=>?_) (fun h9=>?_)
  ·refine ai (ai (fun _=>trivial) ?_) trivial
   show aC _ (iP (eD s))
   rw[hA,if_neg (fun h=>h e1),if_neg h8,if_pos h9]
   exact rfl
  ·refine ai (ai (fun _=>trivial) ?_) trivial
   show aC _ (iP (eD s))
   rw[hA,if_neg (fun h=>h e1),if_neg h8,if_neg (by rw[h9];decide)]
   exact rfl
def abk (m:List Bool) (y:Sk):Bool:=decide ((m.length:Int)≤y.1)||(jw m y.1==y.2)
def pJ (m:List Bool) (l:List Sk):Bool:=!(l.any (abk m))
theorem alM:aM Tryz.prog 156 (bM (fun a:Stp×List Bool=>[stA a.1,bsA a.2]) (fun a=>a.1.st.length≤1000000∧∀y∈a.1.st,0≤y.1) (fun a=>bP (pJ a.2 a.1.st))):=by
 refine aW (Tb:=tab) mixed aB Tryz.func156 rfl rfl ?_
 rintro ⟨x,m⟩ hpre
 refine ai (ai rfl (ai rfl rfl)) ?_
 obtain ⟨hl,hx⟩:=hpre
 have hl:x.st.length≤1000000:=hl
 refine ei (bI.inv { X:=Nat,up:=fun k=>[(5,.s (iA k))],uo:=fun k=>[],inv:=fun k=>k≤x.st.length∧(∀y∈x.st.take k,abk m y=false),meas:=fun k=>x.st.length-k,x0:=0 }) ?_
 refine ai (ai (ai (by exact (a4 (ai rfl rfl))) (ai (by exact (ai (ai (fun _=>rfl) (iE (by simp only[zz,reduceCtorEq];rfl))) rfl)) (by exact trivial))) rfl) (ai (ai (aef _) ?_) ?_)
 ·exact fun y hy=>absurd hy (by simp)
 intro (k:Nat) ⟨hk,hall⟩
 refine ah (p:=k<x.st.length) (av (by dsimp only;omega)) (fun h1=>?_) (fun h1=>?_)
 ·refine ai (ai (abJ _) (iN (n:=x.st.length) (by omega))) (ai rfl ?_)
  have h0:0≤(x.st.getD k aV).1:=hx _ (aee (bT aV h1))
  refine ei (.seq [0,1,2,3,4,5,6,7,8,9,10,11,12,13,14]) (ai (by kernel_rfl) ?_)
  refine ah (p:=(m.length:Int)≤(x.st.getD k aV).1) (fJ Iff.rfl) (fun h2=>?_) (fun h2=>?_)
  ·have e:pJ m x.st=false:=by
    unfold pJ
    rw[qg (d:=aV) h1 (by unfold abk;rw[decide_eq_true h2,Bool.true_or])];rfl
   refine ai (ai (fun _=>trivial) ?_) trivial
   show aC _ (bP (pJ m x.st))
   rw[e]
   exact rfl
  ·refine ai (ai h0 (by show (x.st.getD k aV).1<(m.length:Int);omega)) ?_
   refine ai rfl ?_
   refine bE (b:=jw m (x.st.getD k aV).1==(x.st.getD k aV).2) rfl (fun h3=>?_) (fun h3=>?_)
   ·have e:pJ m x.st=false:=by
     unfold pJ
     rw[qg (d:=aV) h1 (by unfold abk;rw[h3,Bool.or_true])];rfl
    refine ai (ai (fun _=>trivial) ?_) trivial
    show aC _ (bP (pJ m x.st))
    rw[e]
    exact rfl
   refine ei (k+1) (ai (ai rfl rfl) (ai (ai (ai rfl (ai (ai rfl rfl) (ai (ai rfl rfl) (ai (ai (ai (fun _=>rfl) (aN (by omega))) rfl) trivial)))) rfl) (ai (ai (iL (by omega)) ?_) (iM (by omega)))))
   intro y hy
   rw[aX aV h1] at hy
   rcases ahq.1 hy with hy | hy
   ·exact hall y hy
   ·simp only[agL] at hy;subst hy;unfold abk;rw[decide_eq_false h2,h3];rfl
 ·obtain rfl:k=x.st.length:=by omega
  rw[afz] at hall
  have e:pJ m x.st=true:=by
   unfold pJ
   rw[aqh.2 (fun y hy=>by rw[hall y hy];decide)];rfl
  refine ai (ai (fun _=>trivial) ?_) trivial
  show aC _ (bP (pJ m x.st))
  rw[e]
  exact rfl
theorem ak0:aM Tryz.prog 157 (bM (fun a:Stp×List Bool=>[stA a.1,bsA a.2]) (fun a=>a.2.length≤1000000∧vk a.2.length a.1.st∧a.1.st.length≤1000000) (fun a=>mI (lG a.2 a.1.st))):=by
 refine aW (Tb:=tab) mixed aB Tryz.func157 rfl rfl ?_
 rintro ⟨x,m⟩ hpre
 refine ai (ai rfl (ai rfl rfl)) ?_
 obtain ⟨hm,hx,hl⟩:=hpre
 have hm:m.length≤1000000:=hm
 have hx:vk m.length x.st:=hx
 have hl:x.st.length≤1000000:=hl
 refine ai (mxL (n:=0+m.length) (by omega) (by decide)) (ai (fun _ _=>rfl) ?_)
 refine ei (bI.inv { X:=Nat,up:=fun k=>[(6,.s (iA k)),(5,bsR (lG m (x.st.take k)))],uo:=fun k=>[],inv:=fun k=>k≤x.st.length∧(True),meas:=fun k=>x.st.length-k,x0:=0 }) ?_
 refine ai (ai (ai (by exact (a4 (ai rfl rfl))) (ai ?_ ?_)) rfl) (ai (ai (aef _) ?_) ?_)
 ·refine (ai (ai (ai (fun _=>rfl) (iE (by simp only[zz,reduceCtorEq];rfl))) rfl) (ai rfl (ai rfl (ai ?_ (fun _ _=>rfl)))))
  exact afY _
 ·exact trivial
 ·trivial
 intro (k:Nat) ⟨hk,_⟩
 have hbl:=oW (x.st.take k) m
 refine ah (p:=k<x.st.length) (av (by dsimp only;omega)) (fun h1=>?_) (fun h1=>?_)
 ·refine ei (.seq [0,1,2,3,4,5,6,7,8,9,10,11,12,13,14]) (ai (by kernel_rfl) ?_)
  refine ai (ai (abJ _) (iN (n:=x.st.length) (by omega))) (ai rfl ?_)
  refine ai (ai (abJ _) (iN (n:=x.st.length) (by omega))) (ai rfl ?_)
  have hxk:=sG hx h1
  refine ai (by show 0≤(x.st.getD k aV).1∧(x.st.getD k aV).1<((lG m (x.st.take k)).length:Int);rw[hbl];exact hxk) ?_
  refine ai (ai (by show (x.st.getD k aV).1.toNat<(lG m (x.st.take k)).length;omega) (afi _)) ?_
  refine ei (k+1) (ai (ai rfl rfl) (ai (ai (ai rfl (ai (ai rfl rfl) (ai (ai rfl rfl) (ai (ai (ai (ai (fun _=>rfl) (aN (by omega))) rfl) (ai rfl (ai rfl (ai ?_ ?_)))) trivial)))) rfl) (ai (ai (iL (by omega)) trivial) (iM (by omega)))))
  ·rw[oW,oW]
  ·intro q hq
   show lJ (fun j=>[bP ((lG m (x.st.take k)).getD j false)]) (x.st.getD k aV).1.toNat 0 [bP (x.st.getD k aV).2] q=[bP ((lG m (x.st.take (k+1))).getD q false)]
   rw[am2 (by omega),aX aV h1,adQ]
 ·obtain rfl:k=x.st.length:=by omega
  rw[afz]
  refine ai (ai (fun _=>(by exact (fun _ _=>rfl))) ?_) trivial
  exact (ai rfl (fun _ _=>rfl))
def yt (l:List Sk) (i:Int):Bool:=l.any fun y=>y.1==i
def rV (l:List Sk) (i:Int):Int:=match l.find? (fun y=>y.1==i) with | some y=>if y.2 then 1 else -1 | none=>0
theorem ahu {l:List Sk} {i:Int} {k:Nat} (hk:k<l.length) (h:∀y∈l.take k,(y.1==i)=false) (e:((l.getD k aV).1==i)=true):rV l i=if (l.getD k aV).2 then 1 else -1:=by
 unfold rV
 have:l.find? (fun y=>y.1==i)=some (l.getD k aV):=by
  rw[show l=l.take k++l.drop k from (aqY k l).symm]
  rw[List.find?_append,arC.2 (fun y hy=>by rw[h y hy];decide)]
  have hd:l.drop k=l.getD k aV :: l.drop (k+1):=by
   rw[amM hk,aaM,aa8 hk];rfl
  rw[aqY,hd,List.find?_cons,e];rfl
 rw[this]
theorem anB {l:List Sk} {i:Int} (h:∀y∈l,(y.1==i)=false):rV l i=0:=by
 unfold rV;rw[arC.2 (fun y hy=>by rw[h y hy];decide)]
theorem aik {l:List Sk} {i:Int}:¬rV l i=0↔yt l i=true:=by
 unfold rV yt
 cases e:l.find? (fun y=>y.1==i) with
 | none=>
  have:=arC.1 e
  simp only[not_true_eq_false,false_iff]
  rw[arU,aqh]
  exact this
 | some y=>
  have h1:=List.find?_some e
  have h2:=List.mem_of_find?_eq_some e
  refine ⟨fun _=>aq6.2 ⟨y,h2,h1⟩,fun _=>?_⟩
  show ¬(if y.2 then (1:Int) else -1)=0
  split<;>decide
theorem apE:aM Tryz.prog 158 (bM (fun a:Stp×Int=>[stA a.1,iA a.2]) (fun a=>a.1.st.length≤1000000) (fun a=>iP (rV a.1.st a.2))):=by
 refine aW (Tb:=tab) mixed aB Tryz.func158 rfl rfl ?_
 rintro ⟨x,i⟩ hpre
 refine ai (ai rfl (ai rfl rfl)) ?_
 have hl:x.st.length≤1000000:=hpre
 refine ei (bI.inv { X:=Nat,up:=fun k=>[(5,.s (iA k))],uo:=fun k=>[],inv:=fun k=>k≤x.st.length∧(∀y∈x.st.take k,(y.1==i)=false),meas:=fun k=>x.st.length-k,x0:=0 }) ?_
 refine ai (ai (ai (by exact (a4 (ai rfl rfl))) (ai (by exact (ai (ai (fun _=>rfl) (iE (by simp only[zz,reduceCtorEq];rfl))) rfl)) (by exact trivial))) rfl) (ai (ai (aef _) ?_) ?_)
 ·exact fun y hy=>absurd hy (by simp)
 intro (k:Nat) ⟨hk,hall⟩
 refine ah (p:=k<x.st.length) (av (by dsimp only;omega)) (fun h1=>?_) (fun h1=>?_)
 ·refine ai (ai (abJ _) (iN (n:=x.st.length) (by omega))) (ai rfl ?_)
  refine bE (b:=(x.st.getD k aV).1==i) rfl (fun h2=>?_) (fun h2=>?_)
  ·refine ai (ai (abJ _) (iN (n:=x.st.length) (by omega))) (ai rfl ?_)
   refine bE (b:=(x.st.getD k aV).2) rfl (fun h3=>?_) (fun h3=>?_)
   ·refine ai (ai (fun _=>trivial) ?_) trivial
    show aC _ (iP (rV x.st i))
    rw[ahu h1 hall h2,if_pos h3]
    exact rfl
   ·refine ai (ai (fun _=>trivial) ?_) trivial
    show aC _ (iP (rV x.st i))
    rw[ahu h1 hall h2,if_neg (show ¬(x.st.getD k aV).2=true by rw[h3];decide)]
    exact rfl
  refine ei (k+1) (ai (ai rfl rfl) (ai (ai (ai rfl (ai (ai rfl rfl) (ai (ai rfl rfl) (ai (ai (ai (fun _=>rfl) (aN (by omega))) rfl) trivial)))) rfl) (ai (ai (iL (by omega)) ?_) (iM (by omega)))))
  intro y hy
  rw[aX aV h1] at hy
  rcases ahq.1 hy with hy | hy
  ·exact hall y hy
  ·simp only[agL] at hy;subst hy;exact h2
 ·obtain rfl:k=x.st.length:=by omega
  rw[afz] at hall
  refine ai (ai (fun _=>trivial) ?_) trivial
  show aC _ (iP (rV x.st i))
  rw[anB hall]
  exact rfl
def xw (l:List Stp) (i:Int):Bool:=l.any fun x=>yt x.st i
theorem ame:aM Tryz.prog 109 (bM (fun a:gy×Int=>[uW a.1,iA a.2]) (fun a=>a.1.sts.length≤1000000∧∀x∈a.1.sts,x.st.length≤1000000) (fun a=>bP (xw a.1.sts a.2))):=by
 refine aW (Tb:=tab) mixed aB Tryz.func109 rfl rfl ?_
 rintro ⟨s,i⟩ hpre
 refine ai (ai rfl (ai rfl rfl)) ?_
 obtain ⟨hl,hx⟩:=hpre
 have hl:s.sts.length≤1000000:=hl
 refine ei (bI.inv { X:=Nat,up:=fun k=>[(5,.s (iA k))],uo:=fun k=>[],inv:=fun k=>k≤s.sts.length∧(∀x∈s.sts.take k,yt x.st i=false),meas:=fun k=>s.sts.length-k,x0:=0 }) ?_
 refine ai (ai (ai (by exact (a4 (ai rfl rfl))) (ai (by exact (ai (ai (fun _=>rfl) (iE (by simp only[zz,reduceCtorEq];rfl))) rfl)) (by exact trivial))) rfl) (ai (ai (aef _) ?_) ?_)
 ·exact fun y hy=>absurd hy (by simp)
 intro (k:Nat) ⟨hk,hall⟩
 refine ah (p:=k<s.sts.length) (av (by dsimp only;omega)) (fun h1=>?_) (fun h1=>?_)
 ·refine ai (ai (abJ _) (iN (n:=s.sts.length) (by omega))) (ai rfl ?_)
  refine ei _ (ai (apE) (ei ((s.sts.getD k st0,i)) (ei [] (ai (a4 (ai (fun _=>Or.inl rfl) (ai nof (Or.inl rfl)))) (ai (by exact (ai (ai (ai rfl (fun _ _=>rfl)) (iE (by simp only[zz,reduceCtorEq]))) rfl)) (ai trivial (ai (hx _ (aee (bT st0 h1))) ?_)))))))
  refine aF (p:=rV (s.sts.getD k st0).st i=0) (bZ (by dsimp only;omega)) (fun h2=>?_) (fun h2=>?_)
  ·have e:xw s.sts i=true:=qg (d:=st0) h1 (aik.1 h2)
   refine ai (ai (fun _=>trivial) ?_) trivial
   show aC _ (bP (xw s.sts i))
   rw[e]
   exact rfl
  have h2:yt (s.sts.getD k st0).st i=false:=aqk.2 fun e=>aik.2 e h2
  refine ei (k+1) (ai (ai rfl rfl) (ai (ai (ai rfl (ai (ai rfl rfl) (ai (ai rfl rfl) (ai (ai (ai (fun _=>rfl) (aN (by omega))) rfl) trivial)))) rfl) (ai (ai (iL (by omega)) ?_) (iM (by omega)))))
  intro y hy
  rw[aX st0 h1] at hy
  rcases ahq.1 hy with hy | hy
  ·exact hall y hy
  ·simp only[agL] at hy;subst hy;exact h2
 ·obtain rfl:k=s.sts.length:=by omega
  rw[afz] at hall
  have e:xw s.sts i=false:=aqh.2 (fun y hy=>by rw[hall y hy];decide)
  refine ai (ai (fun _=>trivial) ?_) trivial
  show aC _ (bP (xw s.sts i))
  rw[e]
  exact rfl
def kW (s:gy):Int:=if ¬mE s=0 then mE s else if (bL s.act s.sts s.sts.length).any id=true then 9 else 0
theorem anv (n:Nat):∀k,k<n→([bP false]:List PV)=[bP ((List.replicate n false).getD k false)]:=fun k hk=>by
 rw[aaM,aq0,if_pos hk];rfl
theorem aoX {act:Int} {m:List Bool} {l:List Sk} (hm:(m.length:Int)=act) (h:vL act l=false):pJ m l=!(atE m l):=by
 unfold pJ atE
 have h:=aqh.1 h
 have:l.any (abk m)=l.any fun y=>jw m y.1==y.2:=by
  refine aqm.2 ?_
  simp only[aq6,abk,aoH,decide_eq_true_eq]
  refine ⟨fun ⟨y,hy,e⟩=>⟨y,hy,e.resolve_left fun e=>?_⟩,fun ⟨y,hy,e⟩=>⟨y,hy,.inr e⟩⟩
  have:=h y hy
  simp only[decide_eq_true_eq] at this
  omega
 rw[this]
theorem anf:aM Tryz.prog 108 (bM (fun s:gy=>[uW s]) (fun s=>(1≤s.act∧s.act≤6)∧s.sts.length≤1000000) (fun s=>iP (kW s))):=by
 refine iZ [3000003] ?_
 refine aW (Tb:=tab) mixed aB Tryz.func108 rfl rfl ?_
 rintro (s:gy) hpre
 refine ai (ai rfl (ai rfl rfl)) ?_
 obtain ⟨⟨ha1,ha6⟩,hl⟩:=hpre
 have hl:s.sts.length≤1000000:=hl
 refine ai (ai (by show 0≤s.act;omega) (ai (Int.le_refl _) (ai (by show s.act≤281474976710655;omega) (by show 1*s.act.toNat≤281474976710656;omega)))) ?_
 refine ei (bI.inv { X:=Nat,up:=fun k=>[(4,.s (iA k)),(3,.s (bsA (bL s.act s.sts k)))],uo:=fun k=>[],inv:=fun k=>k≤s.sts.length∧(∀j,j<k→jA s.act (s.sts.getD j st0) (bL s.act s.sts j)=0),meas:=fun k=>s.sts.length-k,x0:=0 }) ?_
 refine ai (ai (ai (by exact (a4 (ai rfl rfl))) (ai ?_ ?_)) rfl) (ai (ai (aef _) ?_) ?_)
 ·refine (ai (ai (ai (fun _=>rfl) (iE (by simp only[zz,reduceCtorEq];rfl))) rfl) (ai (ai nof (ai ?_ ?_)) rfl))
  ·show s.act.toNat=(bL s.act s.sts 0).length
   rw[wB]
  ·intro q hq
   exact anv s.act.toNat q hq
 ·exact trivial
 ·exact fun j hj=>absurd hj (akb _)
 intro (k:Nat) ⟨hk,hall⟩
 have hel:=wB s.act s.sts k
 refine ah (p:=k<s.sts.length) (av (by omega)) (fun h1=>?_) (fun h1=>?_)
 ·refine ai (ai (abJ _) (iN (n:=s.sts.length) (by omega))) (ai rfl ?_)
  refine ei _ (ai (anl) (ei (s.sts.getD k st0) (ei [] (ai (a4 (ai (fun _=>Or.inl rfl) (ai nof (Or.inl rfl)))) (ai (by exact (ai (ai rfl (fun _ _=>rfl)) (iE (by simp only[zz,reduceCtorEq])))) (ai trivial (ai (trivial) ?_)))))))
  have hA:∀e,jA s.act (s.sts.getD k st0) (bL s.act s.sts k)=e→¬e=0→kW s=e:=fun e h h0=>by
   have e1:mE s=e:=(dZ (f:=fun k=>jA s.act (s.sts.getD k st0) (bL s.act s.sts k)) h1 hall (by rw[h];exact h0)).trans h
   unfold kW;rw[if_pos (by rw[e1];exact h0),e1]
  refine aF (p:=eP (s.sts.getD k st0)=0) (bZ (by omega)) (fun h2=>?_) (fun h2=>?_)
  ·refine ai (ai (fun _=>trivial) ?_) trivial
   show aC _ (iP (kW s))
   rw[hA (eP (s.sts.getD k st0)) (if_pos h2) h2]
   exact rfl
  obtain ⟨⟨_,h6⟩,hx,_⟩:=lT h2
  refine ei (bI.inv { X:=Nat,up:=fun j=>[(7,.s (iA j))],uo:=fun j=>[],inv:=fun j=>j≤(s.sts.getD k st0).st.length∧(∀y∈(s.sts.getD k st0).st.take j,decide (s.act≤y.1)=false),meas:=fun j=>(s.sts.getD k st0).st.length-j,x0:=0 }) ?_
  refine ai (ai (ai (by exact (a4 (ai rfl rfl))) (ai (by exact (ai (ai (fun _=>rfl) (iE (by simp only[zz,reduceCtorEq];rfl))) rfl)) (by exact trivial))) rfl) (ai (ai (aef _) ?_) ?_)
  ·exact fun y hy=>absurd hy (by simp)
  intro (j:Nat) ⟨hj,hal⟩
  refine ah (p:=j<(s.sts.getD k st0).st.length) (by simp only[zz,reduceCtorEq];omega) (fun h3=>?_) (fun h3=>?_)
  ·refine ei (.seq [0,1,2,3,4,5,6,7,8]) (ai (by kernel_rfl) ?_)
   refine ai (ai (abJ _) (iN (n:=(s.sts.getD k st0).st.length) (by omega))) (ai rfl ?_)
   refine ah (p:=s.act≤((s.sts.getD k st0).st.getD j aV).1) (fJ Iff.rfl) (fun h4=>?_) (fun h4=>?_)
   ·have e:vL s.act (s.sts.getD k st0).st=true:=qg (d:=aV) h3 (decide_eq_true h4)
    refine ai (ai (fun _=>trivial) ?_) trivial
    show aC _ (iP (kW s))
    rw[hA 6 (by unfold jA;rw[if_neg (fun h=>h h2),if_pos e]) (by decide)]
    exact rfl
   refine ei (j+1) (ai (ai rfl rfl) (ai (ai (ai rfl (ai (ai rfl rfl) (ai (ai rfl rfl) (ai (ai (ai (fun _=>rfl) (aN (by omega))) rfl) trivial)))) rfl) (ai (ai (iL (by omega)) ?_) (iM (by omega)))))
   intro y hy
   rw[aX aV h3] at hy
   rcases ahq.1 hy with hy | hy
   ·exact hal y hy
   ·simp only[agL] at hy;subst hy;exact decide_eq_false h4
  ·obtain rfl:j=(s.sts.getD k st0).st.length:=by omega
   rw[afz] at hal
   have eo:vL s.act (s.sts.getD k st0).st=false:=aqh.2 (fun y hy=>by rw[hal y hy];decide)
   have hok:vk (bL s.act s.sts k).length (s.sts.getD k st0).st:=fun y hy=>by
    rw[hel]
    have h7:=hal y hy
    have h8:=hx y hy
    have h7:¬s.act≤y.1:=of_decide_eq_false h7
    omega
   refine ei _ (ai (alM) (ei ((s.sts.getD k st0,bL s.act s.sts k)) (ei [] (ai (a4 (ai (fun _=>Or.inl rfl) (ai nof (Or.inl rfl)))) (ai (by exact (ai (ai (ai rfl (fun _ _=>rfl)) (iE (by simp only[zz,reduceCtorEq]))) (ai rfl (fun _ _=>rfl)))) (ai trivial (ai (⟨by show (s.sts.getD k st0).st.length≤1000000;omega,fun y hy=>(hx y hy).1⟩) ?_)))))))
   have hsa:=aoX (m:=bL s.act s.sts k) (act:=s.act) (by omega) eo
   refine bE (b:=!pJ (bL s.act s.sts k) (s.sts.getD k st0).st) rfl (fun h5=>?_) (fun h5=>?_)
   ·have e:atE (bL s.act s.sts k) (s.sts.getD k st0).st=true:=by rw[hsa] at h5;simpa using h5
    refine ai (ai (fun _=>trivial) ?_) trivial
    show aC _ (iP (kW s))
    rw[hA 14 (by unfold jA;rw[if_neg (fun h=>h h2),if_neg (by rw[eo];decide),if_pos e]) (by decide)]
    exact rfl
   have e:atE (bL s.act s.sts k) (s.sts.getD k st0).st=false:=by rw[hsa] at h5;simpa using h5
   refine ei _ (ai ((y5 ak0 (s.sts.getD k st0,bL s.act s.sts k) ⟨by show (bL s.act s.sts k).length≤1000000;omega,hok,by show (s.sts.getD k st0).st.length≤1000000;omega⟩ (r:=mI (bL s.act s.sts (k+1))) (by rw[aaR h1]))) (ei (()) (ei [] (ai (a4 (ai (fun _=>Or.inl rfl) (ai nof (Or.inl rfl)))) (ai (by exact (ai (ai (ai rfl (fun _ _=>rfl)) (iE (by simp only[zz,reduceCtorEq]))) (ai rfl (fun _ _=>rfl)))) (ai trivial (ai (trivial) ?_)))))))
   refine ei (k+1) (ai (ai rfl rfl) (ai (ai (ai rfl (ai (ai rfl rfl) (ai (ai rfl rfl) (ai (ai (ai (ai (fun _=>rfl) (aN (by omega))) rfl) (ai (ai (fun _=>rfl) (ai rfl (fun _ _=>rfl))) rfl)) trivial)))) rfl) (ai (ai (iL (by omega)) ?_) (iM (by omega)))))
   intro i hi
   by_cases ei:i=k
   ·subst ei;unfold jA;rw[if_neg (fun h=>h h2),if_neg (by rw[eo];decide),if_neg (by rw[e];decide)]
   ·exact hall i (by omega)
 ·obtain rfl:k=s.sts.length:=by omega
  have e1:mE s=0:=gZ hall
  refine ei (bI.inv { X:=Nat,up:=fun i=>[(8,.s (iA i))],uo:=fun i=>[],inv:=fun i=>i≤s.act.toNat∧(∀y∈(bL s.act s.sts s.sts.length).take i,id y=false),meas:=fun i=>s.act.toNat-i,x0:=0 }) ?_
  refine ai (ai (ai (by exact (a4 (ai rfl rfl))) (ai (by exact (ai (ai (fun _=>rfl) (iE (by simp only[zz,reduceCtorEq];rfl))) rfl)) (by exact trivial))) rfl) (ai (ai (aef _) ?_) ?_)
  ·exact fun y hy=>absurd hy (by simp)
  intro (i:Nat) ⟨hi,hal⟩
  refine ah (p:=i<s.act.toNat) (by exact av (show (i:Int)<s.act↔i<s.act.toNat by omega)) (fun h3=>?_) (fun h3=>?_)
  ·refine ai (ai (abJ _) (iN (n:=(bL s.act s.sts s.sts.length).length) (by omega))) (ai rfl ?_)
   refine bE (b:=(bL s.act s.sts s.sts.length).getD i false) rfl (fun h4=>?_) (fun h4=>?_)
   ·have e:(bL s.act s.sts s.sts.length).any id=true:=qg (d:=false) (by omega) h4
    refine ai (ai (fun _=>trivial) ?_) trivial
    show aC _ (iP (kW s))
    rw[kW,if_neg (fun h=>h e1),if_pos e]
    exact rfl
   refine ei (i+1) (ai (ai rfl rfl) (ai (ai (ai rfl (ai (ai rfl rfl) (ai (ai rfl rfl) (ai (ai (ai (fun _=>rfl) (aN (by omega))) rfl) trivial)))) rfl) (ai (ai (iL (by omega)) ?_) (iM (by omega)))))
   intro y hy
   rw[aX false (by omega)] at hy
   rcases ahq.1 hy with hy | hy
   ·exact hal y hy
   ·simp only[agL] at hy;subst hy;exact h4
  ·obtain rfl:i=s.act.toNat:=by omega
   rw[aq3 (by omega)] at hal
   have e:(bL s.act s.sts s.sts.length).any id=false:=aqh.2 (fun y hy=>by rw[hal y hy];decide)
   refine ai (ai (fun _=>trivial) ?_) trivial
   show aC _ (iP (kW s))
   rw[kW,if_neg (fun h=>h e1),if_neg (by rw[e];decide)]
   exact rfl
theorem aj6 (b:Bool) (l:List Int) (m:List Bool) {i:Nat} (hi:i<m.length):(eZ m l b).getD i false=if l.any (fun k=>k.toNat==i) then b else m.getD i false:=by
 induction l generalizing m with
 | nil=>rfl
 | cons k l ih=>
  show (eZ (m.set k.toNat b) l b).getD i false=_
  rw[ih (m.set k.toNat b) (by rw[ars];exact hi),arH]
  by_cases e:k.toNat=i
  ·rw[beq_iff_eq.2 e,Bool.true_or,if_pos rfl]
   split
   ·rfl
   ·rw[aaM,aru,if_pos e,if_pos (by omega)];rfl
  ·rw[beq_eq_false_iff_ne.2 e,aq5]
   congr 1
   rw[aaM,aru,if_neg e,aaM]
theorem aex {act:Int} {l:List Stp} (hx:∀x∈l,∀y∈x.st,0≤y.1) {i:Nat} (hi:i<act.toNat):∀{k:Nat},k≤l.length→(gV act l k).getD i false=xw (l.take k) (i:Int)
 | 0,_=>by
  show (zeroE act).getD i false=_
  unfold zeroE;rw[aaM,aq0,if_pos hi];rfl
 | k+1,hk=>by
  have ih:=aex (act:=act) hx hi (k:=k) (by omega)
  rw[ac5 (by omega),aj6 _ _ _ (by rw[aad];exact hi),ih,aX st0 (by omega)]
  unfold xw
  rw[List.any_append,arH,List.any_nil,arQ]
  have e:((l.getD k st0).st.map (·.1)).any (fun q=>q.toNat==i)=yt (l.getD k st0).st (i:Int):=by
   unfold yt
   rw[List.any_map]
   refine aqm.2 ?_
   simp only[aq6,Function.comp,beq_iff_eq]
   have hm:=aee (bT st0 (show k<l.length by omega))
   exact ⟨fun ⟨y,hy,h⟩=>⟨y,hy,by have:=hx _ hm y hy;omega⟩,fun ⟨y,hy,h⟩=>⟨y,hy,by omega⟩⟩
  rw[e]
  cases yt (l.getD k st0).st (i:Int)<;>simp
theorem anL:aM Tryz.prog 42 (bM (fun s:gy=>[uW s]) (fun _=>True) (fun s=>iP (eD s))):=by
 refine aW (Tb:=tab) mixed aB Tryz.func42 rfl rfl ?_
 rintro (s:gy) hpre
 refine ai (ai rfl (ai rfl rfl)) ?_
 refine ah (p:=s.act<1) (av (by omega)) (fun h1=>?_) (fun h1=>?_)
 ·refine ai (ai (fun _=>trivial) ?_) trivial
  show aC _ (iP (eD s))
  rw[eD,if_pos (.inl h1)]
  exact rfl
 refine ah (p:=6<s.act) (av (by omega)) (fun h2=>?_) (fun h2=>?_)
 ·refine ai (ai (fun _=>trivial) ?_) trivial
  show aC _ (iP (eD s))
  rw[eD,if_pos (.inr h2)]
  exact rfl
 have e0:¬(s.act<1∨6<s.act):=fun h=>h.elim h1 h2
 refine ah (p:=s.sts.length=0) (gD (by omega)) (fun h3=>?_) (fun h3=>?_)
 ·refine ai (ai (fun _=>trivial) ?_) trivial
  show aC _ (iP (eD s))
  rw[eD,if_neg e0,if_pos h3]
  exact rfl
 refine ah (p:=64<s.sts.length) (av (by omega)) (fun h4=>?_) (fun h4=>?_)
 ·refine ai (ai (fun _=>trivial) ?_) trivial
  show aC _ (iP (eD s))
  rw[eD,if_neg e0,if_neg h3,if_pos h4]
  exact rfl
 have hA:eD s=if ¬kW s=0 then kW s else if ((gV s.act s.sts s.sts.length).any fun y=>false==y)=true then 13 else 0:=by
  unfold eD kW;rw[if_neg e0,if_neg h3,if_neg h4]
  by_cases g1:mE s=0<;>by_cases g2:(bL s.act s.sts s.sts.length).any id=true<;>simp[g1,g2]
 refine ei _ (ai (anf) (ei (s) (ei [] (ai (a4 (ai (fun _=>Or.inl rfl) (ai nof (Or.inl rfl)))) (ai (by exact (ai rfl (ai rfl (fun _ _=>rfl)))) (ai trivial (ai (⟨⟨by omega,by omega⟩,by show s.sts.length≤1000000;omega⟩) ?_)))))))
 refine aF (p:=kW s=0) (bZ (by omega)) (fun h5=>?_) (fun h5=>?_)
 ·refine ai (ai (fun _=>trivial) ?_) trivial
  show aC _ (iP (eD s))
  rw[hA,if_pos h5]
  exact rfl
 rw[if_neg (fun h=>h h5)] at hA
 have hf:mE s=0:=by
  unfold kW at h5
  split at h5
  ·rename_i h;exact absurd h5 h
  ·rename_i h;exact aoJ.1 h
 have hfz:∀k,k<s.sts.length→jA s.act (s.sts.getD k st0) (bL s.act s.sts k)=0:=l9 hf
 have hst:∀x∈s.sts,x.st.length≤6∧∀y∈x.st,0≤y.1:=fun x hx=>by
  obtain ⟨k,hk,rfl⟩:=aop hx
  have:=hfz k hk
  rw[show s.sts.getD k st0=s.sts[k] by rw[aaM,aa8 hk];rfl] at this
  obtain ⟨g1,g2⟩:=abE this
  exact ⟨(lT g1).1.2,fun y hy=>(g2 y hy).1⟩
 have hml:=aad s.act s.sts s.sts.length
 have hg:∀i,i<s.act.toNat→(gV s.act s.sts s.sts.length).getD i false=xw s.sts (i:Int):=fun i hi=>by
  have:=aex (act:=s.act) (fun x hx=>(hst x hx).2) hi (afi _)
  rwa [afz] at this
 refine ei (bI.inv { X:=Nat,up:=fun i=>[(4,.s (iA i))],uo:=fun i=>[],inv:=fun i=>i≤s.act.toNat∧(∀y∈(gV s.act s.sts s.sts.length).take i,(false==y)=false),meas:=fun i=>s.act.toNat-i,x0:=0 }) ?_
 refine ai (ai (ai (by exact (a4 (ai rfl rfl))) (ai (by exact (ai (ai (fun _=>rfl) (iE (by simp only[zz,reduceCtorEq];rfl))) rfl)) (by exact trivial))) rfl) (ai (ai (aef _) ?_) ?_)
 ·exact fun y hy=>absurd hy (by simp)
 intro (i:Nat) ⟨hi,hal⟩
 refine ah (p:=i<s.act.toNat) (by exact av (show (i:Int)<s.act↔i<s.act.toNat by omega)) (fun h6=>?_) (fun h6=>?_)
 ·refine ei _ (ai (ame) (ei ((s,(i:Int))) (ei [] (ai (a4 (ai (fun _=>Or.inl rfl) (ai nof (Or.inl rfl)))) (ai (by exact (ai (ai rfl (ai rfl (fun _ _=>rfl))) rfl)) (ai trivial (ai (⟨by show s.sts.length≤1000000;omega,fun x hx=>by have:=(hst x hx).1;omega⟩) ?_)))))))
  refine bE (b:=!xw s.sts (i:Int)) rfl (fun h7=>?_) (fun h7=>?_)
  ·have e:((gV s.act s.sts s.sts.length).any fun y=>false==y)=true:=qg (d:=false) (k:=i) (by omega) (by rw[hg i h6];simpa using h7)
   refine ai (ai (fun _=>trivial) ?_) trivial
   show aC _ (iP (eD s))
   rw[hA,if_pos e]
   exact rfl
  refine ei (i+1) (ai (ai rfl rfl) (ai (ai (ai rfl (ai (ai rfl rfl) (ai (ai rfl rfl) (ai (ai (ai (fun _=>rfl) (aN (by omega))) rfl) trivial)))) rfl) (ai (ai (iL (by omega)) ?_) (iM (by omega)))))
  intro y hy
  rw[aX false (by omega)] at hy
  rcases ahq.1 hy with hy | hy
  ·exact hal y hy
  ·simp only[agL] at hy;subst hy;rw[hg i h6];simpa using h7
 ·obtain rfl:i=s.act.toNat:=by omega
  rw[aq3 (by omega)] at hal
  have e:((gV s.act s.sts s.sts.length).any fun y=>false==y)=false:=aqh.2 (fun y hy=>by rw[hal y hy];decide)
  refine ai (ai (fun _=>trivial) ?_) trivial
  show aC _ (iP (eD s))
  rw[hA,if_neg (by rw[e];decide)]
  exact rfl
def nL (n:Int):Ex:=.node 1 n []
def qP (n:Int):List PV:=[iP 1,iP n,.val (.slice none 0 0)]
def gP (y:Sk):Int:=2*y.1+if y.2 then 1 else 0
def adP (l:List Sk):Ex:=match l with
 | [y]=>nL (gP y)
 | l=>.node 3 0 (l.map fun y=>nL (gP y))
def qK (l:List Sk) (k:Nat):List PV:=qP (gP (l.getD k aV))
abbrev C3 := PV × PV × PV
def oo (c:C3):List PV:=[c.1,c.2.1,c.2.2]
def uH (n:Int):C3:=(iP 1,iP n,.val (.slice none 0 0))
def iR (l:List Sk):C3:=(if l.length=1 then iP 1 else iP 3,if l.length=1 then iP (gP (l.getD 0 aV)) else iP 0,if l.length=1 then .val (.slice none 0 0) else .seq l.length (qK l))
def uK (l:List Sk):List PV:=oo (iR l)
theorem wE {l:List Sk} (h:l.length=1):uK l=qP (gP (l.getD 0 aV)):=by unfold uK oo iR;simp only[h,if_true];rfl
theorem ug {l:List Sk} (h:¬l.length=1):uK l=[iP 3,iP 0,.seq l.length (qK l)]:=by unfold uK oo iR;simp only[h,if_false]
theorem nk:aM Tryz.prog 69 (bM (fun n:Int=>[iA n]) (fun _=>True) (fun n=>.agg (qP n))):=by
 refine aW (Tb:=tab) mixed aB Tryz.func69 rfl rfl ?_
 rintro (n:Int) hpre
 refine ai (ai rfl (ai rfl rfl)) ?_
 refine ai (ai (fun _=>trivial) ?_) trivial
 exact (ai rfl (ai rfl rfl))
theorem uY:aM Tryz.prog 72 (bM (fun n:Int=>[iA n]) (fun _=>True) (fun n=>.agg (qP n))):=by
 refine aW (Tb:=tab) mixed aB Tryz.func72 rfl rfl ?_
 rintro (n:Int) hpre
 refine ai (ai rfl (ai rfl rfl)) ?_
 refine ai (ai (fun _=>trivial) ?_) trivial
 exact (ai rfl (ai rfl rfl))
def u6 (l:List Sk):Prop:=l.length≤1000∧vk 6 l
theorem akI {l:List Sk} (h:u6 l) {k:Nat} (hk:k<l.length):0≤(l.getD k aV).1∧(l.getD k aV).1<6:=by
 have:=sG h.2 hk;omega
def ao5 (l:List Sk) (k:Nat):LV:=.rw 79 3 k (qK l)
theorem vV (l:List Sk) (k:Nat):∀j,j<k+1→bJ k (qK l) (bf 3 (qP (gP (l.getD k aV)))) j=qK l j:=by
 intro j hj
 unfold bJ
 by_cases h:j<k
 ·rw[if_pos h]
 ·obtain rfl:j=k:=by omega
  rw[if_neg h,aoU];rfl
theorem afE:aM Tryz.prog 71 (iq (fun l:List Sk=>[afm l]) (fun l=>u6 l∧0<l.length) (fun l=>.agg (uK l))):=by
 refine aW (Tb:=tab) mixed aB Tryz.func71 rfl rfl ?_
 rintro (l:List Sk) hpre
 refine ai (ai rfl (ai rfl rfl)) ?_
 obtain ⟨hs,hp⟩:=hpre
 have hl:l.length≤1000:=hs.1
 refine ei (bI.inv { X:=Nat,up:=fun k=>[(9,.s (iA k)),(3,ao5 l k)],uo:=fun k=>[],inv:=fun k=>k≤l.length∧(True),meas:=fun k=>l.length-k,x0:=0 }) ?_
 refine ai (ai (ai (by exact (a4 (ai rfl rfl))) (ai (by exact (ai (ai (ai (fun _=>rfl) (iE (by simp only[zz,reduceCtorEq];rfl))) rfl) rfl)) (by exact trivial))) rfl) (ai (ai (aef _) ?_) ?_)
 ·trivial
 intro (k:Nat) ⟨hk,_⟩
 refine ah (p:=k<l.length) (av (by omega)) (fun h1=>?_) (fun h1=>?_)
 ·refine ai (ai (abJ _) (iN (n:=l.length) (by omega))) (ai rfl ?_)
  have hx:=akI hs h1
  have hw:IntKind.i64.wrap (2*(l.getD k aV).1)=2*(l.getD k aV).1:=tJ (by omega) (by omega)
  refine bE (b:=(l.getD k aV).2) rfl (fun h2=>?_) (fun h2=>?_)
  ·refine ei _ (ai (nk) (ei (gP (l.getD k aV)) (ei [] (ai (a4 (ai (fun _=>Or.inl rfl) (ai nof (Or.inl rfl)))) (ai ?_ (ai (by exact trivial) (ai (trivial) ?_)))))))
   ·show IntKind.i64.wrap (IntKind.i64.wrap (2*(l.getD k aV).1)+1)=gP (l.getD k aV)
    rw[hw,tJ (by omega) (by omega)];unfold gP;rw[h2];rfl
   refine ai (mxL (n:=k+1) (by omega) (by decide)) (ai (lt1 rfl) ?_)
   refine ei (k+1) (ai (ai rfl rfl) (ai (ai (ai rfl (ai (ai rfl rfl) (ai (ai rfl rfl) (ai (ai (ai (ai (fun _=>rfl) (aN (by omega))) rfl) (ai rfl (ai rfl (ai rfl ?_)))) trivial)))) rfl) (ai (ai (iL (by omega)) trivial) (iM (by omega)))))
   exact vV l k
  ·refine ei _ (ai (nk) (ei (gP (l.getD k aV)) (ei [] (ai (a4 (ai (fun _=>Or.inl rfl) (ai nof (Or.inl rfl)))) (ai ?_ (ai (by exact trivial) (ai (trivial) ?_)))))))
   ·show IntKind.i64.wrap (2*(l.getD k aV).1)=gP (l.getD k aV)
    rw[hw];unfold gP;rw[h2];simp
   refine ai (mxL (n:=k+1) (by omega) (by decide)) (ai (lt1 rfl) ?_)
   refine ei (k+1) (ai (ai rfl rfl) (ai (ai (ai rfl (ai (ai rfl rfl) (ai (ai rfl rfl) (ai (ai (ai (ai (fun _=>rfl) (aN (by omega))) rfl) (ai rfl (ai rfl (ai rfl ?_)))) trivial)))) rfl) (ai (ai (iL (by omega)) trivial) (iM (by omega)))))
   exact vV l k
 ·obtain rfl:k=l.length:=by omega
  refine ah (p:=l.length=1) (gD (by omega)) (fun h3=>?_) (fun h3=>?_)
  ·refine ai (ai (by decide) (by show (0:Int)<(l.length:Int);omega)) ?_
   refine ai (by show 0<l.length;omega) ?_
   refine ai (ai (fun h=>absurd (show false=true from h) (by decide)) ?_) trivial
   show aC _ (.agg (uK l))
   rw[wE h3]
   exact (ai rfl (ai (iE rfl) rfl))
  ·refine ai (ai (fun h=>absurd (show false=true from h) (by decide)) ?_) trivial
   show aC _ (.agg (uK l))
   rw[ug h3]
   exact (ai rfl (ai rfl (ai rfl (fun _ _=>rfl))))
theorem akF:aM Tryz.prog 74 (bM (fun l:List Sk=>[afm l]) u6 (fun l=>.seq l.length (qK l))):=by
 refine aW (Tb:=tab) mixed aB Tryz.func74 rfl rfl ?_
 rintro (l:List Sk) hpre
 refine ai (ai rfl (ai rfl rfl)) ?_
 have hs:u6 l:=hpre
 have hl:l.length≤1000:=hs.1
 refine ei (bI.inv { X:=Nat,up:=fun k=>[(4,.s (iA k)),(3,ao5 l k)],uo:=fun k=>[],inv:=fun k=>k≤l.length∧(True),meas:=fun k=>l.length-k,x0:=0 }) ?_
 refine ai (ai (ai (by exact (a4 (ai rfl rfl))) (ai (by exact (ai (ai (ai (fun _=>rfl) (iE (by simp only[zz,reduceCtorEq];rfl))) rfl) rfl)) (by exact trivial))) rfl) (ai (ai (aef _) ?_) ?_)
 ·trivial
 intro (k:Nat) ⟨hk,_⟩
 refine ah (p:=k<l.length) (av (by omega)) (fun h1=>?_) (fun h1=>?_)
 ·refine ai (ai (abJ _) (iN (n:=l.length) (by omega))) (ai rfl ?_)
  have hx:=akI hs h1
  have hw:IntKind.i64.wrap (2*(l.getD k aV).1)=2*(l.getD k aV).1:=tJ (by omega) (by omega)
  refine ai (ai (abJ _) (iN (n:=l.length) (by omega))) (ai rfl ?_)
  refine bE (b:=(l.getD k aV).2) rfl (fun h2=>?_) (fun h2=>?_)
  ·refine ei _ (ai (uY) (ei (gP (l.getD k aV)) (ei [] (ai (a4 (ai (fun _=>Or.inl rfl) (ai nof (Or.inl rfl)))) (ai ?_ (ai (by exact trivial) (ai (trivial) ?_)))))))
   ·show IntKind.i64.wrap (IntKind.i64.wrap (2*(l.getD k aV).1)+1)=gP (l.getD k aV)
    rw[hw,tJ (by omega) (by omega)];unfold gP;rw[h2];rfl
   refine ai (mxL (n:=k+1) (by omega) (by decide)) (ai (lt1 rfl) ?_)
   refine ei (k+1) (ai (ai rfl rfl) (ai (ai (ai rfl (ai (ai rfl rfl) (ai (ai rfl rfl) (ai (ai (ai (ai (fun _=>rfl) (aN (by omega))) rfl) (ai rfl (ai rfl (ai rfl ?_)))) trivial)))) rfl) (ai (ai (iL (by omega)) trivial) (iM (by omega)))))
   exact vV l k
  ·refine ei _ (ai (uY) (ei (gP (l.getD k aV)) (ei [] (ai (a4 (ai (fun _=>Or.inl rfl) (ai nof (Or.inl rfl)))) (ai ?_ (ai (by exact trivial) (ai (trivial) ?_)))))))
   ·show IntKind.i64.wrap (2*(l.getD k aV).1)=gP (l.getD k aV)
    rw[hw];unfold gP;rw[h2];simp
   refine ai (mxL (n:=k+1) (by omega) (by decide)) (ai (lt1 rfl) ?_)
   refine ei (k+1) (ai (ai rfl rfl) (ai (ai (ai rfl (ai (ai rfl rfl) (ai (ai rfl rfl) (ai (ai (ai (ai (fun _=>rfl) (aN (by omega))) rfl) (ai rfl (ai rfl (ai rfl ?_)))) trivial)))) rfl) (ai (ai (iL (by omega)) trivial) (iM (by omega)))))
   exact vV l k
 ·obtain rfl:k=l.length:=by omega
  refine ai (ai (fun _=>(by exact (fun _ _=>rfl))) ?_) trivial
  exact (ai rfl (fun _ _=>rfl))
theorem ak4:aM Tryz.prog 73 (iq (fun l:List Sk=>[.p false (.seq l.length (qK l))]) (fun l=>0<l.length∧l.length≤1000) (fun l=>.agg (uK l))):=by
 refine aW (Tb:=tab) mixed aB Tryz.func73 rfl rfl ?_
 rintro (l:List Sk) hpre
 refine ai (ai rfl (ai rfl rfl)) ?_
 obtain ⟨h0,h1⟩:=hpre
 have h0:0<l.length:=h0
 have h1:l.length≤1000:=h1
 refine ah (p:=l.length=0) (gD (by omega)) (fun h2=>?_) (fun h2=>?_)
 ·omega
 refine ah (p:=l.length=1) (gD (by omega)) (fun h3=>?_) (fun h3=>?_)
 ·refine ai (ai (by decide) (by show (0:Int)<(l.length:Int);omega)) ?_
  refine ai rfl ?_
  refine ai (ai (fun h=>absurd (show false=true from h) (by decide)) ?_) trivial
  show aC _ (.agg (uK l))
  rw[wE h3]
  exact (ai rfl (ai (iE rfl) rfl))
 ·refine ai (ai (fun h=>absurd (show false=true from h) (by decide)) ?_) trivial
  show aC _ (.agg (uK l))
  rw[ug h3]
  exact (ai rfl (ai rfl (ai rfl (fun _ _=>rfl))))
def nK (act:Int) (p:List (Stp×C3)) (x:Stp):List (Stp×C3):=
 if 0<x.wt then (p++[(⟨x.st,0⟩,iR x.st)])++[(⟨[],x.wt⟩,uH (2*act+1+((p.length+1:Nat):Int)))] else p++[(⟨x.st,0⟩,iR x.st)]
def apg (act:Int):List (Stp×C3):=[(⟨[],0⟩,uH (2*act))]
def bH (s:gy) (k:Nat):List (Stp×C3):=(s.sts.take k).foldl (nK s.act) (apg s.act)
theorem zf {s:gy} {k:Nat} (h:k<s.sts.length):bH s (k+1)=nK s.act (bH s k) (s.sts.getD k st0):=by unfold bH;rw[aX st0 h,ari];rfl
theorem alX (act:Int) (p:List (Stp×C3)) (x:Stp):(nK act p x).length≤p.length+2∧p.length<(nK act p x).length:=by
 unfold nK
 split
 ·simp only[aac,ah6,amE];omega
 ·simp only[aac,ah6,amE];omega
theorem abx (s:gy):∀k,k≤s.sts.length→(bH s k).length≤2*k+1∧0<(bH s k).length
 | 0,_=>⟨by show (apg s.act).length≤1;exact afi _,by show 0<1;decide⟩
 | k+1,h=>by
  obtain ⟨h1,h2⟩:=abx s k (by omega)
  obtain ⟨h3,h4⟩:=alX s.act (bH s k) (s.sts.getD k st0)
  rw[zf (by omega)];omega
abbrev SC := Stp × C3
def jk:SC:=(st0,(iP 0,iP 0,.val (.slice none 0 0)))
def sQ (x:Stp):List PV:=[if x.st=[] then .val (.slice none 0 0) else wU x.st,iP x.wt]
def uL:PV:=.seq 1 (bf 1 [.val (.string (strOf [115,116,97,114,116]))])
def alN (act:Int) (ins:PV) (st tr:SV):Ob:=.cells 36 [iA act,.p false ins,st,tr]
def ami (s:SV):Ob:=.cells 77 [s]
def aoE (p:List SC):Ob:=.row 89 2 p.length (fun k=>sQ (p.getD k jk).1)
def aoQ (p:List SC):Ob:=.row 79 3 p.length (fun k=>oo (p.getD k jk).2)
def vW:SV:=.p false (.val (.slice none 0 0))
structure abq where
 act:Int
 p:List SC
 s0:PV
 wt:Int
 e0:PV
 e1:PV
 e2:PV
 x:SC
def abq.ok (a:abq):Prop:=a.p.length≤1000∧sQ a.x.1=[a.s0,iP a.wt]∧oo a.x.2=[a.e0,a.e1,a.e2]
def anO (a:abq):List SV:=[.p false (.agg [a.s0,iP a.wt]),.p false (.agg [a.e0,a.e1,a.e2]),.own 0 0,.own 1 0]
def aot (n:Bool) (a:abq):Prop:=a.ok∧(n=true→a.p=[])
def aqa:Bool→abq→List Ob
 | true,a=>[alN a.act uL vW vW,ami vW]
 | false,a=>[alN a.act uL (.row 2) vW,ami (.row 3),aoE a.p,aoQ a.p]
def aos (a:abq):List Ob:=[alN a.act uL (.row 2) vW,ami (.row 3),aoE (a.p++[a.x]),aoQ (a.p++[a.x])]
def apb (n:Bool):qb:={ A:=abq,fix:=2,args:=anO,objs:=aqa n,pre:=aot n,res:=fun _=>.tup [],objs':=aos,inl:=[4000009,4000013] }
theorem rF (f:SC→List PV) (p:List SC) (x:SC) {g:Nat→List PV} (hg:g 0=f x):∀k,k<p.length+1→bJ p.length (fun k=>f (p.getD k jk)) g k=f ((p++[x]).getD k jk):=by
 intro k hk
 unfold bJ
 by_cases h:k<p.length
 ·rw[if_pos h]
  show f (p.getD k jk)=_
  rw[aaM,aaM,aed h]
 ·obtain rfl:k=p.length:=by omega
  rw[if_neg h,aoU,hg,aaM,ae5 (afi _),aoU];rfl
theorem ab3:jy Tryz.prog 68 (apb false):=by
 refine nZ (Tb:=tab) mixed aB Tryz.func68 rfl rfl ?_
 rintro ⟨act,p,s0,wt,e0,e1,e2,x⟩ hpre
 refine ai (ai rfl (ai rfl rfl)) ?_
 obtain ⟨⟨hp,hx,he⟩,_⟩:=hpre
 have hp:p.length≤1000:=hp
 have hx:sQ x.1=[s0,iP wt]:=hx
 have he:oo x.2=[e0,e1,e2]:=he
 refine ei (.one 0 (.one 1 (.one 2 (.rd 5 [4] (.rd 6 [4] (.alt 3 (.alt 4 (.one 9 (.one 7 (.one 8 (.one 10 (.one 11 .done))))) (.alt 7 (.one 4 (.one 9 (.one 8 (.one 10 (.one 11 .done))))) .stop)) (.alt 7 (.one 3 (.one 4 (.one 9 (.one 8 (.one 10 (.one 11 .done)))))) .stop))))))) (ai (by kernel_rfl) ?_)
 refine ai ?_ (ai ?_ trivial)
 ·refine ai ?_ (ai ?_ trivial)
  ·refine ai (mxL (n:=p.length+1) (by omega) (by decide)) (ai (lt1 rfl) ?_)
   refine ai (mxL (n:=p.length+1) (by omega) (by decide)) (ai (lt1 rfl) ?_)
   refine ei [0,1,6,7] (ai (ai rfl (ai rfl rfl)) (ai trivial ?_))
   refine (ai (ai rfl (ai rfl (ai (ai rfl (fun _ _=>rfl)) (ai rfl rfl)))) (ai (ai rfl rfl) (ai (ai rfl (ai rfl (ai ?_ ?_))) (ai rfl (ai rfl (ai ?_ ?_))))))
   ·show p.length+1=(p++[x]).length;rw[aac];rfl
   ·exact fun k hk=>rF (fun q=>sQ q.1) p x (g:=bf 2 [s0,iP wt]) hx.symm k (by have hk:k<(p++[x]).length:=hk;rwa [aac] at hk)
   ·show p.length+1=(p++[x]).length;rw[aac];rfl
   ·exact fun k hk=>rF (fun q=>oo q.2) p x (g:=bf 3 [e0,e1,e2]) he.symm k (by have hk:k<(p++[x]).length:=hk;rwa [aac] at hk)
  ·refine ai (mxL (n:=p.length+1) (by omega) (by decide)) (ai (lt1 rfl) ?_)
   refine ai (mxL (n:=p.length+1) (by omega) (by decide)) (ai (lt1 rfl) ?_)
   refine ei [0,1,6,7] (ai (ai rfl (ai rfl rfl)) (ai trivial ?_))
   refine (ai (ai rfl (ai rfl (ai (ai rfl (fun _ _=>rfl)) (ai rfl rfl)))) (ai (ai rfl rfl) (ai (ai rfl (ai rfl (ai ?_ ?_))) (ai rfl (ai rfl (ai ?_ ?_))))))
   ·show p.length+1=(p++[x]).length;rw[aac];rfl
   ·exact fun k hk=>rF (fun q=>sQ q.1) p x (g:=bf 2 [s0,iP wt]) hx.symm k (by have hk:k<(p++[x]).length:=hk;rwa [aac] at hk)
   ·show p.length+1=(p++[x]).length;rw[aac];rfl
   ·exact fun k hk=>rF (fun q=>oo q.2) p x (g:=bf 3 [e0,e1,e2]) he.symm k (by have hk:k<(p++[x]).length:=hk;rwa [aac] at hk)
 ·refine ai (mxL (n:=p.length+1) (by omega) (by decide)) (ai (lt1 rfl) ?_)
  refine ai (mxL (n:=p.length+1) (by omega) (by decide)) (ai (lt1 rfl) ?_)
  refine ei [0,1,6,7] (ai (ai rfl (ai rfl rfl)) (ai trivial ?_))
  refine (ai (ai rfl (ai rfl (ai (ai rfl (fun _ _=>rfl)) (ai rfl rfl)))) (ai (ai rfl rfl) (ai (ai rfl (ai rfl (ai ?_ ?_))) (ai rfl (ai rfl (ai ?_ ?_))))))
  ·show p.length+1=(p++[x]).length;rw[aac];rfl
  ·exact fun k hk=>rF (fun q=>sQ q.1) p x (g:=bf 2 [s0,iP wt]) hx.symm k (by have hk:k<(p++[x]).length:=hk;rwa [aac] at hk)
  ·show p.length+1=(p++[x]).length;rw[aac];rfl
  ·exact fun k hk=>rF (fun q=>oo q.2) p x (g:=bf 3 [e0,e1,e2]) he.symm k (by have hk:k<(p++[x]).length:=hk;rwa [aac] at hk)
theorem aoc:jy Tryz.prog 68 (apb true):=by
 refine nZ (Tb:=tab) mixed aB Tryz.func68 rfl rfl ?_
 rintro ⟨act,p,s0,wt,e0,e1,e2,x⟩ hpre
 refine ai (ai rfl (ai rfl rfl)) ?_
 obtain ⟨⟨hp,hx,he⟩,hn⟩:=hpre
 obtain rfl:p=[]:=hn rfl
 have hx:sQ x.1=[s0,iP wt]:=hx
 have he:oo x.2=[e0,e1,e2]:=he
 refine ei (.one 0 (.one 1 (.one 2 (.rd 5 [4] (.rd 6 [4] (.alt 3 (.alt 4 (.one 9 (.one 7 (.one 8 (.one 10 (.one 11 .done))))) (.alt 7 (.one 4 (.one 9 (.one 8 (.one 10 (.one 11 .done))))) .stop)) (.alt 7 (.one 3 (.one 4 (.one 9 (.one 8 (.one 10 (.one 11 .done)))))) .stop))))))) (ai (by kernel_rfl) ?_)
 refine ai ?_ (ai ?_ trivial)
 ·refine ai ?_ (ai ?_ trivial)
  ·refine ai (ai (by decide) (by decide)) (ai (lt1 rfl) ?_)
   refine ai (ai (by decide) (by decide)) (ai (lt1 rfl) ?_)
   refine ei [0,1,4,5] (ai (ai rfl (ai rfl rfl)) (ai trivial ?_))
   refine (ai (ai rfl (ai rfl (ai (ai rfl (fun _ _=>rfl)) (ai rfl rfl)))) (ai (ai rfl rfl) (ai (ai rfl (ai rfl (ai rfl ?_))) (ai rfl (ai rfl (ai rfl ?_))))))
   ·intro k hk
    have hk:k<1:=hk
    obtain rfl:k=0:=by omega
    exact hx.symm
   ·intro k hk
    have hk:k<1:=hk
    obtain rfl:k=0:=by omega
    exact he.symm
  ·refine ai (ai (by decide) (by decide)) (ai (lt1 rfl) ?_)
   refine ai (ai (by decide) (by decide)) (ai (lt1 rfl) ?_)
   refine ei [0,1,4,5] (ai (ai rfl (ai rfl rfl)) (ai trivial ?_))
   refine (ai (ai rfl (ai rfl (ai (ai rfl (fun _ _=>rfl)) (ai rfl rfl)))) (ai (ai rfl rfl) (ai (ai rfl (ai rfl (ai rfl ?_))) (ai rfl (ai rfl (ai rfl ?_))))))
   ·intro k hk
    have hk:k<1:=hk
    obtain rfl:k=0:=by omega
    exact hx.symm
   ·intro k hk
    have hk:k<1:=hk
    obtain rfl:k=0:=by omega
    exact he.symm
 ·refine ai (ai (by decide) (by decide)) (ai (lt1 rfl) ?_)
  refine ai (ai (by decide) (by decide)) (ai (lt1 rfl) ?_)
  refine ei [0,1,4,5] (ai (ai rfl (ai rfl rfl)) (ai trivial ?_))
  refine (ai (ai rfl (ai rfl (ai (ai rfl (fun _ _=>rfl)) (ai rfl rfl)))) (ai (ai rfl rfl) (ai (ai rfl (ai rfl (ai rfl ?_))) (ai rfl (ai rfl (ai rfl ?_))))))
  ·intro k hk
   have hk:k<1:=hk
   obtain rfl:k=0:=by omega
   exact hx.symm
  ·intro k hk
   have hk:k<1:=hk
   obtain rfl:k=0:=by omega
   exact he.symm
def apR:Spec:=bM (fun l:List (Sk)=>[afm l]) (fun l=>l.length≤1000000) (fun l=>wU l)
theorem am4:aM Tryz.prog 70 apR:=by
 refine aW (Tb:=tab) mixed aB Tryz.func70 rfl rfl ?_
 rintro (l:List (Sk)) hpre
 refine ai (ai rfl (ai rfl rfl)) ?_
 have hl:l.length≤1000000:=hpre
 intro b hb
 refine bg (fun h1=>?_) (fun h1=>?_)
 ·have h1:l.length=0:=hb h1
  refine ai (ai (fun _=>trivial) ?_) trivial
  show aC _ (wU l)
  rw[amY.1 h1]
  exact rfl
 ·refine ai (mxL (n:=0+l.length) (by omega) (by decide)) (ai (fun _ _=>rfl) ?_)
  refine ai (ai (fun _ k hk=>by rw[acw k hk];rfl) ?_) trivial
  refine (ai ?_ (fun _ _=>rfl))
  exact afY _
def toN (k n:Nat):Int:=(((k+1) % n:Nat):Int)
def rA (p:List SC) (k:Nat):List PV:=[.seq 1 (bf 1 [iP (k:Int)]),.seq 1 (bf 1 [iP (toN k p.length)]),(p.getD k jk).2.1,(p.getD k jk).2.2.1,(p.getD k jk).2.2.2]
def aqO (p:List SC) (k:Nat):LV:=.rw 123 5 k (rA p)
def aeP (act:Int) (p:List SC):PV:=.agg [iP act,uL,.seq p.length (fun k=>sQ (p.getD k jk).1),.seq p.length (rA p)]
def kY (s:gy):Int:=if ¬eD s=0 then eD s else if 24<(bH s s.sts.length).length then 5 else 0
def ofRaw (s:gy):PV:=if kY s=0 then .tup [aeP s.act (bH s s.sts.length),iP 0] else .tup [.agg [iP 0,.val (.slice none 0 0),.val (.slice none 0 0),.val (.slice none 0 0)],iP (kY s)]
theorem aag (p:List SC) (k:Nat) {g:Nat→List PV} (hg:g 0=rA p k):∀j,j<k+1→bJ k (rA p) g j=rA p j:=by
 intro j hj
 unfold bJ
 by_cases h:j<k
 ·rw[if_pos h]
 ·obtain rfl:j=k:=by omega
  rw[if_neg h,aoU,hg]
theorem seq_ok {s:gy} (h:eD s=0):(1≤s.act∧s.act≤6)∧s.sts.length≤64∧∀x∈s.sts,eP x=0:=by
 unfold eD at h
 split at h
 ·cases h
 rename_i h1
 split at h
 ·cases h
 split at h
 ·cases h
 rename_i h3
 split at h
 ·rename_i h4;exact absurd h h4
 rename_i h4
 refine ⟨by omega,by omega,fun x hx=>?_⟩
 obtain ⟨k,hk,rfl⟩:=aop hx
 have:=l9 (aoJ.1 h4) k hk
 rw[show s.sts.getD k st0=s.sts[k] by rw[aaM,aa8 hk];rfl] at this
 exact (abE this).1
set_option maxHeartbeats 16000000 in
theorem ag0:aM Tryz.prog 18 (iq (fun s:gy=>[uW s]) (fun _=>True) ofRaw):=by
 refine iZ [68,3000020,4000077,4000084] ?_
 refine aW (Tb:=tab) mixed aB Tryz.func18 rfl rfl ?_
 rintro (s:gy) hpre
 refine ai (ai rfl (ai rfl rfl)) ?_
 refine ei _ (ai (ak6) (ei (s) (ei [] (ai (a4 (ai (fun _=>Or.inl rfl) (ai nof (Or.inl rfl)))) (ai (by exact (ai rfl (ai rfl (fun _ _=>rfl)))) (ai trivial (ai (trivial) ?_)))))))
 refine aF (p:=eD s=0) (bZ (by omega)) (fun h1=>?_) (fun h1=>?_)
 ·have e:kY s=eD s:=if_pos h1
  refine ai (ai (fun h=>absurd (show false=true from h) (by decide)) ?_) trivial
  show aC _ (ofRaw s)
  rw[ofRaw,e,if_neg h1]
  exact (ai (ai rfl (ai rfl (ai rfl rfl))) rfl)
 obtain ⟨⟨ha1,ha6⟩,h64,hck⟩:=seq_ok h1
 have hw2:IntKind.i64.wrap (2*s.act)=2*s.act:=tJ (by omega) (by omega)
 refine ei _ (ai (nk) (ei (2*s.act) (ei [] (ai (a4 (ai (fun _=>Or.inl rfl) (ai nof (Or.inl rfl)))) (ai ?_ (ai (by exact trivial) (ai (trivial) ?_)))))))
 ·exact hw2
 refine dQ (aoc) (⟨s.act,[],.val (.slice none 0 0),0,iP 1,iP (2*s.act),.val (.slice none 0 0),(⟨[],0⟩,uH (2*s.act))⟩) [3,4] (a4 (ai rfl rfl)) (Or.inl rfl) (by exact (ai (ai rfl rfl) (ai (ai rfl (ai (iE (by omega)) rfl)) (ai (ai rfl rfl) (ai rfl rfl))))) (by exact (ai (ai rfl (ai rfl (ai (ai rfl (fun _ _=>rfl)) (ai rfl rfl)))) (ai rfl rfl))) (⟨⟨aef _,rfl,rfl⟩,fun _=>rfl⟩) ?_
 have hL:=abx s
 refine ei (bI.inv { X:=Nat,up:=fun k=>[(34,.s (iA k))],uo:=fun k=>[⟨3,36,[.s (iA s.act),.s (.p false uL),.rw 89 2 (bH s k).length (fun j=>sQ ((bH s k).getD j jk).1),.s vW]⟩,⟨4,77,[.rw 79 3 (bH s k).length (fun j=>oo ((bH s k).getD j jk).2)]⟩],inv:=fun k=>k≤s.sts.length∧(True),meas:=fun k=>s.sts.length-k,x0:=0 }) ?_
 refine ai (ai (ai (by exact (a4 (ai rfl rfl))) (ai ?_ ?_)) rfl) (ai (ai (aef _) ?_) ?_)
 ·exact (ai (ai (fun _=>rfl) (iE (by simp only[zz,reduceCtorEq];rfl))) rfl)
 ·exact (ai (ai (ai (ai nof rfl) rfl) (ai (ai (ai nof (ai rfl (fun _ _=>rfl))) rfl) (ai (ai rfl (ai rfl (ai rfl (fun _ _=>rfl)))) (ai (ai nof rfl) rfl)))) (ai (ai rfl (ai rfl (ai rfl (fun _ _=>rfl)))) trivial))
 ·trivial
 intro (k:Nat) ⟨hk,_⟩
 obtain ⟨hk1,hk2⟩:=hL k hk
 refine ah (p:=k<s.sts.length) (av (by omega)) (fun h2=>?_) (fun h2=>?_)
 ·refine ai (ai (abJ _) (iN (n:=s.sts.length) (by omega))) (ai rfl ?_)
  have hm:=aee (bT st0 h2)
  obtain ⟨⟨hx0,hx6⟩,hxs,hxw⟩:=lT (hck _ hm)
  have hsm:u6 (s.sts.getD k st0).st:=⟨by omega,hxs⟩
  have hst:=zf h2
  have hne:(s.sts.getD k st0).st≠[]:=fun e=>by rw[e] at hx0;simp at hx0
  refine ei (.one 0 (.one 1 (.one 2 (.one 5 (.one 6 (.one 3 (.one 4 (.one 7 (.wr 8 .done))))))))) (ai (by kernel_rfl) ?_)
  refine ei _ (ai (am4) (ei ((s.sts.getD k st0).st) (ei [] (ai (a4 (ai (fun _=>Or.inl rfl) (ai nof (Or.inl rfl)))) (ai (by exact (ai rfl (fun _ _=>rfl))) (ai trivial (ai ((by show (s.sts.getD k st0).st.length≤1000000;omega)) ?_)))))))
  by_cases h1l:(s.sts.getD k st0).st.length=1
  ·have ee:=wE h1l
   refine ei _ (ai ((jH afE (s.sts.getD k st0).st ⟨hsm,hx0⟩ (r:=.agg [iP 1,iP (gP ((s.sts.getD k st0).st.getD 0 aV)),.val (.slice none 0 0)]) (congrArg PV.agg ee))) (ei (()) (ei [] (ai (a4 (ai (fun _=>Or.inl rfl) (ai nof (Or.inl rfl)))) (ai (by exact (ai rfl (fun _ _=>rfl))) (ai trivial (ai (trivial) ?_)))))))
   refine dQ (ab3) (⟨s.act,bH s k,wU (s.sts.getD k st0).st,0,iP 1,iP (gP ((s.sts.getD k st0).st.getD 0 aV)),.val (.slice none 0 0),(⟨(s.sts.getD k st0).st,0⟩,iR (s.sts.getD k st0).st)⟩) [3,4,7,8] (a4 (ai rfl rfl)) (Or.inl rfl) (by exact (ai (ai (ai rfl (fun _ _=>rfl)) rfl) (ai (ai rfl (ai rfl rfl)) (ai (ai rfl rfl) (ai rfl rfl))))) (by exact (ai (ai rfl (ai rfl (ai (ai rfl (fun _ _=>rfl)) (ai rfl rfl)))) (ai (ai rfl rfl) (ai (ai rfl (ai rfl (ai rfl (fun _ _=>rfl)))) (ai rfl (ai rfl (ai rfl (fun _ _=>rfl)))))))) (⟨⟨by show (bH s k).length≤1000;omega,by show sQ ⟨(s.sts.getD k st0).st,0⟩=_;unfold sQ;rw[if_neg hne],ee⟩,fun h=>by cases h⟩) ?_
   refine ah (p:=0<(s.sts.getD k st0).wt) (av Iff.rfl) (fun h3=>?_) (fun h3=>?_)
   ·have e:bH s (k+1)=(bH s k++[(⟨(s.sts.getD k st0).st,0⟩,iR (s.sts.getD k st0).st)])++[(⟨[],(s.sts.getD k st0).wt⟩,uH (2*s.act+1+(((bH s k).length+1:Nat):Int)))]:=by rw[hst];unfold nK;rw[if_pos h3]
    have hpl:(bH s k++[((⟨(s.sts.getD k st0).st,0⟩:Stp),iR (s.sts.getD k st0).st)]).length=(bH s k).length+1:=by rw[aac];rfl
    refine ei (.one 0 (.one 1 (.one 2 (.one 3 (.one 4 (.one 5 (.one 6 (.one 7 (.one 8 (.one 9 (.one 10 (.wr 11 .done)))))))))))) (ai (by kernel_rfl) ?_)
    refine ei _ (ai (nk) (ei (2*s.act+1+(((bH s k).length+1:Nat):Int)) (ei [] (ai (a4 (ai (fun _=>Or.inl rfl) (ai nof (Or.inl rfl)))) (ai ?_ (ai (by exact trivial) (ai (trivial) ?_)))))))
    ·show IntKind.i64.wrap (IntKind.i64.wrap (IntKind.i64.wrap (2*s.act)+1)+(((bH s k++[((⟨(s.sts.getD k st0).st,0⟩:Stp),iR (s.sts.getD k st0).st)]).length:Nat):Int))=_
     rw[hpl,hw2,tJ (n:=2*s.act+1) (by omega) (by omega),tJ (by omega) (by omega)]
    refine dQ (ab3) (⟨s.act,bH s k++[(⟨(s.sts.getD k st0).st,0⟩,iR (s.sts.getD k st0).st)],.val (.slice none 0 0),(s.sts.getD k st0).wt,iP 1,iP (2*s.act+1+(((bH s k).length+1:Nat):Int)),.val (.slice none 0 0),(⟨[],(s.sts.getD k st0).wt⟩,uH (2*s.act+1+(((bH s k).length+1:Nat):Int)))⟩) [3,4,10,11] (a4 (ai rfl rfl)) (Or.inl rfl) (by exact (ai (ai rfl (iE (by simp only[zz,reduceCtorEq]))) (ai (ai rfl (ai rfl rfl)) (ai (ai rfl rfl) (ai rfl rfl))))) (by exact (ai (ai rfl (ai rfl (ai (ai rfl (fun _ _=>rfl)) (ai rfl rfl)))) (ai (ai rfl rfl) (ai (ai rfl (ai rfl (ai rfl (fun _ _=>rfl)))) (ai rfl (ai rfl (ai rfl (fun _ _=>rfl)))))))) (⟨⟨by show (bH s k++[((⟨(s.sts.getD k st0).st,0⟩:Stp),iR (s.sts.getD k st0).st)]).length≤1000;rw[hpl];omega,rfl,rfl⟩,fun h=>by cases h⟩) ?_
    refine ei (k+1) (ai (ai rfl rfl) (ai (ai (ai rfl (ai (ai rfl rfl) (ai (ai rfl rfl) (ai (ai (ai (fun _=>rfl) (aN (by omega))) rfl) (ai (ai (ai (ai nof rfl) rfl) (ai (ai (ai nof (ai rfl (fun _ _=>rfl))) rfl) (ai (ai rfl (ai rfl (ai ?_ ?_))) (ai (ai nof rfl) rfl)))) (ai (ai rfl (ai rfl (ai ?_ ?_))) trivial)))))) rfl) (ai (ai (iL (by omega)) trivial) (iM (by omega)))))
    all_goals rw[e]
    ·exact fun _ _=>rfl
    ·exact fun _ _=>rfl
   ·have e:bH s (k+1)=bH s k++[(⟨(s.sts.getD k st0).st,0⟩,iR (s.sts.getD k st0).st)]:=by rw[hst];unfold nK;rw[if_neg h3]
    refine ei (k+1) (ai (ai rfl rfl) (ai (ai (ai rfl (ai (ai rfl rfl) (ai (ai rfl rfl) (ai (ai (ai (fun _=>rfl) (aN (by omega))) rfl) (ai (ai (ai (ai nof rfl) rfl) (ai (ai (ai nof (ai rfl (fun _ _=>rfl))) rfl) (ai (ai rfl (ai rfl (ai ?_ ?_))) (ai (ai nof rfl) rfl)))) (ai (ai rfl (ai rfl (ai ?_ ?_))) trivial)))))) rfl) (ai (ai (iL (by omega)) trivial) (iM (by omega)))))
    all_goals rw[e]
    ·exact fun _ _=>rfl
    ·exact fun _ _=>rfl
  ·have ee:=ug h1l
   refine ei _ (ai ((jH afE (s.sts.getD k st0).st ⟨hsm,hx0⟩ (r:=.agg [iP 3,iP 0,.seq (s.sts.getD k st0).st.length (qK (s.sts.getD k st0).st)]) (congrArg PV.agg ee))) (ei (()) (ei [] (ai (a4 (ai (fun _=>Or.inl rfl) (ai nof (Or.inl rfl)))) (ai (by exact (ai rfl (fun _ _=>rfl))) (ai trivial (ai (trivial) ?_)))))))
   refine dQ (ab3) (⟨s.act,bH s k,wU (s.sts.getD k st0).st,0,iP 3,iP 0,.seq (s.sts.getD k st0).st.length (qK (s.sts.getD k st0).st),(⟨(s.sts.getD k st0).st,0⟩,iR (s.sts.getD k st0).st)⟩) [3,4,7,8] (a4 (ai rfl rfl)) (Or.inl rfl) (by exact (ai (ai (ai rfl (fun _ _=>rfl)) rfl) (ai (ai rfl (ai rfl (ai rfl (fun _ _=>rfl)))) (ai (ai rfl rfl) (ai rfl rfl))))) (by exact (ai (ai rfl (ai rfl (ai (ai rfl (fun _ _=>rfl)) (ai rfl rfl)))) (ai (ai rfl rfl) (ai (ai rfl (ai rfl (ai rfl (fun _ _=>rfl)))) (ai rfl (ai rfl (ai rfl (fun _ _=>rfl)))))))) (⟨⟨by show (bH s k).length≤1000;omega,by show sQ ⟨(s.sts.getD k st0).st,0⟩=_;unfold sQ;rw[if_neg hne],ee⟩,fun h=>by cases h⟩) ?_
   refine ah (p:=0<(s.sts.getD k st0).wt) (av Iff.rfl) (fun h3=>?_) (fun h3=>?_)
   ·have e:bH s (k+1)=(bH s k++[(⟨(s.sts.getD k st0).st,0⟩,iR (s.sts.getD k st0).st)])++[(⟨[],(s.sts.getD k st0).wt⟩,uH (2*s.act+1+(((bH s k).length+1:Nat):Int)))]:=by rw[hst];unfold nK;rw[if_pos h3]
    have hpl:(bH s k++[((⟨(s.sts.getD k st0).st,0⟩:Stp),iR (s.sts.getD k st0).st)]).length=(bH s k).length+1:=by rw[aac];rfl
    refine ei (.one 0 (.one 1 (.one 2 (.one 3 (.one 4 (.one 5 (.one 6 (.one 7 (.one 8 (.one 9 (.one 10 (.wr 11 .done)))))))))))) (ai (by kernel_rfl) ?_)
    refine ei _ (ai (nk) (ei (2*s.act+1+(((bH s k).length+1:Nat):Int)) (ei [] (ai (a4 (ai (fun _=>Or.inl rfl) (ai nof (Or.inl rfl)))) (ai ?_ (ai (by exact trivial) (ai (trivial) ?_)))))))
    ·show IntKind.i64.wrap (IntKind.i64.wrap (IntKind.i64.wrap (2*s.act)+1)+(((bH s k++[((⟨(s.sts.getD k st0).st,0⟩:Stp),iR (s.sts.getD k st0).st)]).length:Nat):Int))=_
     rw[hpl,hw2,tJ (n:=2*s.act+1) (by omega) (by omega),tJ (by omega) (by omega)]
    refine dQ (ab3) (⟨s.act,bH s k++[(⟨(s.sts.getD k st0).st,0⟩,iR (s.sts.getD k st0).st)],.val (.slice none 0 0),(s.sts.getD k st0).wt,iP 1,iP (2*s.act+1+(((bH s k).length+1:Nat):Int)),.val (.slice none 0 0),(⟨[],(s.sts.getD k st0).wt⟩,uH (2*s.act+1+(((bH s k).length+1:Nat):Int)))⟩) [3,4,10,11] (a4 (ai rfl rfl)) (Or.inl rfl) (by exact (ai (ai rfl (iE (by simp only[zz,reduceCtorEq]))) (ai (ai rfl (ai rfl rfl)) (ai (ai rfl rfl) (ai rfl rfl))))) (by exact (ai (ai rfl (ai rfl (ai (ai rfl (fun _ _=>rfl)) (ai rfl rfl)))) (ai (ai rfl rfl) (ai (ai rfl (ai rfl (ai rfl (fun _ _=>rfl)))) (ai rfl (ai rfl (ai rfl (fun _ _=>rfl)))))))) (⟨⟨by show (bH s k++[((⟨(s.sts.getD k st0).st,0⟩:Stp),iR (s.sts.getD k st0).st)]).length≤1000;rw[hpl];omega,rfl,rfl⟩,fun h=>by cases h⟩) ?_
    refine ei (k+1) (ai (ai rfl rfl) (ai (ai (ai rfl (ai (ai rfl rfl) (ai (ai rfl rfl) (ai (ai (ai (fun _=>rfl) (aN (by omega))) rfl) (ai (ai (ai (ai nof rfl) rfl) (ai (ai (ai nof (ai rfl (fun _ _=>rfl))) rfl) (ai (ai rfl (ai rfl (ai ?_ ?_))) (ai (ai nof rfl) rfl)))) (ai (ai rfl (ai rfl (ai ?_ ?_))) trivial)))))) rfl) (ai (ai (iL (by omega)) trivial) (iM (by omega)))))
    all_goals rw[e]
    ·exact fun _ _=>rfl
    ·exact fun _ _=>rfl
   ·have e:bH s (k+1)=bH s k++[(⟨(s.sts.getD k st0).st,0⟩,iR (s.sts.getD k st0).st)]:=by rw[hst];unfold nK;rw[if_neg h3]
    refine ei (k+1) (ai (ai rfl rfl) (ai (ai (ai rfl (ai (ai rfl rfl) (ai (ai rfl rfl) (ai (ai (ai (fun _=>rfl) (aN (by omega))) rfl) (ai (ai (ai (ai nof rfl) rfl) (ai (ai (ai nof (ai rfl (fun _ _=>rfl))) rfl) (ai (ai rfl (ai rfl (ai ?_ ?_))) (ai (ai nof rfl) rfl)))) (ai (ai rfl (ai rfl (ai ?_ ?_))) trivial)))))) rfl) (ai (ai (iL (by omega)) trivial) (iM (by omega)))))
    all_goals rw[e]
    ·exact fun _ _=>rfl
    ·exact fun _ _=>rfl
 ·obtain rfl:k=s.sts.length:=by omega
  refine ah (p:=24<(bH s s.sts.length).length) (av (by omega)) (fun h4=>?_) (fun h4=>?_)
  ·have e:kY s=5:=by unfold kY;rw[if_neg (fun h=>h h1),if_pos h4]
   refine ai (ai (fun h=>absurd (show false=true from h) (by decide)) ?_) trivial
   show aC _ (ofRaw s)
   rw[ofRaw,e,if_neg (show ¬(5:Int)=0 by decide)]
   exact (ai (ai rfl (ai rfl (ai rfl rfl))) rfl)
  have e0:kY s=0:=by unfold kY;rw[if_neg (fun h=>h h1),if_neg h4]
  have hA:ofRaw s=.tup [aeP s.act (bH s s.sts.length),iP 0]:=by unfold ofRaw;rw[if_pos e0]
  have hp0:=(hL s.sts.length (afi _)).2
  clear hL
  generalize bH s s.sts.length=p at *
  refine ei (bI.inv { X:=Nat,up:=fun k=>[(71,.s (iA k))],uo:=fun k=>[⟨3,36,[.s (iA s.act),.s (.p false uL),.rw 89 2 p.length (fun j=>sQ (p.getD j jk).1),aqO p k]⟩],inv:=fun k=>k≤p.length∧(True),meas:=fun k=>p.length-k,x0:=0 }) ?_
  refine ai (ai (ai (by exact (a4 (ai rfl rfl))) (ai ?_ ?_)) rfl) (ai (ai (aef _) ?_) ?_)
  ·exact (ai (ai (fun _=>rfl) (iE (by simp only[zz,reduceCtorEq];rfl))) rfl)
  ·exact (ai (ai (ai (ai nof rfl) rfl) (ai (ai (ai nof (ai rfl (fun _ _=>rfl))) rfl) (ai (ai rfl (ai rfl (ai rfl (fun _ _=>rfl)))) rfl))) trivial)
  ·trivial
  intro (k:Nat) ⟨hk,_⟩
  refine ah (p:=k<p.length) (av (by omega)) (fun h5=>?_) (fun h5=>?_)
  ·have hw1:IntKind.i64.wrap ((k:Int)+1)=((k+1:Nat):Int):=aN (by omega)
   refine ei (.one 0 (.one 1 (.one 2 (.one 4 (.one 5 (.one 6 (.one 7 (.one 8 (.one 9 (.one 11 (.one 12 (.one 13 (.one 14 (.alt 3 (.one 10 (.one 15 (.one 16 (.one 17 (.one 18 (.one 19 .done)))))) (.alt 10 (.one 3 (.one 15 (.one 16 (.one 17 (.one 18 (.one 19 .done)))))) .stop))))))))))))))) (ai (by kernel_rfl) ?_)
   refine ai (by show ¬(p.length:Int)=0;omega) ?_
   refine ai (ai (abJ _) (by show (k:Int)<(p.length:Int);omega)) ?_
   refine ai (by show k<p.length;exact h5) ?_
   refine ai ?_ (ai ?_ trivial)
   ·refine ai (mxL (n:=k+1) (by omega) (by decide)) (ai (fun j hj=>by
     have hj:j<1:=hj
     obtain rfl:j=0:=by omega
     rfl) ?_)
    refine ei (k+1) (ai (ai rfl rfl) (ai (ai (ai rfl (ai (ai rfl rfl) (ai (ai rfl rfl) (ai (ai (ai (fun _=>rfl) (aN (by omega))) rfl) (ai (ai (ai (ai nof rfl) rfl) (ai (ai (ai nof (ai rfl (fun _ _=>rfl))) rfl) (ai (ai rfl (ai rfl (ai rfl (fun _ _=>rfl)))) (ai rfl (ai rfl (ai rfl ?_)))))) trivial))))) rfl) (ai (ai (iL (by omega)) trivial) (iM (by omega)))))
    refine aag p k ?_
    show [PV.seq 1 (bf 1 [iP (k:Int)]),.seq 1 (bf 1 [iP ((IntKind.i64.wrap ((k:Int)+1)).tmod (p.length:Int))]),(p.getD k jk).2.1,(p.getD k jk).2.2.1,(p.getD k jk).2.2.2]=_
    rw[hw1];rfl
   ·refine ai (mxL (n:=k+1) (by omega) (by decide)) (ai (fun j hj=>by
     have hj:j<1:=hj
     obtain rfl:j=0:=by omega
     rfl) ?_)
    refine ei (k+1) (ai (ai rfl rfl) (ai (ai (ai rfl (ai (ai rfl rfl) (ai (ai rfl rfl) (ai (ai (ai (fun _=>rfl) (aN (by omega))) rfl) (ai (ai (ai (ai nof rfl) rfl) (ai (ai (ai nof (ai rfl (fun _ _=>rfl))) rfl) (ai (ai rfl (ai rfl (ai rfl (fun _ _=>rfl)))) (ai rfl (ai rfl (ai rfl ?_)))))) trivial))))) rfl) (ai (ai (iL (by omega)) trivial) (iM (by omega)))))
    refine aag p k ?_
    show [PV.seq 1 (bf 1 [iP (k:Int)]),.seq 1 (bf 1 [iP ((IntKind.i64.wrap ((k:Int)+1)).tmod (p.length:Int))]),(p.getD k jk).2.1,(p.getD k jk).2.2.1,(p.getD k jk).2.2.2]=_
    rw[hw1];rfl
  ·obtain rfl:k=p.length:=by omega
   refine ai (ai (fun h=>absurd (show false=true from h) (by decide)) ?_) trivial
   show aC _ (ofRaw s)
   rw[hA]
   exact (ai (ai rfl (ai (ai rfl (fun _ _=>rfl)) (ai (ai rfl (fun _ _=>rfl)) (ai rfl (fun _ _=>rfl))))) rfl)
def gH:List Bool→List Bool→Int
 | x :: a,y :: b=>if x=y then gH a b else if y then -1 else 1
 | _,_=>0
theorem ad7 {a b:List Bool} (hl:a.length=b.length):∀{k:Nat},k≤a.length→a.take k=b.take k→gH a b=gH (a.drop k) (b.drop k)
 | 0,_,_=>rfl
 | k+1,hk,h=>by
  have h1:a.take k=b.take k:=by
   have:=congrArg (List.take k) h
   rwa [arK,arK,arB (by omega)] at this
  rw[ad7 hl (k:=k) (by omega) h1]
  have ha:a.drop k=a.getD k false :: a.drop (k+1):=by
   rw[amM (by omega),aaM,aa8 (by omega)];rfl
  have hb:b.drop k=b.getD k false :: b.drop (k+1):=by
   rw[amM (by omega),aaM,aa8 (by omega)];rfl
  have e:a.getD k false=b.getD k false:=by
   have:=congrArg (fun l=>l.getD k false) h
   simpa [aaM,ah7] using this
  rw[ha,hb,gH,if_pos e]
theorem anw {a b:List Bool} (hl:a.length=b.length) {k:Nat} (hk:k<a.length) (h:a.take k=b.take k) (hn:a.getD k false≠b.getD k false):gH a b=if b.getD k false then -1 else 1:=by
 rw[ad7 hl (k:=k) (by omega) h]
 have ha:a.drop k=a.getD k false :: a.drop (k+1):=by
  rw[amM (by omega),aaM,aa8 (by omega)];rfl
 have hb:b.drop k=b.getD k false :: b.drop (k+1):=by
  rw[amM (by omega),aaM,aa8 (by omega)];rfl
 rw[ha,hb,gH,if_neg hn]
theorem ahp {a b:List Bool} (h:a=b):gH a b=0:=by
 subst h
 induction a with
 | nil=>rfl
 | cons x a ih=>rw[gH,if_pos rfl,ih]
def alg (a b:List Bool):Bool:=gH a b==-1
def qN (n:Nat):List Bool:=(List.replicate n false).set 0 true
abbrev Mk := List Bool × List Int
def ay:Mk:=([],[])
def qO (l:List Mk) (m:List Bool):Bool:=l.any fun y=>decide (y.1=m)
def nW (x y:Int):Int:=if x<y then -1 else if y<x then 1 else 0
theorem agn:aM Tryz.prog 163 (bM (fun x:Int=>[iA x]) (fun _=>True) (fun _=>bP false)):=by
 refine aW (Tb:=tab) mixed aB Tryz.func163 rfl rfl ?_
 rintro (x:Int) hpre
 refine ai (ai rfl (ai rfl rfl)) ?_
 refine ai (ai (fun _=>trivial) ?_) trivial
 show aC _ (bP false)
 rw[show false=(x != x) by simp]
 exact rfl
theorem anW:aM Tryz.prog 126 (bM (fun a:Int×Int=>[iA a.1,iA a.2]) (fun _=>True) (fun a=>iP (nW a.1 a.2))):=by
 refine aW (Tb:=tab) mixed aB Tryz.func126 rfl rfl ?_
 rintro (a:Int×Int) hpre
 refine ai (ai rfl (ai rfl rfl)) ?_
 refine ei _ (ai (agn) (ei (a.1) (ei [] (ai (a4 (ai (fun _=>Or.inl rfl) (ai nof (Or.inl rfl)))) (ai (by exact rfl) (ai trivial (ai (trivial) ?_)))))))
 refine ei _ (ai (agn) (ei (a.2) (ei [] (ai (a4 (ai (fun _=>Or.inl rfl) (ai nof (Or.inl rfl)))) (ai (by exact rfl) (ai trivial (ai (trivial) ?_)))))))
 refine ah (p:=a.1<a.2) (av (by omega)) (fun h1=>?_) (fun h1=>?_)
 ·refine ai (ai (fun _=>trivial) ?_) trivial
  show aC _ (iP (nW a.1 a.2))
  rw[nW,if_pos h1]
  exact rfl
 refine ah (p:=a.2<a.1) (av (by omega)) (fun h2=>?_) (fun h2=>?_)
 ·refine ai (ai (fun _=>trivial) ?_) trivial
  show aC _ (iP (nW a.1 a.2))
  rw[nW,if_neg h1,if_pos h2]
  exact rfl
 ·refine ai (ai (fun _=>trivial) ?_) trivial
  show aC _ (iP (nW a.1 a.2))
  rw[nW,if_neg h1,if_neg h2]
  exact rfl
def cmpL:List Int→List Int→Int
 | [],[]=>0
 | [],_ :: _=>-1
 | _ :: _,[]=>1
 | x :: a,y :: b=>if nW x y=0 then cmpL a b else nW x y
theorem ajy {x y:Int} (h:nW x y=0):x=y:=by
 unfold nW at h
 split at h
 ·cases h
 ·split at h
  ·cases h
  ·omega
theorem aey {a b:List Int}:∀{k:Nat},k≤a.length→k≤b.length→a.take k=b.take k→cmpL a b=cmpL (a.drop k) (b.drop k)
 | 0,_,_,_=>rfl
 | k+1,hk,hk2,h=>by
  have h1:a.take k=b.take k:=by
   have:=congrArg (List.take k) h
   rwa [arK,arK,arB (by omega)] at this
  rw[aey (k:=k) (by omega) (by omega) h1]
  have ha:a.drop k=a.getD k 0 :: a.drop (k+1):=by
   rw[amM (by omega),aaM,aa8 (by omega)];rfl
  have hb:b.drop k=b.getD k 0 :: b.drop (k+1):=by
   rw[amM (by omega),aaM,aa8 (by omega)];rfl
  have e:a.getD k 0=b.getD k 0:=by
   have:=congrArg (fun l=>l.getD k 0) h
   simpa [aaM,ah7] using this
  rw[ha,hb,cmpL,if_pos (by rw[e];unfold nW;rw[if_neg (by omega),if_neg (by omega)])]
theorem aav:aM Tryz.prog 64 (bM (fun a:List Int×List Int=>[isA a.1,isA a.2]) (fun a=>a.1.length≤1000000) (fun a=>iP (cmpL a.1 a.2))):=by
 refine aW (Tb:=tab) mixed aB Tryz.func64 rfl rfl ?_
 rintro (a:List Int×List Int) hpre
 refine ai (ai rfl (ai rfl rfl)) ?_
 have hl:a.1.length≤1000000:=hpre
 refine ei (bI.inv { X:=Nat,up:=fun k=>[(11,.s (iA k))],uo:=fun k=>[],inv:=fun k=>k≤a.1.length∧(k≤a.2.length∧a.1.take k=a.2.take k),meas:=fun k=>a.1.length-k,x0:=0 }) ?_
 refine ai (ai (ai (by exact (a4 (ai rfl rfl))) (ai (by exact (ai (ai (fun _=>rfl) (iE (by simp only[zz,reduceCtorEq];rfl))) rfl)) (by exact trivial))) rfl) (ai (ai (aef _) ?_) ?_)
 ·exact ⟨aef _,rfl⟩
 intro (k:Nat) ⟨hk,hk2,hall⟩
 have hD:=aey hk hk2 hall
 refine ah (p:=k<a.1.length) (av (by omega)) (fun h1=>?_) (fun h1=>?_)
 ·refine ai (ai (abJ _) (iN (n:=a.1.length) (by omega))) (ai rfl ?_)
  have ha:a.1.drop k=a.1.getD k 0 :: a.1.drop (k+1):=by
   rw[amM (by omega),aaM,aa8 (by omega)];rfl
  refine ah (p:=a.2.length≤k) (fJ (by omega)) (fun h2=>?_) (fun h2=>?_)
  ·refine ai (ai (fun _=>trivial) ?_) trivial
   show aC _ (iP (cmpL a.1 a.2))
   rw[show cmpL a.1 a.2=1 by rw[hD,ha,arp h2];rfl]
   exact rfl
  have hb:a.2.drop k=a.2.getD k 0 :: a.2.drop (k+1):=by
   rw[amM (by omega),aaM,aa8 (by omega)];rfl
  refine ai (ai (abJ _) (iN (n:=a.2.length) (by omega))) (ai rfl ?_)
  refine ei _ (ai (anW) (ei ((a.1.getD k 0,a.2.getD k 0)) (ei [] (ai (a4 (ai (fun _=>Or.inl rfl) (ai nof (Or.inl rfl)))) (ai (by exact (ai (iE (by simp only[zz,reduceCtorEq])) (iE (by simp only[zz,reduceCtorEq])))) (ai trivial (ai (trivial) ?_)))))))
  refine aF (p:=nW (a.1.getD k 0) (a.2.getD k 0)=0) (bZ (by dsimp only;omega)) (fun h3=>?_) (fun h3=>?_)
  ·refine ai (ai (fun _=>trivial) ?_) trivial
   show aC _ (iP (cmpL a.1 a.2))
   rw[show cmpL a.1 a.2=nW (a.1.getD k 0) (a.2.getD k 0) by rw[hD,ha,hb,cmpL,if_neg h3]]
   exact rfl
  refine ei (k+1) (ai (ai rfl rfl) (ai (ai (ai rfl (ai (ai rfl rfl) (ai (ai rfl rfl) (ai (ai (ai (fun _=>rfl) (aN (by omega))) rfl) trivial)))) rfl) (ai (ai (iL (by omega)) (ai ?_ ?_)) (iM (by omega)))))
  ·show k+1≤a.2.length;omega
  ·exact wz 0 h1 (by omega) hall (ajy h3)
 ·obtain rfl:k=a.1.length:=by omega
  rw[arp (afi _)] at hD
  refine ah (p:=a.1.length<a.2.length) (av (by omega)) (fun h4=>?_) (fun h4=>?_)
  ·have hb:a.2.drop a.1.length=a.2.getD a.1.length 0 :: a.2.drop (a.1.length+1):=by
    rw[amM (by omega),aaM,aa8 (by omega)];rfl
   refine ai (ai (fun _=>trivial) ?_) trivial
   show aC _ (iP (cmpL a.1 a.2))
   rw[show cmpL a.1 a.2=-1 by rw[hD,hb];rfl]
   exact rfl
  ·refine ai (ai (fun _=>trivial) ?_) trivial
   show aC _ (iP (cmpL a.1 a.2))
   rw[show cmpL a.1 a.2=0 by rw[hD,arp (by omega)];rfl]
   exact rfl
def xG (c:bC) (i:Nat):kr:=c.trs.getD i ak
def aD (c:bC) (l:List Mk) (a i:Nat):Mk:=(mR (l.getD a ay).1 (xG c i),(l.getD a ay).2++[(i:Int)])
def adds (c:bC) (l:List Mk) (a i:Nat):Bool:=allM (l.getD a ay).1 (xG c i).fr&&!qO l (aD c l a i).1
def jQ (c:bC) (l:List Mk) (a i:Nat):List Mk:=if adds c l a i then l++[aD c l a i] else l
def eX (c:bC) (l:List Mk) (a:Nat):Nat→List Mk
 | 0=>l
 | k+1=>jQ c (eX c l a k) a k
def oU (c:bC):Nat→List Mk→Nat→Option (List Mk)
 | 0,l,a=>some l
 | f+1,l,a=>if l.length≤a then some l else if 16384<(eX c l a c.trs.length).length then none else oU c f (eX c l a c.trs.length) (a+1)
def mk1 (c:bC):List Mk:=[(qN c.sts.length,[])]
def sW (c:bC):Option (List Mk):=oU c 16385 (mk1 c) 0
theorem ad6 (c:bC) (l:List Mk) (a i:Nat):(∃t,jQ c l a i=l++t)∧(jQ c l a i).length≤l.length+1:=by
 unfold jQ
 split
 ·exact ⟨⟨_,rfl⟩,by simp⟩
 ·exact ⟨⟨[],(apD _).symm⟩,by omega⟩
theorem ajL (c:bC) (l:List Mk) (a:Nat):∀{j k:Nat},j≤k→(eX c l a j).length≤(eX c l a k).length:=by
 intro j k h
 induction k with
 | zero=>
  have:j=0:=by omega
  subst this;exact afi _
 | succ k ih=>
  by_cases e:j=k+1
  ·subst e;exact afi _
  ·have h1:=ih (by omega)
   obtain ⟨⟨t,ht⟩,_⟩:=ad6 c (eX c l a k) a k
   have:(eX c l a (k+1)).length=(eX c l a k).length+t.length:=by
    show (jQ c (eX c l a k) a k).length=_
    rw[ht,aac]
   omega
theorem su (c:bC) (l:List Mk) (a:Nat):∀k,∃t,eX c l a k=l++t
 | 0=>⟨[],(apD _).symm⟩
 | k+1=>by
  obtain ⟨t,ht⟩:=su c l a k
  obtain ⟨⟨t2,h2⟩,_⟩:=ad6 c (eX c l a k) a k
  exact ⟨t++t2,by show jQ c (eX c l a k) a k=_;rw[h2,ht,arh]⟩
def nC (c:bC) (l:List Mk):Prop:=∀y∈l,y.1.length=c.sts.length∧iT c.trs.length y.2
theorem akj {c:bC} {l:List Mk} {a i:Nat} (h:nC c l) (ha:a<l.length) (hi:i<c.trs.length):nC c (l++[aD c l a i]):=by
 intro y hy
 rcases ahq.1 hy with hy | hy
 ·exact h y hy
 ·simp only[agL] at hy
  subst hy
  have hg:=h _ (aee (bT ay ha))
  refine ⟨by show (mR _ _).length=_;unfold mR;rw[iO,iO];exact hg.1,fun x hx=>?_⟩
  rcases ahq.1 hx with hx | hx
  ·exact hg.2 x hx
  ·simp only[agL] at hx;subst hx;omega
theorem good_step {c:bC} {l:List Mk} {a i:Nat} (h:nC c l) (ha:a<l.length) (hi:i<c.trs.length):nC c (jQ c l a i):=by
 unfold jQ
 split
 ·exact akj h ha hi
 ·exact h
theorem good_row {c:bC} {l:List Mk} {a:Nat} (h:nC c l) (ha:a<l.length):∀{k:Nat},k≤c.trs.length→nC c (eX c l a k)
 | 0,_=>h
 | k+1,hk=>good_step (good_row h ha (by omega)) (by obtain ⟨t,ht⟩:=su c l a k;rw[ht,aac];omega) (by omega)
theorem afl (c:bC):nC c (mk1 c):=by
 intro y hy
 simp only[mk1,agL] at hy
 subst hy
 exact ⟨by show (qN _).length=_;unfold qN;rw[ars,aq8],fun x hx=>by simp at hx⟩
theorem al2 {c:bC} {f:Nat} {l:List Mk} {a:Nat} (h:l.length≤a):oU c f l a=some l:=by
 cases f with
 | zero=>rfl
 | succ f=>rw[oU,if_pos h]
theorem amx {c:bC} {f:Nat} {l:List Mk} {a k:Nat} (ha:a<l.length) (hk:k≤c.trs.length) (h:16384<(eX c l a k).length):oU c (f+1) l a=none:=by
 have:=ajL c l a hk
 rw[oU,if_neg (by omega),if_pos (by omega)]
theorem alo {c:bC} {f:Nat} {l:List Mk} {a:Nat} (ha:a<l.length) (h:(eX c l a c.trs.length).length≤16384):oU c (f+1) l a=oU c f (eX c l a c.trs.length) (a+1):=by
 rw[oU,if_neg (by omega),if_neg (by omega)]
theorem oZ {u u' v v':PV} (h1:fQ u u') (h2:fQ v v'):bW [u,v] [u',v']:=by
 refine ⟨rfl,fun k s s' hs hs'=>?_⟩
 match k with
 | 0=>cases hs;cases hs';exact h1
 | 1=>cases hs;cases hs';exact h2
 | k+2=>simp at hs
theorem alh {n:Nat} {f:Nat→List PV} {l:List Int} (hn:n=l.length) (hf:∀k,k<n→f k=[iP (l.getD k 0)]):fQ (.seq n f) (oK l):=by
 subst hn
 refine .seq _ _ _ (fun j hj=>by rw[hf j hj]) fun j k s s' hj hs hs'=>?_
 rw[hf j hj] at hs
 have hs':[iP (l.getD j 0)][k]?=some s':=hs'
 rw[hs] at hs';cases hs';exact .refl _
theorem jv {c:bC} {l:List Mk} {a:Nat} (ha:a<l.length) (k:Nat):(eX c l a k).getD a ay=l.getD a ay:=by
 obtain ⟨t,ht⟩:=su c l a k
 rw[ht,aaM,aaM,aed ha]
def yw (n:Nat) (l:List Mk):Prop:=∀y∈l,y.2.length≤n
theorem adO {c:bC} {l:List Mk} {a:Nat} (ha:a<l.length) (h:yw a l):∀k,yw (a+1) (eX c l a k)
 | 0=>fun y hy=>Nat.le_succ_of_le (h y hy)
 | k+1=>by
  have ih:=adO (c:=c) ha h k
  show yw (a+1) (jQ c (eX c l a k) a k)
  unfold jQ
  split
  ·intro y hy
   rcases ahq.1 hy with hy | hy
   ·exact ih y hy
   ·simp only[agL] at hy
    subst hy
    show (((eX c l a k).getD a ay).2++[(k:Int)]).length≤a+1
    rw[jv ha,aac]
    have:=h _ (aee (bT ay ha))
    show (l.getD a ay).2.length+1≤a+1
    omega
  ·exact ih
def toC (x:Ex):C3:=(iP x.op,iP x.idx,if x.op=1 then .val (.slice none 0 0) else .seq x.args.length (fun k=>qP (x.args.getD k dz).idx))
theorem an3 (n:Int):uH n=toC (nL n):=rfl
theorem ah2 (l:List Sk):iR l=toC (adP l):=by
 match l with
 | [y]=>rfl
 | []=>
  show (iP 3,iP 0,PV.seq 0 (qK []))=(iP 3,iP 0,PV.seq 0 (fun k=>qP (([]:List Ex).getD k dz).idx))
  exact congrArg (fun f:Nat→List PV=>((iP 3,iP 0,PV.seq 0 f):C3)) (funext fun k=>by cases k<;>rfl)
 | a :: b :: l=>
  show (iP 3,iP 0,PV.seq (a :: b :: l).length (qK (a :: b :: l)))=(iP 3,iP 0,PV.seq ((a :: b :: l).map fun y=>nL (gP y)).length (fun k=>qP (((a :: b :: l).map fun y=>nL (gP y)).getD k dz).idx))
  rw[akn]
  refine congrArg (fun f:Nat→List PV=>((iP 3,iP 0,PV.seq (a :: b :: l).length f):C3)) (funext fun k=>?_)
  show qP (gP ((a :: b :: l).getD k aV))=_
  rw[aaM,aaM,ahO]
  cases (a :: b :: l)[k]?<;>rfl
def okX (x:Ex):Prop:=(x.op=1∧x.args=[])∨(x.op=3∧∀y∈x.args,y.op=1∧y.args=[])
theorem ahs (n:Int):okX (nL n):=.inl ⟨rfl,rfl⟩
theorem ahU (l:List Sk):okX (adP l):=by
 match l with
 | [y]=>exact .inl ⟨rfl,rfl⟩
 | []=>exact .inr ⟨rfl,fun y hy=>by simp[adP] at hy⟩
 | a :: b :: l=>
  refine .inr ⟨rfl,fun y hy=>?_⟩
  obtain ⟨z,_,rfl⟩:=aqs.1 hy
  exact ⟨rfl,rfl⟩
abbrev SX := Stp × Ex
def sx0:SX:=(st0,nL 0)
def abF (act:Int) (p:List SX) (x:Stp):List SX:=
 if 0<x.wt then (p++[(⟨x.st,0⟩,adP x.st)])++[(⟨[],x.wt⟩,nL (2*act+1+((p.length+1:Nat):Int)))] else p++[(⟨x.st,0⟩,adP x.st)]
def sU (s:gy):List SX:=s.sts.foldl (abF s.act) [(⟨[],0⟩,nL (2*s.act))]
def abr (q:SX):SC:=(q.1,toC q.2)
theorem abh (s:gy):bH s s.sts.length=(sU s).map abr:=by
 have key:∀(l:List Stp) (p:List SX),l.foldl (nK s.act) (p.map abr)=(l.foldl (abF s.act) p).map abr:=by
  intro l
  induction l with
  | nil=>intro p;rfl
  | cons x l ih=>
   intro p
   rw[arz,arz,←ih]
   congr 1
   unfold nK abF
   rw[akn]
   split
   ·rw[aq2,aq2,ah2,an3];rfl
   ·rw[aq2,ah2];rfl
 have:=key s.sts [(⟨[],0⟩,nL (2*s.act))]
 unfold bH
 rw[afz]
 exact this
theorem aif (s:gy):∀q∈sU s,okX q.2:=by
 have key:∀(l:List Stp) (p:List SX),(∀q∈p,okX q.2)→∀q∈l.foldl (abF s.act) p,okX q.2:=by
  intro l
  induction l with
  | nil=>intro p h;exact h
  | cons x l ih=>
   intro p h
   rw[arz]
   refine ih _ fun q hq=>?_
   unfold abF at hq
   split at hq
   ·rcases ahq.1 hq with hq | hq
    ·rcases ahq.1 hq with hq | hq
     ·exact h q hq
     ·simp only[agL] at hq;subst hq;exact ahU _
    ·simp only[agL] at hq;subst hq;exact ahs _
   ·rcases ahq.1 hq with hq | hq
    ·exact h q hq
    ·simp only[agL] at hq;subst hq;exact ahU _
 exact key s.sts _ fun q hq=>by simp only[agL] at hq;subst hq;exact ahs _
def ajV:List UInt8:=[115,116,97,114,116]
def sV (p:List SX) (k:Nat):kr:=⟨[(k:Int)],[toN k p.length],(p.getD k sx0).2⟩
def chX (act:Int) (p:List SX):bC:=⟨act,[ajV],p.map (·.1),(List.range p.length).map (sV p)⟩
def ofC (s:gy):bC:=if kY s=0 then chX s.act (sU s) else ⟨0,[],[],[]⟩
theorem aZ {a b:PV} {l m:List PV} (h:fQ a b) (hl:bW l m):bW (a :: l) (b :: m):=by
 refine ⟨by simp[hl.1],fun k s s' hs hs'=>?_⟩
 match k with
 | 0=>cases hs;cases hs';exact h
 | k+1=>exact hl.2 k s s' (by simpa using hs) (by simpa using hs')
theorem jo:bW [] []:=⟨rfl,fun k s s' hs _=>by simp at hs⟩
theorem fO {n:Nat} {f g:Nat→List PV} (h:∀k,k<n→bW (f k) (g k)):fQ (.seq n f) (.seq n g):=
 .seq n f g (fun j hj=>(h j hj).1) fun j k s s' hj hs hs'=>(h j hj).2 k s s' hs hs'
theorem oQ {l m:List PV} (h:bW l m):fQ (.agg l) (.agg m):=.agg l m h.1 h.2
theorem aaw {l m:List PV} (h:bW l m):fQ (.tup l) (.tup m):=.tup l m h.1 h.2
theorem acR (x:Int):fQ (.seq 1 (bf 1 [iP x])) (oK [x]):=alh rfl fun j hj=>by
 obtain rfl:j=0:=by omega
 rfl
theorem aky {x:Ex} (h:okX x):bW (oo (toC x)) (exK x):=by
 refine aZ (.refl _) (aZ (.refl _) (aZ ?_ jo))
 show fQ (if x.op=1 then .val (.slice none 0 0) else .seq x.args.length (fun k=>qP (x.args.getD k dz).idx)) (.seq x.args.length (exF x.args))
 rcases h with ⟨h1,h2⟩ | ⟨h1,h2⟩
 ·rw[if_pos h1,h2];exact .nil _
 ·rw[if_neg (by rw[h1];decide)]
  refine fO fun k hk=>?_
  have hy:=h2 _ (aee (bT dz hk))
  show bW (qP (x.args.getD k dz).idx) (exF x.args k)
  unfold exF qP
  rw[hy.1,hy.2]
  exact aZ (.refl _) (aZ (.refl _) (aZ (.nil _) jo))
theorem aj5:fQ uL (xM [ajV]):=fO fun k hk=>by
 obtain rfl:k=0:=by omega
 exact bW.rfl' _
theorem apA (x:Stp):bW (sQ x) (uX x):=by
 refine aZ ?_ (aZ (.refl _) jo)
 split
 ·rename_i h;rw[h];exact .nil _
 ·exact .refl _
theorem wZ (p:List SX) {k:Nat} (hk:k<p.length):(p.map abr).getD k jk=abr (p.getD k sx0):=by
 rw[aaM,aaM,ahO,aa8 hk];rfl
theorem al8 (act:Int) {p:List SX} (h:∀q∈p,okX q.2):fQ (aeP act (p.map abr)) (nU (chX act p)):=by
 unfold aeP nU chK chX
 rw[akn]
 refine oQ (aZ (.refl _) (aZ aj5 (aZ ?_ (aZ ?_ jo))))
 ·show fQ _ (.seq (p.map (·.1)).length (fun k=>uX ((p.map (·.1)).getD k st0)))
  rw[akn]
  refine fO fun k hk=>?_
  rw[wZ p hk]
  have:(p.map (·.1)).getD k st0=(p.getD k sx0).1:=by
   rw[aaM,aaM,ahO,aa8 hk];rfl
  rw[this]
  exact apA _
 ·show fQ _ (.seq ((List.range p.length).map (sV p)).length (fun k=>trK (((List.range p.length).map (sV p)).getD k ak)))
  rw[akn,ar9]
  refine fO fun k hk=>?_
  have e1:((List.range p.length).map (sV p)).getD k ak=sV p k:=by
   rw[aaM,ahO,arx hk];rfl
  rw[e1]
  unfold rA
  rw[wZ p hk,akn]
  have h3:=aky (h _ (aee (bT sx0 hk)))
  exact aZ (acR _) (aZ (acR _) h3)
theorem alO (s:gy):fQ (ofRaw s) (.tup [nU (ofC s),iP (kY s)]):=by
 unfold ofRaw ofC
 by_cases h:kY s=0
 ·rw[if_pos h,if_pos h,h,abh]
  exact aaw (aZ (al8 _ (aif s)) (aZ (.refl _) jo))
 ·rw[if_neg h,if_neg h]
  refine aaw (aZ ?_ (aZ (.refl _) jo))
  exact oQ (aZ (.refl _) (aZ (.nil _) (aZ (.nil _) (aZ (.nil _) jo))))
def ofP (s:gy):PV:=.tup [nU (ofC s),iP (kY s)]
theorem xP:aM Tryz.prog 18 (iq (fun s:gy=>[uW s]) (fun _=>True) ofP):=aaq ag0 fun s _=>alO s
def aqI (p:List SC) (k:Nat):LV:=.rw 81 5 k (rA p)
def ac4 (act:Int) (p:List SC):PV:=.agg [iP act,uL,.seq p.length (fun k=>uX (p.getD k jk).1),.seq p.length (rA p)]
def ny (s:gy):PV:=if kY s=0 then .tup [ac4 s.act (bH s s.sts.length),iP 0] else .tup [.agg [iP 0,.val (.slice none 0 0),.val (.slice none 0 0),.val (.slice none 0 0)],iP (kY s)]
def aoD (p:List SC):LV:=.rws 108 2 p.length (fun j=>uX (p.getD j jk).1)
def aqv (p:List SC):LV:=.rw 79 3 p.length (fun j=>oo (p.getD j jk).2)
theorem o9 (f:SC→List PV) (p:List SC) (x:SC) {n:Nat} {F g:Nat→List PV} (hn:n=p.length) (hF:∀k,k<n→F k=f (p.getD k jk)) (hg:g 0=f x):∀k,k<n+1→bJ n F g k=f ((p++[x]).getD k jk):=by
 subst hn
 intro k hk
 unfold bJ
 by_cases h:k<p.length
 ·rw[if_pos h,hF k h]
  rw[aaM,aaM,aed h]
 ·obtain rfl:k=p.length:=by omega
  rw[if_neg h,aoU,hg,aaM,ae5 (afi _),aoU];rfl
theorem pO (p:List SC) (x:SC) {n:Nat} {F g:Nat→List PV} (hn:n=p.length) (hF:∀k,k<n→bW (F k) (uX (p.getD k jk).1)) (hg:bW (g 0) (uX x.1)):∀k,k<n+1→bW (bJ n F g k) (uX ((p++[x]).getD k jk).1):=by
 subst hn
 intro k hk
 unfold bJ
 by_cases h:k<p.length
 ·rw[if_pos h]
  have:=hF k h
  rwa [aaM,aed h,←aaM]
 ·obtain rfl:k=p.length:=by omega
  rw[if_neg h,aoU,aaM,ae5 (afi _),aoU]
  exact hg
theorem ae1 (l:List Sk):fQ (.seq (0+l.length) (bJ 0 (bf 2 []) (fun k=>skK (l.getD k aV)))) (wU l):=by
 rw[afY]
 exact fO fun k hk=>bW.of (acw (n:=l.length) k (by omega))
set_option maxHeartbeats 16000000 in
theorem afO:aM Tryz.prog 19 (iq (fun s:gy=>[uW s]) (fun _=>True) ny):=by
 refine iZ [3000018,3000044,4000094,4000101] ?_
 refine aW (Tb:=tab) mixed aB Tryz.func19 rfl rfl ?_
 rintro (s:gy) hpre
 refine ai (ai rfl (ai rfl rfl)) ?_
 refine ei _ (ai (anL) (ei (s) (ei [] (ai (a4 (ai (fun _=>Or.inl rfl) (ai nof (Or.inl rfl)))) (ai (by exact (ai rfl (ai rfl (fun _ _=>rfl)))) (ai trivial (ai (trivial) ?_)))))))
 refine aF (p:=eD s=0) (bZ (by omega)) (fun h1=>?_) (fun h1=>?_)
 ·have e:kY s=eD s:=if_pos h1
  refine ai (ai (fun h=>absurd (show false=true from h) (by decide)) ?_) trivial
  show aC _ (ny s)
  rw[ny,e,if_neg h1]
  exact (ai (ai rfl (ai rfl (ai rfl rfl))) rfl)
 obtain ⟨⟨ha1,ha6⟩,h64,hck⟩:=seq_ok h1
 have hw2:IntKind.i64.wrap (2*s.act)=2*s.act:=tJ (by omega) (by omega)
 refine ei _ (ai (uY) (ei (2*s.act) (ei [] (ai (a4 (ai (fun _=>Or.inl rfl) (ai nof (Or.inl rfl)))) (ai ?_ (ai (by exact trivial) (ai (trivial) ?_)))))))
 ·exact hw2
 have hL:=abx s
 refine ei (bI.inv { X:=Nat,up:=fun k=>[(7,.s (iA k)),(6,aqv (bH s k))],uo:=fun k=>[⟨4,26,[.s (iA s.act),.s (.p false uL),aoD (bH s k),.s vW]⟩],inv:=fun k=>k≤s.sts.length∧(True),meas:=fun k=>s.sts.length-k,x0:=0 }) ?_
 refine ai (ai (ai (by exact (a4 (ai rfl rfl))) (ai ?_ ?_)) rfl) (ai (ai (aef _) ?_) ?_)
 ·refine (ai (ai (ai (fun _=>rfl) (iE (by simp only[zz,reduceCtorEq];rfl))) rfl) (ai rfl (ai rfl (ai rfl ?_))))
  intro k hk
  obtain rfl:k=0:=by omega
  rfl
 ·refine (ai (ai (ai (ai nof rfl) rfl) (ai (ai (ai nof (ai rfl (fun _ _=>rfl))) rfl) (ai (ai rfl (ai rfl (ai rfl ?_))) (ai (ai (fun _=>rfl) rfl) rfl)))) trivial)
  intro k hk
  obtain rfl:k=0:=by omega
  exact oZ (.nil _) (.refl _)
 ·trivial
 intro (k:Nat) ⟨hk,_⟩
 obtain ⟨hk1,hk2⟩:=hL k hk
 refine ah (p:=k<s.sts.length) (av (by omega)) (fun h2=>?_) (fun h2=>?_)
 ·refine ai (ai (abJ _) (iN (n:=s.sts.length) (by omega))) (ai rfl ?_)
  have hm:=aee (bT st0 h2)
  obtain ⟨⟨hx0,hx6⟩,hxs,hxw⟩:=lT (hck _ hm)
  have hsm:u6 (s.sts.getD k st0).st:=⟨by omega,hxs⟩
  have hst:=zf h2
  have hne:(s.sts.getD k st0).st≠[]:=fun e=>by rw[e] at hx0;simp at hx0
  refine ei (.one 0 (.one 3 (.one 4 (.rd 1 [5] (.one 2 (.one 5 (.one 6 (.one 7 (.one 8 (.one 9 (.one 10 .done))))))))))) (ai (by kernel_rfl) ?_)
  refine ai (mxL (n:=0+(s.sts.getD k st0).st.length) (by omega) (by decide)) (ai (fun _ _=>rfl) ?_)
  refine ai (mxL (n:=(bH s k).length+1) (by omega) (by decide)) (ai (lt1 rfl) ?_)
  refine ei _ (ai (akF) (ei ((s.sts.getD k st0).st) (ei [] (ai (a4 (ai (fun _=>Or.inl rfl) (ai nof (Or.inl rfl)))) (ai (by exact (ai rfl (fun _ _=>rfl))) (ai trivial (ai (hsm) ?_)))))))
  by_cases h1l:(s.sts.getD k st0).st.length=1
  ·have ee:=wE h1l
   refine ei _ (ai ((jH ak4 (s.sts.getD k st0).st ⟨hx0,by omega⟩ (r:=.agg [iP 1,iP (gP ((s.sts.getD k st0).st.getD 0 aV)),.val (.slice none 0 0)]) (congrArg PV.agg ee))) (ei (()) (ei [] (ai (a4 (ai (fun _=>Or.inl rfl) (ai nof (Or.inl rfl)))) (ai (by exact (ai rfl (fun _ _=>rfl))) (ai trivial (ai (trivial) ?_)))))))
   refine ai (mxL (n:=(bH s k).length+1) (by omega) (by decide)) (ai (lt1 rfl) ?_)
   refine ah (p:=0<(s.sts.getD k st0).wt) (av Iff.rfl) (fun h3=>?_) (fun h3=>?_)
   ·have e:bH s (k+1)=(bH s k++[(⟨(s.sts.getD k st0).st,0⟩,iR (s.sts.getD k st0).st)])++[(⟨[],(s.sts.getD k st0).wt⟩,uH (2*s.act+1+(((bH s k).length+1:Nat):Int)))]:=by rw[hst];unfold nK;rw[if_pos h3]
    have hpl:(bH s k++[((⟨(s.sts.getD k st0).st,0⟩:Stp),iR (s.sts.getD k st0).st)]).length=(bH s k).length+1:=by rw[aac];rfl
    refine ei _ (ai (uY) (ei (2*s.act+1+(((bH s k).length+1:Nat):Int)) (ei [] (ai (a4 (ai (fun _=>Or.inl rfl) (ai nof (Or.inl rfl)))) (ai ?_ (ai (by exact trivial) (ai (trivial) ?_)))))))
    ·show IntKind.i64.wrap (IntKind.i64.wrap (IntKind.i64.wrap (2*s.act)+1)+(((bH s k).length+1:Nat):Int))=_
     rw[hw2,tJ (n:=2*s.act+1) (by omega) (by omega),tJ (by omega) (by omega)]
    refine ai (mxL (n:=((bH s k).length+1)+1) (by omega) (by decide)) (ai (lt1 rfl) ?_)
    refine ai (mxL (n:=((bH s k).length+1)+1) (by omega) (by decide)) (ai (lt1 rfl) ?_)
    refine ei (k+1) (ai (ai rfl rfl) (ai (ai (ai rfl (ai (ai rfl rfl) (ai (ai rfl rfl) (ai (ai (ai (ai (fun _=>rfl) (aN (by omega))) rfl) (ai rfl (ai rfl (ai ?_ ?_)))) (ai (ai (ai (ai nof rfl) rfl) (ai (ai (ai nof (ai rfl (fun _ _=>rfl))) rfl) (ai (ai rfl (ai rfl (ai ?_ ?_))) (ai (ai nof rfl) rfl)))) trivial))))) rfl) (ai (ai (iL (by omega)) trivial) (iM (by omega)))))
    all_goals rw[e]
    ·rw[aac,hpl];rfl
    ·exact o9 (fun q=>oo q.2) _ _ hpl.symm (fun j hj=>o9 (fun q=>oo q.2) _ _ rfl (fun _ _=>rfl) ee.symm j hj) rfl
    ·rw[aac,hpl];rfl
    ·exact pO _ _ hpl.symm (fun j hj=>pO _ _ rfl (fun _ _=>bW.rfl' _) (oZ (ae1 _) (.refl _)) j hj) (oZ (.nil _) (.refl _))
   ·have e:bH s (k+1)=bH s k++[(⟨(s.sts.getD k st0).st,0⟩,iR (s.sts.getD k st0).st)]:=by rw[hst];unfold nK;rw[if_neg h3]
    refine ei (k+1) (ai (ai rfl rfl) (ai (ai (ai rfl (ai (ai rfl rfl) (ai (ai rfl rfl) (ai (ai (ai (ai (fun _=>rfl) (aN (by omega))) rfl) (ai rfl (ai rfl (ai ?_ ?_)))) (ai (ai (ai (ai nof rfl) rfl) (ai (ai (ai nof (ai rfl (fun _ _=>rfl))) rfl) (ai (ai rfl (ai rfl (ai ?_ ?_))) (ai (ai nof rfl) rfl)))) trivial))))) rfl) (ai (ai (iL (by omega)) trivial) (iM (by omega)))))
    all_goals rw[e]
    ·rw[aac];rfl
    ·exact o9 (fun q=>oo q.2) _ _ rfl (fun _ _=>rfl) ee.symm
    ·rw[aac];rfl
    ·exact pO _ _ rfl (fun _ _=>bW.rfl' _) (oZ (ae1 _) (.refl _))
  ·have ee:=ug h1l
   refine ei _ (ai ((jH ak4 (s.sts.getD k st0).st ⟨hx0,by omega⟩ (r:=.agg [iP 3,iP 0,.seq (s.sts.getD k st0).st.length (qK (s.sts.getD k st0).st)]) (congrArg PV.agg ee))) (ei (()) (ei [] (ai (a4 (ai (fun _=>Or.inl rfl) (ai nof (Or.inl rfl)))) (ai (by exact (ai rfl (fun _ _=>rfl))) (ai trivial (ai (trivial) ?_)))))))
   refine ai (mxL (n:=(bH s k).length+1) (by omega) (by decide)) (ai (lt1 rfl) ?_)
   refine ah (p:=0<(s.sts.getD k st0).wt) (av Iff.rfl) (fun h3=>?_) (fun h3=>?_)
   ·have e:bH s (k+1)=(bH s k++[(⟨(s.sts.getD k st0).st,0⟩,iR (s.sts.getD k st0).st)])++[(⟨[],(s.sts.getD k st0).wt⟩,uH (2*s.act+1+(((bH s k).length+1:Nat):Int)))]:=by rw[hst];unfold nK;rw[if_pos h3]
    have hpl:(bH s k++[((⟨(s.sts.getD k st0).st,0⟩:Stp),iR (s.sts.getD k st0).st)]).length=(bH s k).length+1:=by rw[aac];rfl
    refine ei _ (ai (uY) (ei (2*s.act+1+(((bH s k).length+1:Nat):Int)) (ei [] (ai (a4 (ai (fun _=>Or.inl rfl) (ai nof (Or.inl rfl)))) (ai ?_ (ai (by exact trivial) (ai (trivial) ?_)))))))
    ·show IntKind.i64.wrap (IntKind.i64.wrap (IntKind.i64.wrap (2*s.act)+1)+(((bH s k).length+1:Nat):Int))=_
     rw[hw2,tJ (n:=2*s.act+1) (by omega) (by omega),tJ (by omega) (by omega)]
    refine ai (mxL (n:=((bH s k).length+1)+1) (by omega) (by decide)) (ai (lt1 rfl) ?_)
    refine ai (mxL (n:=((bH s k).length+1)+1) (by omega) (by decide)) (ai (lt1 rfl) ?_)
    refine ei (k+1) (ai (ai rfl rfl) (ai (ai (ai rfl (ai (ai rfl rfl) (ai (ai rfl rfl) (ai (ai (ai (ai (fun _=>rfl) (aN (by omega))) rfl) (ai rfl (ai rfl (ai ?_ ?_)))) (ai (ai (ai (ai nof rfl) rfl) (ai (ai (ai nof (ai rfl (fun _ _=>rfl))) rfl) (ai (ai rfl (ai rfl (ai ?_ ?_))) (ai (ai nof rfl) rfl)))) trivial))))) rfl) (ai (ai (iL (by omega)) trivial) (iM (by omega)))))
    all_goals rw[e]
    ·rw[aac,hpl];rfl
    ·exact o9 (fun q=>oo q.2) _ _ hpl.symm (fun j hj=>o9 (fun q=>oo q.2) _ _ rfl (fun _ _=>rfl) ee.symm j hj) rfl
    ·rw[aac,hpl];rfl
    ·exact pO _ _ hpl.symm (fun j hj=>pO _ _ rfl (fun _ _=>bW.rfl' _) (oZ (ae1 _) (.refl _)) j hj) (oZ (.nil _) (.refl _))
   ·have e:bH s (k+1)=bH s k++[(⟨(s.sts.getD k st0).st,0⟩,iR (s.sts.getD k st0).st)]:=by rw[hst];unfold nK;rw[if_neg h3]
    refine ei (k+1) (ai (ai rfl rfl) (ai (ai (ai rfl (ai (ai rfl rfl) (ai (ai rfl rfl) (ai (ai (ai (ai (fun _=>rfl) (aN (by omega))) rfl) (ai rfl (ai rfl (ai ?_ ?_)))) (ai (ai (ai (ai nof rfl) rfl) (ai (ai (ai nof (ai rfl (fun _ _=>rfl))) rfl) (ai (ai rfl (ai rfl (ai ?_ ?_))) (ai (ai nof rfl) rfl)))) trivial))))) rfl) (ai (ai (iL (by omega)) trivial) (iM (by omega)))))
    all_goals rw[e]
    ·rw[aac];rfl
    ·exact o9 (fun q=>oo q.2) _ _ rfl (fun _ _=>rfl) ee.symm
    ·rw[aac];rfl
    ·exact pO _ _ rfl (fun _ _=>bW.rfl' _) (oZ (ae1 _) (.refl _))
 ·obtain rfl:k=s.sts.length:=by omega
  refine ah (p:=24<(bH s s.sts.length).length) (av (by omega)) (fun h4=>?_) (fun h4=>?_)
  ·have e:kY s=5:=by unfold kY;rw[if_neg (fun h=>h h1),if_pos h4]
   refine ai (ai (fun h=>absurd (show false=true from h) (by decide)) ?_) trivial
   show aC _ (ny s)
   rw[ny,e,if_neg (show ¬(5:Int)=0 by decide)]
   exact (ai (ai rfl (ai rfl (ai rfl rfl))) rfl)
  have e0:kY s=0:=by unfold kY;rw[if_neg (fun h=>h h1),if_neg h4]
  have hA:ny s=.tup [ac4 s.act (bH s s.sts.length),iP 0]:=by unfold ny;rw[if_pos e0]
  have hp0:=(hL s.sts.length (afi _)).2
  clear hL
  generalize bH s s.sts.length=p at *
  refine ei (bI.inv { X:=Nat,up:=fun k=>[(9,.s (iA k))],uo:=fun k=>[⟨4,26,[.s (iA s.act),.s (.p false uL),aoD p,aqI p k]⟩],inv:=fun k=>k≤p.length∧(True),meas:=fun k=>p.length-k,x0:=0 }) ?_
  refine ai (ai (ai (by exact (a4 (ai rfl rfl))) (ai ?_ ?_)) rfl) (ai (ai (aef _) ?_) ?_)
  ·exact (ai (ai (fun _=>rfl) (iE (by simp only[zz,reduceCtorEq];rfl))) rfl)
  ·refine (ai (ai (ai (ai nof rfl) rfl) (ai (ai (ai nof (ai rfl (fun _ _=>rfl))) rfl) (ai (ai rfl (ai rfl (ai rfl ?_))) rfl))) trivial)
   exact fun _ _=>bW.rfl' _
  ·trivial
  intro (k:Nat) ⟨hk,_⟩
  refine ah (p:=k<p.length) (av (by omega)) (fun h5=>?_) (fun h5=>?_)
  ·have hw1:IntKind.i64.wrap ((k:Int)+1)=((k+1:Nat):Int):=aN (by omega)
   refine ei (.one 0 (.one 1 (.one 2 (.one 4 (.one 5 (.one 6 (.one 7 (.one 8 (.one 9 (.one 11 (.one 12 (.one 13 (.one 14 (.alt 3 (.one 10 (.one 15 (.one 16 (.one 17 (.one 18 (.one 19 .done)))))) (.alt 10 (.one 3 (.one 15 (.one 16 (.one 17 (.one 18 (.one 19 .done)))))) .stop))))))))))))))) (ai (by kernel_rfl) ?_)
   refine ai (by show ¬(p.length:Int)=0;omega) ?_
   refine ai (ai (abJ _) (by show (k:Int)<(p.length:Int);omega)) ?_
   refine ai (by show k<p.length;exact h5) ?_
   refine ai ?_ (ai ?_ trivial)
   ·refine ai (mxL (n:=k+1) (by omega) (by decide)) (ai (fun j hj=>by
     have hj:j<1:=hj
     obtain rfl:j=0:=by omega
     rfl) ?_)
    refine ei (k+1) (ai (ai rfl rfl) (ai (ai (ai rfl (ai (ai rfl rfl) (ai (ai rfl rfl) (ai (ai (ai (fun _=>rfl) (aN (by omega))) rfl) (ai (ai (ai (ai nof rfl) rfl) (ai (ai (ai nof (ai rfl (fun _ _=>rfl))) rfl) (ai (ai rfl (ai rfl (ai rfl ?_))) (ai rfl (ai rfl (ai rfl ?_)))))) trivial))))) rfl) (ai (ai (iL (by omega)) trivial) (iM (by omega)))))
    ·exact fun _ _=>bW.rfl' _
    refine aag p k ?_
    show [PV.seq 1 (bf 1 [iP (k:Int)]),.seq 1 (bf 1 [iP ((IntKind.i64.wrap ((k:Int)+1)).tmod (p.length:Int))]),(p.getD k jk).2.1,(p.getD k jk).2.2.1,(p.getD k jk).2.2.2]=_
    rw[hw1];rfl
   ·refine ai (mxL (n:=k+1) (by omega) (by decide)) (ai (fun j hj=>by
     have hj:j<1:=hj
     obtain rfl:j=0:=by omega
     rfl) ?_)
    refine ei (k+1) (ai (ai rfl rfl) (ai (ai (ai rfl (ai (ai rfl rfl) (ai (ai rfl rfl) (ai (ai (ai (fun _=>rfl) (aN (by omega))) rfl) (ai (ai (ai (ai nof rfl) rfl) (ai (ai (ai nof (ai rfl (fun _ _=>rfl))) rfl) (ai (ai rfl (ai rfl (ai rfl ?_))) (ai rfl (ai rfl (ai rfl ?_)))))) trivial))))) rfl) (ai (ai (iL (by omega)) trivial) (iM (by omega)))))
    ·exact fun _ _=>bW.rfl' _
    refine aag p k ?_
    show [PV.seq 1 (bf 1 [iP (k:Int)]),.seq 1 (bf 1 [iP ((IntKind.i64.wrap ((k:Int)+1)).tmod (p.length:Int))]),(p.getD k jk).2.1,(p.getD k jk).2.2.1,(p.getD k jk).2.2.2]=_
    rw[hw1];rfl
  ·obtain rfl:k=p.length:=by omega
   refine ai (ai (fun h=>absurd (show false=true from h) (by decide)) ?_) trivial
   show aC _ (ny s)
   rw[hA]
   exact (ai (ai rfl (ai (ai rfl (fun _ _=>rfl)) (ai (ai rfl (fun _ _=>rfl)) (ai rfl (fun _ _=>rfl))))) rfl)
theorem akP (act:Int) {p:List SX} (h:∀q∈p,okX q.2):fQ (ac4 act (p.map abr)) (nU (chX act p)):=by
 unfold ac4 nU chK chX
 rw[akn]
 refine oQ (aZ (.refl _) (aZ aj5 (aZ ?_ (aZ ?_ jo))))
 ·show fQ _ (.seq (p.map (·.1)).length (fun k=>uX ((p.map (·.1)).getD k st0)))
  rw[akn]
  refine fO fun k hk=>?_
  rw[wZ p hk]
  have:(p.map (·.1)).getD k st0=(p.getD k sx0).1:=by
   rw[aaM,aaM,ahO,aa8 hk];rfl
  rw[this]
  exact bW.rfl' _
 ·show fQ _ (.seq ((List.range p.length).map (sV p)).length (fun k=>trK (((List.range p.length).map (sV p)).getD k ak)))
  rw[akn,ar9]
  refine fO fun k hk=>?_
  have e1:((List.range p.length).map (sV p)).getD k ak=sV p k:=by
   rw[aaM,ahO,arx hk];rfl
  rw[e1]
  unfold rA
  rw[wZ p hk,akn]
  have h3:=aky (h _ (aee (bT sx0 hk)))
  exact aZ (acR _) (aZ (acR _) h3)
theorem ajK (s:gy):fQ (ny s) (.tup [nU (ofC s),iP (kY s)]):=by
 unfold ny ofC
 by_cases h:kY s=0
 ·rw[if_pos h,if_pos h,h,abh]
  exact aaw (aZ (akP _ (aif s)) (aZ (.refl _) jo))
 ·rw[if_neg h,if_neg h]
  refine aaw (aZ ?_ (aZ (.refl _) jo))
  exact oQ (aZ (.refl _) (aZ (.nil _) (aZ (.nil _) (aZ (.nil _) jo))))
theorem adn:aM Tryz.prog 19 (iq (fun s:gy=>[uW s]) (fun _=>True) ofP):=aaq afO fun s _=>ajK s
theorem aaH (m:List Bool):fM (cu m)=fM m:=funext fun k=>by unfold fM;rw[sN]
theorem anR (m:List Bool) {k:Nat} (hk:k<m.length) (b:Bool):(cu m).set k b=cu (m.set k b):=by
 unfold cu
 rw[List.set_append_left _ _ hk,ars]
theorem abd (b:Bool):∀{l:List Int} {m:List Bool},iT m.length l→eZ (cu m) l b=cu (eZ m l b)
 | [],_,_=>rfl
 | k :: l,m,h=>by
  show eZ ((cu m).set k.toNat b) l b=cu (eZ (m.set k.toNat b) l b)
  have hk:=h k (amO ..)
  rw[anR m (by omega) b]
  exact abd b fun x hx=>by rw[ars];exact h x (aou _ hx)
theorem aj7 {m:List Bool} {t:kr} (h1:iT m.length t.fr) (h2:iT m.length t.to):mR (cu m) t=cu (mR m t):=by
 unfold mR
 rw[abd false h1,abd true (by rw[iO];exact h2)]
def zi (c:bC) (m:List Bool) (i:Nat):PV:=.tup [uy (bn c m i).1,bP (bn c m i).2]
theorem aax:aM Tryz.prog 61 (iq (fun a:bC×List Bool×Nat=>[kE a.1,uf a.2.1,iA a.2.2]) (fun a=>cK a.1=0∧lF a.1∧a.2.1.length=a.1.sts.length∧a.2.2<a.1.trs.length) (fun a=>zi a.1 a.2.1 a.2.2)):=by
 refine ⟨aj9.1,fun ⟨c,m,i⟩ hp E vs w hg hh hA=>?_⟩
 obtain ⟨hc,ho,hm,hi⟩:=hp
 have hc:cK c=0:=hc
 have hm:m.length=c.sts.length:=hm
 have hi:i<c.trs.length:=hi
 obtain ⟨g1,g2,g3⟩:=oD hc hi
 have h24:=(kG hc).2.2.1.2
 have e1:uf (cu m)=uf m:=by unfold uf uy;rw[aaH]
 have e2:uy (bn c (cu m) i).1=uy (bn c m i).1∧(bn c (cu m) i).2=(bn c m i).2:=by
  unfold bn
  rw[amt]
  split
  ·refine ⟨?_,rfl⟩
   rw[aj7 (by rw[hm];exact g1.2) (by rw[hm];exact g2.2)]
   unfold uy;rw[aaH]
  ·exact ⟨by unfold uy;rw[aaH],rfl⟩
 have key:=aj9.2 (c,cu m,i) ⟨hc,ho,nN (by omega),hi⟩ E vs w hg hh (by
  show jG E vs [kE c,uf (cu m),iA i]
  rw[e1];exact hA)
 refine key.mono fun e w' ⟨v,E',h1,h2,h3⟩=>⟨v,E',h1,?_,h3⟩
 have:PV.tup [uy (bn c (cu m) i).1,bP (bn c (cu m) i).2]=zi c m i:=by unfold zi;rw[e2.1,e2.2]
 show aO _ v (zi c m i)
 rw[←this];exact h2
def dx (m:List Bool):List PV:=dL 24 (fM m)
def aoy (l:List Mk):LV:=.rw 117 24 l.length (fun k=>dx (l.getD k ay).1)
def amP (l:List Mk):LV:=.rws 29 1 l.length (fun k=>[oK (l.getD k ay).2])
def xO (l:List Mk):MK→Option PV
 | .bools b=>if l.any (fun y=>decide (cu y.1=b)) then some (bP true) else none
 | _=>none
def knO (l:List Mk):Ob:=.map (.bools 24) l.length (xO l)
theorem alE {a b:List Bool} (hl:a.length=b.length) (h:cu a=cu b):a=b:=by
 unfold cu at h
 rw[hl] at h
 exact (List.append_inj' h rfl).1
theorem adL {l:List Mk} {m:List Bool} (hl:∀y∈l,y.1.length=m.length):xO l (.bools (cu m))=if qO l m then some (bP true) else none:=by
 unfold xO qO
 have:(l.any fun y=>decide (cu y.1=cu m))=l.any fun y=>decide (y.1=m):=by
  refine aqm.2 ?_
  simp only[aq6,decide_eq_true_eq]
  exact ⟨fun ⟨y,hy,h⟩=>⟨y,hy,alE (hl y hy) h⟩,fun ⟨y,hy,h⟩=>⟨y,hy,by rw[h]⟩⟩
 show (if (l.any fun y=>decide (cu y.1=cu m))=true then some (bP true) else none)=_
 rw[this]
theorem aS (l:List Mk) (x:Mk) (k:MK):qG (xO l) (.bools (cu x.1)) (bP true) k=xO (l++[x]) k:=by
 classical
 unfold qG
 split
 ·rename_i h;subst h
  show some (bP true)=if ((l++[x]).any fun y=>decide (cu y.1=cu x.1))=true then some (bP true) else none
  rw[if_pos (by simp)]
 ·rename_i h
  cases k with
  | bools b=>
   unfold xO
   have:decide (cu x.1=b)=false:=decide_eq_false fun e=>h (by rw[e])
   simp only[List.any_append,arH,List.any_nil,this,arQ]
  | int a=>rfl
  | str a=>rfl
def alW (l:List Mk):PV:=.seq l.length (fun k=>dx (l.getD k ay).1)
def alU (l:List Mk):PV:=.seq l.length (fun k=>[oK (l.getD k ay).2])
def wS (c:bC):PV:=match sW c with
 | some l=>.tup [alW l,alU l,iP 0]
 | none=>.tup [alW [],alU [],iP 12]
theorem aie {n:Nat} (h:0<n) (k:Nat):(qN n).getD k false=(k==0):=by
 unfold qN
 rw[aaM,aru]
 by_cases e:k=0
 ·subst e;rw[if_pos rfl,if_pos (by rw[aq8];exact h)];rfl
 ·rw[if_neg (fun h=>e h.symm),aq0,show (k==0)=false by simpa using e]
  split<;>rfl
theorem ah1 {n:Nat} (h:0<n):fM (qN n)=fM (qN 1):=funext fun k=>by unfold fM;rw[aie h,aie (by decide)]
theorem afV (m:List Bool):takeN 24 (dD 0 (dx m))=some (dL 24 (fM m)):=wV 24 (fM m)
theorem aT (a:List Mk) (x:Mk) {g:Nat→List PV} (hg:g 0=dx x.1):∀k,k<a.length+1→bJ a.length (fun k=>dx (a.getD k ay).1) g k=dx ((a++[x]).getD k ay).1:=by
 intro k hk
 unfold bJ
 by_cases h:k<a.length
 ·rw[if_pos h]
  show dx (a.getD k ay).1=_
  rw[aaM,aaM,aed h]
 ·obtain rfl:k=a.length:=by omega
  rw[if_neg h,aoU,hg,aaM,ae5 (afi _),aoU];rfl
theorem afW {u u':PV} (h:fQ u u'):bW [u] [u']:=by
 refine ⟨rfl,fun k s s' hs hs'=>?_⟩
 match k with
 | 0=>cases hs;cases hs';exact h
 | k+1=>simp at hs
theorem aU (a:List Mk) (x:Mk) {v:PV} (hv:fQ v (oK x.2)):∀k,k<a.length+1→bW (bJ a.length (fun k=>[oK (a.getD k ay).2]) (bf 1 [v]) k) [oK ((a++[x]).getD k ay).2]:=by
 intro k hk
 unfold bJ
 by_cases h:k<a.length
 ·rw[if_pos h]
  refine bW.of ?_
  show [oK (a.getD k ay).2]=_
  rw[aaM,aaM,aed h]
 ·obtain rfl:k=a.length:=by omega
  rw[if_neg h,aoU,aaM,ae5 (afi _),aoU]
  exact afW hv
theorem dw {l:List Int} (h:l.length=0) (k:Nat):fQ (.seq 1 (bf 1 [iP (k:Int)])) (oK (l++[(k:Int)])):=by
 obtain rfl:=amY.1 h
 exact alh rfl fun j hj=>by
  obtain rfl:j=0:=by omega
  rfl
theorem bV (l:List Int) (k:Nat):fQ (.seq (0+l.length+1) (bJ (0+l.length) (bJ 0 (bf 1 []) (fun j=>[iP (l.getD j 0)])) (bf 1 [iP (k:Int)]))) (oK (l++[(k:Int)])):=by
 refine alh (by rw[aac];simp) fun j hj=>ah4 (a:=l) (b:=[(k:Int)]) (afY _) (fun j hj=>acw (n:=l.length) j (by omega)) (fun j hj=>?_) j (by rw[aac];show j<l.length+1;omega)
 have hj:j<1:=hj
 obtain rfl:j=0:=by omega
 rfl
theorem aoh:xO []=fun _=>none:=funext fun k=>by cases k<;>rfl
theorem agm {l:List Mk} {x:Mk} (hl:∀y∈l,y.1.length=x.1.length) (h:qO l x.1=false):xO l (.bools (cu x.1))=none:=by
 rw[adL hl,if_neg (by rw[h];decide)]
set_option maxHeartbeats 16000000 in
theorem ajo:aM Tryz.prog 124 (iq (fun c:bC=>[kE c]) (fun c=>cK c=0∧lF c) wS):=by
 refine iZ [63,3000066] ?_
 refine aW (Tb:=tab) mixed aB Tryz.func124 rfl rfl ?_
 rintro (c:bC) hpre
 refine ai (ai rfl (ai rfl rfl)) ?_
 obtain ⟨hc,ho⟩:=hpre
 have hc:cK c=0:=hc
 have ho:lF c:=ho
 obtain ⟨_,_,⟨b3,b4⟩,b5,_⟩:=kG hc
 refine ai (ai (by decide) (by decide)) ?_
 refine ai (by decide) (ei (fM (qN c.sts.length)) (ai (by rw[ah1 b3];rfl) ?_))
 refine ai rfl (ei (cu (qN c.sts.length)) (ai (ai (nN (by unfold qN;rw[ars,aq8];exact b4)) (fun k _=>by rw[sN];rfl)) ?_))
 refine ei 1 (ai (ai (fun _=>rfl) (fun _ h=>by cases h)) ?_)
 refine ei (bI.inv { X:=Nat×List Mk,up:=fun x=>[(8,.s (iA x.1)),(5,aoy x.2),(6,amP x.2)],uo:=fun x=>[⟨3,0,[.ob (knO x.2)]⟩],inv:=fun x=>x.1≤x.2.length∧x.2.length≤16384∧(nC c x.2∧yw x.1 x.2)∧oU c (16385-x.1) x.2 x.1=sW c,meas:=fun x=>16385-x.1,x0:=(0,mk1 c) }) ?_
 refine ai (ai (ai (by exact (a4 (ai rfl rfl))) (ai ?_ ?_)) ?_) (ai ?_ ?_)
 ·refine (ai (ai (ai (fun _=>rfl) (iE (by simp only[zz,reduceCtorEq];rfl))) rfl) (ai (ai rfl (ai rfl (ai rfl ?_))) (ai rfl (ai rfl (ai rfl ?_)))))
  ·intro k hk
   obtain rfl:k=0:=by omega
   show _=dx (qN c.sts.length)
   unfold dx;rw[ah1 b3];rfl
  ·intro k hk
   have hk:k<1:=hk
   obtain rfl:k=0:=by omega
   exact afW (.nil _)
 ·refine (ai (ai rfl (ai rfl ?_)) trivial)
  intro k
  rw[←aoh]
  exact aS [] (qN c.sts.length,[]) k
 ·rfl
 ·exact ⟨aef _,by show 1≤16384;decide,⟨afl c,fun y hy=>by simp only[mk1,agL] at hy;subst hy;exact aef _⟩,rfl⟩
 rintro ⟨a,l⟩ ⟨hal,hll,⟨hg,hwl⟩,hr⟩
 have hal:a≤l.length:=hal
 have hll:l.length≤16384:=hll
 have hg:nC c l:=hg
 have hwl:yw a l:=hwl
 have hr:oU c (16385-a) l a=sW c:=hr
 refine ah (p:=a<l.length) (av (by dsimp only;omega)) (fun h1=>?_) (fun h1=>?_)
 ·refine ei (bI.inv { X:=Nat,up:=fun k=>[(29,.s (iA k)),(5,aoy (eX c l a k)),(6,amP (eX c l a k))],uo:=fun k=>[⟨3,0,[.ob (knO (eX c l a k))]⟩],inv:=fun k=>k≤c.trs.length∧((eX c l a k).length≤16384),meas:=fun k=>c.trs.length-k,x0:=0 }) ?_
  refine ai (ai (ai (by exact (a4 (ai rfl rfl))) (ai ?_ ?_)) rfl) (ai (ai (aef _) ?_) ?_)
  ·refine (ai (ai (ai (fun _=>rfl) (iE (by simp only[zz,reduceCtorEq];rfl))) rfl) (ai (ai rfl (ai rfl (ai rfl (fun _ _=>rfl)))) (ai rfl (ai rfl (ai rfl ?_)))))
   exact fun k _=>bW.rfl' _
  ·exact (ai (ai rfl (ai rfl (fun _=>rfl))) trivial)
  ·exact hll
  intro (k:Nat) ⟨hk,hkl⟩
  have hgk:=good_row hg h1 hk
  have hways:=adO (c:=c) h1 hwl k
  obtain ⟨t,ht⟩:=su c l a k
  have hak:a<(eX c l a k).length:=by rw[ht,aac];omega
  refine ah (p:=k<c.trs.length) (av (by omega)) (fun h2=>?_) (fun h2=>?_)
  ·have hst:eX c l a (k+1)=jQ c (eX c l a k) a k:=rfl
   have hrun:16384<(eX c l a (k+1)).length→sW c=none:=fun h=>by
    rw[←hr,show 16385-a=(16384-a)+1 by omega]
    exact amx h1 (show k+1≤c.trs.length from h2) h
   generalize eX c l a k=L at *
   have hkl:L.length≤16384:=hkl
   have hga:=hgk _ (aee (bT ay hak))
   have hw:=hways _ (aee (bT ay hak))
   obtain ⟨q1,q2,q3⟩:=oD hc h2
   have hto:=adw ho h2
   have hnl:(aD c L a k).1.length=c.sts.length:=by
    show (mR _ _).length=_
    unfold mR;rw[iO,iO];exact hga.1
   have hln:∀y∈L,y.1.length=(aD c L a k).1.length:=fun y hy=>by rw[hnl];exact (hgk y hy).1
   refine ei (.one 0 (.one 1 (.one 2 (.one 3 (.one 4 (.one 5 (.alt 6 (.one 7 (.one 8 (.one 9 (.one 10 (.one 11 (.one 12 .done)))))) (.alt 10 (.one 6 (.one 7 (.one 8 (.one 9 (.one 11 (.one 12 .done)))))) .stop)))))))) (ai (by kernel_rfl) ?_)
   refine ai (ai (abJ _) (by show (a:Int)<(L.length:Int);omega)) ?_
   refine ai (by show a<L.length;exact hak) (ei (fM (L.getD a ay).1) (ai (afV _) ?_))
   refine ai ?_ (ai ?_ trivial)
   ·refine ei _ (ai (aax) (ei ((c,(L.getD a ay).1,k)) (ei [] (ai (a4 (ai (fun _=>Or.inl rfl) (ai nof (Or.inl rfl)))) (ai (by exact (ai (ai rfl (ai (ai rfl (fun _ _=>rfl)) (ai (ai rfl (fun _ _=>rfl)) (ai rfl (fun _ _=>rfl))))) (ai (ai rfl (fun _ _=>rfl)) rfl))) (ai trivial (ai (⟨hc,ho,hga.1,h2⟩) ?_)))))))
    refine bE (b:=!(bn c (L.getD a ay).1 k).2) rfl (fun h3=>?_) (fun h3=>?_)
    ·have h3:allM (L.getD a ay).1 (xG c k).fr=false:=by
      have h3:(bn c (L.getD a ay).1 k).2=false:=by simpa using h3
      unfold bn at h3
      split at h3
      ·cases h3
      ·rename_i h;exact aqk.2 h
     have e:eX c l a (k+1)=L:=by rw[hst];unfold jQ adds;rw[h3];simp
     refine ei (k+1) (ai (ai rfl rfl) (ai (ai (ai rfl (ai (ai rfl rfl) (ai (ai rfl rfl) (ai (ai (ai (ai (fun _=>rfl) (aN (by omega))) rfl) (ai (ai rfl (ai rfl (ai ?_ ?_))) (ai rfl (ai rfl (ai ?_ ?_))))) (ai (ai rfl (ai ?_ ?_)) trivial))))) rfl) (ai (ai (iL (by omega)) ?_) (iM (by omega)))))
     all_goals rw[e]
     ·exact fun _ _=>rfl
     ·exact fun k _=>bW.rfl' _
     ·exact fun _=>rfl
     ·exact hkl
    have h3:allM (L.getD a ay).1 (xG c k).fr=true:=by
     have h3:(bn c (L.getD a ay).1 k).2=true:=by simpa using h3
     unfold bn at h3
     split at h3
     ·assumption
     ·cases h3
    have hcan:(bn c (L.getD a ay).1 k).1=(aD c L a k).1:=by unfold bn;exact congrArg Prod.fst (if_pos h3)
    have hkey:∀q,q<24→fM (bn c (L.getD a ay).1 k).1 q=.val (.bool ((cu (aD c L a k).1).getD q false)):=fun q _=>by rw[hcan,sN];rfl
    refine ai (ai rfl rfl) (ei (cu (aD c L a k).1) (ai (ai (nN (by omega)) hkey) ?_))
    refine ei (bP (qO L (aD c L a k).1)) (ei (qO L (aD c L a k).1) (ai ?_ ?_))
    ·show (∀d',xO L (.bools (cu (aD c L a k).1))=some d'→_)∧(xO L (.bools (cu (aD c L a k).1))=none→_)
     rw[adL hln]
     cases qO L (aD c L a k).1
     ·exact ⟨fun d' h=>by simp at h,fun _=>⟨rfl,rfl⟩⟩
     ·exact ⟨fun d' h=>by simp at h;exact ⟨h.symm,rfl⟩,fun h=>by simp at h⟩
    refine bE (b:=qO L (aD c L a k).1) rfl (fun h4=>?_) (fun h4=>?_)
    ·have e:eX c l a (k+1)=L:=by rw[hst];unfold jQ adds;rw[h4];simp
     refine ei (k+1) (ai (ai rfl rfl) (ai (ai (ai rfl (ai (ai rfl rfl) (ai (ai rfl rfl) (ai (ai (ai (ai (fun _=>rfl) (aN (by omega))) rfl) (ai (ai rfl (ai rfl (ai ?_ ?_))) (ai rfl (ai rfl (ai ?_ ?_))))) (ai (ai rfl (ai ?_ ?_)) trivial))))) rfl) (ai (ai (iL (by omega)) ?_) (iM (by omega)))))
     all_goals rw[e]
     ·exact fun _ _=>rfl
     ·exact fun k _=>bW.rfl' _
     ·exact fun _=>rfl
     ·exact hkl
    have hn:adds c L a k=true:=by unfold adds;rw[h3,h4];rfl
    have e:eX c l a (k+1)=L++[aD c L a k]:=by rw[hst];unfold jQ;rw[if_pos hn]
    refine ah (p:=L.length=16384) (gD (by omega)) (fun h5=>?_) (fun h5=>?_)
    ·refine ai (ai (fun h=>absurd (show false=true from h) (by decide)) ?_) trivial
     show aC _ (wS c)
     rw[wS,hrun (by rw[e,aac];show 16384<L.length+1;omega)]
     exact (ai rfl (ai rfl rfl))
    refine ai rfl (ei (cu (aD c L a k).1) (ai (ai (nN (by omega)) hkey) ?_))
    refine ei (L.length+1) (ai (ai (fun _=>rfl) (fun d hd=>absurd ((agm hln h4).symm.trans hd) (by simp))) ?_)
    refine ei (.one 0 (.one 1 (.one 4 (.one 5 (.one 6 (.one 7 (.one 10 (.alt 2 (.alt 3 (.one 8 (.altw 9 (.one 11 (.one 12 (.one 13 (.one 14 (.one 15 (.one 16 .done)))))) (.alt 11 (.wr 9 (.one 12 (.one 13 (.one 14 (.one 15 (.one 16 .done)))))) .stop))) (.alt 8 (.alt 3 (.altw 9 (.one 11 (.one 12 (.one 13 (.one 14 (.one 15 (.one 16 .done)))))) (.alt 11 (.wr 9 (.one 12 (.one 13 (.one 14 (.one 15 (.one 16 .done)))))) .stop)) (.alt 11 (.one 3 (.wr 9 (.one 12 (.one 13 (.one 14 (.one 15 (.one 16 .done))))))) .stop)) (.alt 11 (.alt 3 (.one 8 (.wr 9 (.one 12 (.one 13 (.one 14 (.one 15 (.one 16 .done))))))) (.alt 8 (.one 3 (.wr 9 (.one 12 (.one 13 (.one 14 (.one 15 (.one 16 .done))))))) .stop)) .stop))) (.alt 8 (.alt 2 (.alt 3 (.altw 9 (.one 11 (.one 12 (.one 13 (.one 14 (.one 15 (.one 16 .done)))))) (.alt 11 (.wr 9 (.one 12 (.one 13 (.one 14 (.one 15 (.one 16 .done)))))) .stop)) (.alt 11 (.one 3 (.wr 9 (.one 12 (.one 13 (.one 14 (.one 15 (.one 16 .done))))))) .stop)) (.alt 11 (.one 2 (.one 3 (.wr 9 (.one 12 (.one 13 (.one 14 (.one 15 (.one 16 .done)))))))) .stop)) (.alt 11 (.alt 2 (.alt 3 (.one 8 (.wr 9 (.one 12 (.one 13 (.one 14 (.one 15 (.one 16 .done))))))) (.alt 8 (.one 3 (.wr 9 (.one 12 (.one 13 (.one 14 (.one 15 (.one 16 .done))))))) .stop)) (.alt 8 (.one 2 (.one 3 (.wr 9 (.one 12 (.one 13 (.one 14 (.one 15 (.one 16 .done)))))))) .stop)) .stop)))))))))) (ai (by kernel_rfl) ?_)
    refine ai (ai (abJ _) (by show (a:Int)<(L.length:Int);omega)) ?_
    refine ai ?_ ?_
    ·refine ai ?_ ?_
     ·refine ai (mxL (n:=L.length+1) (by omega) (by decide)) (ai (lt1 rfl) ?_)
      refine ai (by show a<L.length;exact hak) ?_
      refine ai ?_ ?_
      ·refine eF mixed aB Tryz.func63 rfl rfl ?_
       refine ai rfl ?_
       intro b hb
       refine bg (fun hb0=>?_) (fun hb0=>?_)
       ·have hb1:(L.getD a ay).2.length=0:=hb hb0
        refine ai (ai (by decide) (by decide)) (ai (aJ 1 rfl) ?_)
        refine ai (mxL (n:=L.length+1) (by omega) (by decide)) (ai (aJ 1 rfl) ?_)
        refine ei (k+1) (ai (ai rfl rfl) (ai (ai (ai rfl (ai (ai rfl rfl) (ai (ai rfl rfl) (ai (ai (ai (ai (fun _=>rfl) (aN (by omega))) rfl) (ai (ai rfl (ai rfl (ai ?_ ?_))) (ai rfl (ai rfl (ai ?_ ?_))))) (ai (ai rfl (ai ?_ ?_)) trivial))))) rfl) (ai (ai (iL (by omega)) ?_) (iM (by omega)))))
        all_goals rw[e]
        ·rw[aac];rfl
        ·exact aT L (aD c L a k) (show dx (bn c (L.getD a ay).1 k).1=_ by rw[hcan])
        ·rw[aac];rfl
        ·exact aU L (aD c L a k) (dw hb1 k)
        ·rw[aac];rfl
        ·exact aS L (aD c L a k)
        ·rw[aac];show L.length+1≤16384;omega
       ·refine ai (mxL (n:=0+(L.getD a ay).2.length) (by omega) (by decide)) (ai (fun _ _=>rfl) ?_)
        refine ai (mxL (n:=0+(L.getD a ay).2.length+1) (by omega) (by decide)) (ai (aJ 1 rfl) ?_)
        refine ai (mxL (n:=L.length+1) (by omega) (by decide)) (ai (aJ 1 rfl) ?_)
        refine ei (k+1) (ai (ai rfl rfl) (ai (ai (ai rfl (ai (ai rfl rfl) (ai (ai rfl rfl) (ai (ai (ai (ai (fun _=>rfl) (aN (by omega))) rfl) (ai (ai rfl (ai rfl (ai ?_ ?_))) (ai rfl (ai rfl (ai ?_ ?_))))) (ai (ai rfl (ai ?_ ?_)) trivial))))) rfl) (ai (ai (iL (by omega)) ?_) (iM (by omega)))))
        all_goals rw[e]
        ·rw[aac];rfl
        ·exact aT L (aD c L a k) (show dx (bn c (L.getD a ay).1 k).1=_ by rw[hcan])
        ·rw[aac];rfl
        ·exact aU L (aD c L a k) (bV (L.getD a ay).2 k)
        ·rw[aac];rfl
        ·exact aS L (aD c L a k)
        ·rw[aac];show L.length+1≤16384;omega
      refine ai ?_ trivial
      refine eF mixed aB Tryz.func63 rfl rfl ?_
      refine ai rfl ?_
      intro b hb
      refine bg (fun hb0=>?_) (fun hb0=>?_)
      ·have hb1:(L.getD a ay).2.length=0:=hb hb0
       refine ai (ai (by decide) (by decide)) (ai (aJ 1 rfl) ?_)
       refine ai (mxL (n:=L.length+1) (by omega) (by decide)) (ai (aJ 1 rfl) ?_)
       refine ei (k+1) (ai (ai rfl rfl) (ai (ai (ai rfl (ai (ai rfl rfl) (ai (ai rfl rfl) (ai (ai (ai (ai (fun _=>rfl) (aN (by omega))) rfl) (ai (ai rfl (ai rfl (ai ?_ ?_))) (ai rfl (ai rfl (ai ?_ ?_))))) (ai (ai rfl (ai ?_ ?_)) trivial))))) rfl) (ai (ai (iL (by omega)) ?_) (iM (by omega)))))
       all_goals rw[e]
       ·rw[aac];rfl
       ·exact aT L (aD c L a k) (show dx (bn c (L.getD a ay).1 k).1=_ by rw[hcan])
       ·rw[aac];rfl
       ·exact aU L (aD c L a k) (dw hb1 k)
       ·rw[aac];rfl
       ·exact aS L (aD c L a k)
       ·rw[aac];show L.length+1≤16384;omega
      ·refine ai (mxL (n:=0+(L.getD a ay).2.length) (by omega) (by decide)) (ai (fun _ _=>rfl) ?_)
       refine ai (mxL (n:=0+(L.getD a ay).2.length+1) (by omega) (by decide)) (ai (aJ 1 rfl) ?_)
       refine ai (mxL (n:=L.length+1) (by omega) (by decide)) (ai (aJ 1 rfl) ?_)
       refine ei (k+1) (ai (ai rfl rfl) (ai (ai (ai rfl (ai (ai rfl rfl) (ai (ai rfl rfl) (ai (ai (ai (ai (fun _=>rfl) (aN (by omega))) rfl) (ai (ai rfl (ai rfl (ai ?_ ?_))) (ai rfl (ai rfl (ai ?_ ?_))))) (ai (ai rfl (ai ?_ ?_)) trivial))))) rfl) (ai (ai (iL (by omega)) ?_) (iM (by omega)))))
       all_goals rw[e]
       ·rw[aac];rfl
       ·exact aT L (aD c L a k) (show dx (bn c (L.getD a ay).1 k).1=_ by rw[hcan])
       ·rw[aac];rfl
       ·exact aU L (aD c L a k) (bV (L.getD a ay).2 k)
       ·rw[aac];rfl
       ·exact aS L (aD c L a k)
       ·rw[aac];show L.length+1≤16384;omega
     refine ai ?_ ?_
     ·refine ai (by show a<L.length;exact hak) ?_
      refine ai ?_ ?_
      ·refine ai (mxL (n:=L.length+1) (by omega) (by decide)) (ai (lt1 rfl) ?_)
       refine ai ?_ ?_
       ·refine eF mixed aB Tryz.func63 rfl rfl ?_
        refine ai rfl ?_
        intro b hb
        refine bg (fun hb0=>?_) (fun hb0=>?_)
        ·have hb1:(L.getD a ay).2.length=0:=hb hb0
         refine ai (ai (by decide) (by decide)) (ai (aJ 1 rfl) ?_)
         refine ai (mxL (n:=L.length+1) (by omega) (by decide)) (ai (aJ 1 rfl) ?_)
         refine ei (k+1) (ai (ai rfl rfl) (ai (ai (ai rfl (ai (ai rfl rfl) (ai (ai rfl rfl) (ai (ai (ai (ai (fun _=>rfl) (aN (by omega))) rfl) (ai (ai rfl (ai rfl (ai ?_ ?_))) (ai rfl (ai rfl (ai ?_ ?_))))) (ai (ai rfl (ai ?_ ?_)) trivial))))) rfl) (ai (ai (iL (by omega)) ?_) (iM (by omega)))))
         all_goals rw[e]
         ·rw[aac];rfl
         ·exact aT L (aD c L a k) (show dx (bn c (L.getD a ay).1 k).1=_ by rw[hcan])
         ·rw[aac];rfl
         ·exact aU L (aD c L a k) (dw hb1 k)
         ·rw[aac];rfl
         ·exact aS L (aD c L a k)
         ·rw[aac];show L.length+1≤16384;omega
        ·refine ai (mxL (n:=0+(L.getD a ay).2.length) (by omega) (by decide)) (ai (fun _ _=>rfl) ?_)
         refine ai (mxL (n:=0+(L.getD a ay).2.length+1) (by omega) (by decide)) (ai (aJ 1 rfl) ?_)
         refine ai (mxL (n:=L.length+1) (by omega) (by decide)) (ai (aJ 1 rfl) ?_)
         refine ei (k+1) (ai (ai rfl rfl) (ai (ai (ai rfl (ai (ai rfl rfl) (ai (ai rfl rfl) (ai (ai (ai (ai (fun _=>rfl) (aN (by omega))) rfl) (ai (ai rfl (ai rfl (ai ?_ ?_))) (ai rfl (ai rfl (ai ?_ ?_))))) (ai (ai rfl (ai ?_ ?_)) trivial))))) rfl) (ai (ai (iL (by omega)) ?_) (iM (by omega)))))
         all_goals rw[e]
         ·rw[aac];rfl
         ·exact aT L (aD c L a k) (show dx (bn c (L.getD a ay).1 k).1=_ by rw[hcan])
         ·rw[aac];rfl
         ·exact aU L (aD c L a k) (bV (L.getD a ay).2 k)
         ·rw[aac];rfl
         ·exact aS L (aD c L a k)
         ·rw[aac];show L.length+1≤16384;omega
       refine ai ?_ trivial
       refine eF mixed aB Tryz.func63 rfl rfl ?_
       refine ai rfl ?_
       intro b hb
       refine bg (fun hb0=>?_) (fun hb0=>?_)
       ·have hb1:(L.getD a ay).2.length=0:=hb hb0
        refine ai (ai (by decide) (by decide)) (ai (aJ 1 rfl) ?_)
        refine ai (mxL (n:=L.length+1) (by omega) (by decide)) (ai (aJ 1 rfl) ?_)
        refine ei (k+1) (ai (ai rfl rfl) (ai (ai (ai rfl (ai (ai rfl rfl) (ai (ai rfl rfl) (ai (ai (ai (ai (fun _=>rfl) (aN (by omega))) rfl) (ai (ai rfl (ai rfl (ai ?_ ?_))) (ai rfl (ai rfl (ai ?_ ?_))))) (ai (ai rfl (ai ?_ ?_)) trivial))))) rfl) (ai (ai (iL (by omega)) ?_) (iM (by omega)))))
        all_goals rw[e]
        ·rw[aac];rfl
        ·exact aT L (aD c L a k) (show dx (bn c (L.getD a ay).1 k).1=_ by rw[hcan])
        ·rw[aac];rfl
        ·exact aU L (aD c L a k) (dw hb1 k)
        ·rw[aac];rfl
        ·exact aS L (aD c L a k)
        ·rw[aac];show L.length+1≤16384;omega
       ·refine ai (mxL (n:=0+(L.getD a ay).2.length) (by omega) (by decide)) (ai (fun _ _=>rfl) ?_)
        refine ai (mxL (n:=0+(L.getD a ay).2.length+1) (by omega) (by decide)) (ai (aJ 1 rfl) ?_)
        refine ai (mxL (n:=L.length+1) (by omega) (by decide)) (ai (aJ 1 rfl) ?_)
        refine ei (k+1) (ai (ai rfl rfl) (ai (ai (ai rfl (ai (ai rfl rfl) (ai (ai rfl rfl) (ai (ai (ai (ai (fun _=>rfl) (aN (by omega))) rfl) (ai (ai rfl (ai rfl (ai ?_ ?_))) (ai rfl (ai rfl (ai ?_ ?_))))) (ai (ai rfl (ai ?_ ?_)) trivial))))) rfl) (ai (ai (iL (by omega)) ?_) (iM (by omega)))))
        all_goals rw[e]
        ·rw[aac];rfl
        ·exact aT L (aD c L a k) (show dx (bn c (L.getD a ay).1 k).1=_ by rw[hcan])
        ·rw[aac];rfl
        ·exact aU L (aD c L a k) (bV (L.getD a ay).2 k)
        ·rw[aac];rfl
        ·exact aS L (aD c L a k)
        ·rw[aac];show L.length+1≤16384;omega
      refine ai ?_ trivial
      refine ai (mxL (n:=L.length+1) (by omega) (by decide)) (ai (lt1 rfl) ?_)
      refine eF mixed aB Tryz.func63 rfl rfl ?_
      refine ai rfl ?_
      intro b hb
      refine bg (fun hb0=>?_) (fun hb0=>?_)
      ·have hb1:(L.getD a ay).2.length=0:=hb hb0
       refine ai (ai (by decide) (by decide)) (ai (aJ 1 rfl) ?_)
       refine ai (mxL (n:=L.length+1) (by omega) (by decide)) (ai (aJ 1 rfl) ?_)
       refine ei (k+1) (ai (ai rfl rfl) (ai (ai (ai rfl (ai (ai rfl rfl) (ai (ai rfl rfl) (ai (ai (ai (ai (fun _=>rfl) (aN (by omega))) rfl) (ai (ai rfl (ai rfl (ai ?_ ?_))) (ai rfl (ai rfl (ai ?_ ?_))))) (ai (ai rfl (ai ?_ ?_)) trivial))))) rfl) (ai (ai (iL (by omega)) ?_) (iM (by omega)))))
       all_goals rw[e]
       ·rw[aac];rfl
       ·exact aT L (aD c L a k) (show dx (bn c (L.getD a ay).1 k).1=_ by rw[hcan])
       ·rw[aac];rfl
       ·exact aU L (aD c L a k) (dw hb1 k)
       ·rw[aac];rfl
       ·exact aS L (aD c L a k)
       ·rw[aac];show L.length+1≤16384;omega
      ·refine ai (mxL (n:=0+(L.getD a ay).2.length) (by omega) (by decide)) (ai (fun _ _=>rfl) ?_)
       refine ai (mxL (n:=0+(L.getD a ay).2.length+1) (by omega) (by decide)) (ai (aJ 1 rfl) ?_)
       refine ai (mxL (n:=L.length+1) (by omega) (by decide)) (ai (aJ 1 rfl) ?_)
       refine ei (k+1) (ai (ai rfl rfl) (ai (ai (ai rfl (ai (ai rfl rfl) (ai (ai rfl rfl) (ai (ai (ai (ai (fun _=>rfl) (aN (by omega))) rfl) (ai (ai rfl (ai rfl (ai ?_ ?_))) (ai rfl (ai rfl (ai ?_ ?_))))) (ai (ai rfl (ai ?_ ?_)) trivial))))) rfl) (ai (ai (iL (by omega)) ?_) (iM (by omega)))))
       all_goals rw[e]
       ·rw[aac];rfl
       ·exact aT L (aD c L a k) (show dx (bn c (L.getD a ay).1 k).1=_ by rw[hcan])
       ·rw[aac];rfl
       ·exact aU L (aD c L a k) (bV (L.getD a ay).2 k)
       ·rw[aac];rfl
       ·exact aS L (aD c L a k)
       ·rw[aac];show L.length+1≤16384;omega
     refine ai ?_ trivial
     refine ai ?_ ?_
     ·refine ai (mxL (n:=L.length+1) (by omega) (by decide)) (ai (lt1 rfl) ?_)
      refine ai (by show a<L.length;exact hak) ?_
      refine eF mixed aB Tryz.func63 rfl rfl ?_
      refine ai rfl ?_
      intro b hb
      refine bg (fun hb0=>?_) (fun hb0=>?_)
      ·have hb1:(L.getD a ay).2.length=0:=hb hb0
       refine ai (ai (by decide) (by decide)) (ai (aJ 1 rfl) ?_)
       refine ai (mxL (n:=L.length+1) (by omega) (by decide)) (ai (aJ 1 rfl) ?_)
       refine ei (k+1) (ai (ai rfl rfl) (ai (ai (ai rfl (ai (ai rfl rfl) (ai (ai rfl rfl) (ai (ai (ai (ai (fun _=>rfl) (aN (by omega))) rfl) (ai (ai rfl (ai rfl (ai ?_ ?_))) (ai rfl (ai rfl (ai ?_ ?_))))) (ai (ai rfl (ai ?_ ?_)) trivial))))) rfl) (ai (ai (iL (by omega)) ?_) (iM (by omega)))))
       all_goals rw[e]
       ·rw[aac];rfl
       ·exact aT L (aD c L a k) (show dx (bn c (L.getD a ay).1 k).1=_ by rw[hcan])
       ·rw[aac];rfl
       ·exact aU L (aD c L a k) (dw hb1 k)
       ·rw[aac];rfl
       ·exact aS L (aD c L a k)
       ·rw[aac];show L.length+1≤16384;omega
      ·refine ai (mxL (n:=0+(L.getD a ay).2.length) (by omega) (by decide)) (ai (fun _ _=>rfl) ?_)
       refine ai (mxL (n:=0+(L.getD a ay).2.length+1) (by omega) (by decide)) (ai (aJ 1 rfl) ?_)
       refine ai (mxL (n:=L.length+1) (by omega) (by decide)) (ai (aJ 1 rfl) ?_)
       refine ei (k+1) (ai (ai rfl rfl) (ai (ai (ai rfl (ai (ai rfl rfl) (ai (ai rfl rfl) (ai (ai (ai (ai (fun _=>rfl) (aN (by omega))) rfl) (ai (ai rfl (ai rfl (ai ?_ ?_))) (ai rfl (ai rfl (ai ?_ ?_))))) (ai (ai rfl (ai ?_ ?_)) trivial))))) rfl) (ai (ai (iL (by omega)) ?_) (iM (by omega)))))
       all_goals rw[e]
       ·rw[aac];rfl
       ·exact aT L (aD c L a k) (show dx (bn c (L.getD a ay).1 k).1=_ by rw[hcan])
       ·rw[aac];rfl
       ·exact aU L (aD c L a k) (bV (L.getD a ay).2 k)
       ·rw[aac];rfl
       ·exact aS L (aD c L a k)
       ·rw[aac];show L.length+1≤16384;omega
     refine ai ?_ trivial
     refine ai (by show a<L.length;exact hak) ?_
     refine ai (mxL (n:=L.length+1) (by omega) (by decide)) (ai (lt1 rfl) ?_)
     refine eF mixed aB Tryz.func63 rfl rfl ?_
     refine ai rfl ?_
     intro b hb
     refine bg (fun hb0=>?_) (fun hb0=>?_)
     ·have hb1:(L.getD a ay).2.length=0:=hb hb0
      refine ai (ai (by decide) (by decide)) (ai (aJ 1 rfl) ?_)
      refine ai (mxL (n:=L.length+1) (by omega) (by decide)) (ai (aJ 1 rfl) ?_)
      refine ei (k+1) (ai (ai rfl rfl) (ai (ai (ai rfl (ai (ai rfl rfl) (ai (ai rfl rfl) (ai (ai (ai (ai (fun _=>rfl) (aN (by omega))) rfl) (ai (ai rfl (ai rfl (ai ?_ ?_))) (ai rfl (ai rfl (ai ?_ ?_))))) (ai (ai rfl (ai ?_ ?_)) trivial))))) rfl) (ai (ai (iL (by omega)) ?_) (iM (by omega)))))
      all_goals rw[e]
      ·rw[aac];rfl
      ·exact aT L (aD c L a k) (show dx (bn c (L.getD a ay).1 k).1=_ by rw[hcan])
      ·rw[aac];rfl
      ·exact aU L (aD c L a k) (dw hb1 k)
      ·rw[aac];rfl
      ·exact aS L (aD c L a k)
      ·rw[aac];show L.length+1≤16384;omega
     ·refine ai (mxL (n:=0+(L.getD a ay).2.length) (by omega) (by decide)) (ai (fun _ _=>rfl) ?_)
      refine ai (mxL (n:=0+(L.getD a ay).2.length+1) (by omega) (by decide)) (ai (aJ 1 rfl) ?_)
      refine ai (mxL (n:=L.length+1) (by omega) (by decide)) (ai (aJ 1 rfl) ?_)
      refine ei (k+1) (ai (ai rfl rfl) (ai (ai (ai rfl (ai (ai rfl rfl) (ai (ai rfl rfl) (ai (ai (ai (ai (fun _=>rfl) (aN (by omega))) rfl) (ai (ai rfl (ai rfl (ai ?_ ?_))) (ai rfl (ai rfl (ai ?_ ?_))))) (ai (ai rfl (ai ?_ ?_)) trivial))))) rfl) (ai (ai (iL (by omega)) ?_) (iM (by omega)))))
      all_goals rw[e]
      ·rw[aac];rfl
      ·exact aT L (aD c L a k) (show dx (bn c (L.getD a ay).1 k).1=_ by rw[hcan])
      ·rw[aac];rfl
      ·exact aU L (aD c L a k) (bV (L.getD a ay).2 k)
      ·rw[aac];rfl
      ·exact aS L (aD c L a k)
      ·rw[aac];show L.length+1≤16384;omega
    refine ai ?_ ?_
    ·refine ai (by show a<L.length;exact hak) ?_
     refine ai ?_ ?_
     ·refine ai ?_ ?_
      ·refine ai (mxL (n:=L.length+1) (by omega) (by decide)) (ai (lt1 rfl) ?_)
       refine ai ?_ ?_
       ·refine eF mixed aB Tryz.func63 rfl rfl ?_
        refine ai rfl ?_
        intro b hb
        refine bg (fun hb0=>?_) (fun hb0=>?_)
        ·have hb1:(L.getD a ay).2.length=0:=hb hb0
         refine ai (ai (by decide) (by decide)) (ai (aJ 1 rfl) ?_)
         refine ai (mxL (n:=L.length+1) (by omega) (by decide)) (ai (aJ 1 rfl) ?_)
         refine ei (k+1) (ai (ai rfl rfl) (ai (ai (ai rfl (ai (ai rfl rfl) (ai (ai rfl rfl) (ai (ai (ai (ai (fun _=>rfl) (aN (by omega))) rfl) (ai (ai rfl (ai rfl (ai ?_ ?_))) (ai rfl (ai rfl (ai ?_ ?_))))) (ai (ai rfl (ai ?_ ?_)) trivial))))) rfl) (ai (ai (iL (by omega)) ?_) (iM (by omega)))))
         all_goals rw[e]
         ·rw[aac];rfl
         ·exact aT L (aD c L a k) (show dx (bn c (L.getD a ay).1 k).1=_ by rw[hcan])
         ·rw[aac];rfl
         ·exact aU L (aD c L a k) (dw hb1 k)
         ·rw[aac];rfl
         ·exact aS L (aD c L a k)
         ·rw[aac];show L.length+1≤16384;omega
        ·refine ai (mxL (n:=0+(L.getD a ay).2.length) (by omega) (by decide)) (ai (fun _ _=>rfl) ?_)
         refine ai (mxL (n:=0+(L.getD a ay).2.length+1) (by omega) (by decide)) (ai (aJ 1 rfl) ?_)
         refine ai (mxL (n:=L.length+1) (by omega) (by decide)) (ai (aJ 1 rfl) ?_)
         refine ei (k+1) (ai (ai rfl rfl) (ai (ai (ai rfl (ai (ai rfl rfl) (ai (ai rfl rfl) (ai (ai (ai (ai (fun _=>rfl) (aN (by omega))) rfl) (ai (ai rfl (ai rfl (ai ?_ ?_))) (ai rfl (ai rfl (ai ?_ ?_))))) (ai (ai rfl (ai ?_ ?_)) trivial))))) rfl) (ai (ai (iL (by omega)) ?_) (iM (by omega)))))
         all_goals rw[e]
         ·rw[aac];rfl
         ·exact aT L (aD c L a k) (show dx (bn c (L.getD a ay).1 k).1=_ by rw[hcan])
         ·rw[aac];rfl
         ·exact aU L (aD c L a k) (bV (L.getD a ay).2 k)
         ·rw[aac];rfl
         ·exact aS L (aD c L a k)
         ·rw[aac];show L.length+1≤16384;omega
       refine ai ?_ trivial
       refine eF mixed aB Tryz.func63 rfl rfl ?_
       refine ai rfl ?_
       intro b hb
       refine bg (fun hb0=>?_) (fun hb0=>?_)
       ·have hb1:(L.getD a ay).2.length=0:=hb hb0
        refine ai (ai (by decide) (by decide)) (ai (aJ 1 rfl) ?_)
        refine ai (mxL (n:=L.length+1) (by omega) (by decide)) (ai (aJ 1 rfl) ?_)
        refine ei (k+1) (ai (ai rfl rfl) (ai (ai (ai rfl (ai (ai rfl rfl) (ai (ai rfl rfl) (ai (ai (ai (ai (fun _=>rfl) (aN (by omega))) rfl) (ai (ai rfl (ai rfl (ai ?_ ?_))) (ai rfl (ai rfl (ai ?_ ?_))))) (ai (ai rfl (ai ?_ ?_)) trivial))))) rfl) (ai (ai (iL (by omega)) ?_) (iM (by omega)))))
        all_goals rw[e]
        ·rw[aac];rfl
        ·exact aT L (aD c L a k) (show dx (bn c (L.getD a ay).1 k).1=_ by rw[hcan])
        ·rw[aac];rfl
        ·exact aU L (aD c L a k) (dw hb1 k)
        ·rw[aac];rfl
        ·exact aS L (aD c L a k)
        ·rw[aac];show L.length+1≤16384;omega
       ·refine ai (mxL (n:=0+(L.getD a ay).2.length) (by omega) (by decide)) (ai (fun _ _=>rfl) ?_)
        refine ai (mxL (n:=0+(L.getD a ay).2.length+1) (by omega) (by decide)) (ai (aJ 1 rfl) ?_)
        refine ai (mxL (n:=L.length+1) (by omega) (by decide)) (ai (aJ 1 rfl) ?_)
        refine ei (k+1) (ai (ai rfl rfl) (ai (ai (ai rfl (ai (ai rfl rfl) (ai (ai rfl rfl) (ai (ai (ai (ai (fun _=>rfl) (aN (by omega))) rfl) (ai (ai rfl (ai rfl (ai ?_ ?_))) (ai rfl (ai rfl (ai ?_ ?_))))) (ai (ai rfl (ai ?_ ?_)) trivial))))) rfl) (ai (ai (iL (by omega)) ?_) (iM (by omega)))))
        all_goals rw[e]
        ·rw[aac];rfl
        ·exact aT L (aD c L a k) (show dx (bn c (L.getD a ay).1 k).1=_ by rw[hcan])
        ·rw[aac];rfl
        ·exact aU L (aD c L a k) (bV (L.getD a ay).2 k)
        ·rw[aac];rfl
        ·exact aS L (aD c L a k)
        ·rw[aac];show L.length+1≤16384;omega
      refine ai ?_ trivial
      refine ai (mxL (n:=L.length+1) (by omega) (by decide)) (ai (lt1 rfl) ?_)
      refine eF mixed aB Tryz.func63 rfl rfl ?_
      refine ai rfl ?_
      intro b hb
      refine bg (fun hb0=>?_) (fun hb0=>?_)
      ·have hb1:(L.getD a ay).2.length=0:=hb hb0
       refine ai (ai (by decide) (by decide)) (ai (aJ 1 rfl) ?_)
       refine ai (mxL (n:=L.length+1) (by omega) (by decide)) (ai (aJ 1 rfl) ?_)
       refine ei (k+1) (ai (ai rfl rfl) (ai (ai (ai rfl (ai (ai rfl rfl) (ai (ai rfl rfl) (ai (ai (ai (ai (fun _=>rfl) (aN (by omega))) rfl) (ai (ai rfl (ai rfl (ai ?_ ?_))) (ai rfl (ai rfl (ai ?_ ?_))))) (ai (ai rfl (ai ?_ ?_)) trivial))))) rfl) (ai (ai (iL (by omega)) ?_) (iM (by omega)))))
       all_goals rw[e]
       ·rw[aac];rfl
       ·exact aT L (aD c L a k) (show dx (bn c (L.getD a ay).1 k).1=_ by rw[hcan])
       ·rw[aac];rfl
       ·exact aU L (aD c L a k) (dw hb1 k)
       ·rw[aac];rfl
       ·exact aS L (aD c L a k)
       ·rw[aac];show L.length+1≤16384;omega
      ·refine ai (mxL (n:=0+(L.getD a ay).2.length) (by omega) (by decide)) (ai (fun _ _=>rfl) ?_)
       refine ai (mxL (n:=0+(L.getD a ay).2.length+1) (by omega) (by decide)) (ai (aJ 1 rfl) ?_)
       refine ai (mxL (n:=L.length+1) (by omega) (by decide)) (ai (aJ 1 rfl) ?_)
       refine ei (k+1) (ai (ai rfl rfl) (ai (ai (ai rfl (ai (ai rfl rfl) (ai (ai rfl rfl) (ai (ai (ai (ai (fun _=>rfl) (aN (by omega))) rfl) (ai (ai rfl (ai rfl (ai ?_ ?_))) (ai rfl (ai rfl (ai ?_ ?_))))) (ai (ai rfl (ai ?_ ?_)) trivial))))) rfl) (ai (ai (iL (by omega)) ?_) (iM (by omega)))))
       all_goals rw[e]
       ·rw[aac];rfl
       ·exact aT L (aD c L a k) (show dx (bn c (L.getD a ay).1 k).1=_ by rw[hcan])
       ·rw[aac];rfl
       ·exact aU L (aD c L a k) (bV (L.getD a ay).2 k)
       ·rw[aac];rfl
       ·exact aS L (aD c L a k)
       ·rw[aac];show L.length+1≤16384;omega
     refine ai ?_ trivial
     refine ai (mxL (n:=L.length+1) (by omega) (by decide)) (ai (lt1 rfl) ?_)
     refine eF mixed aB Tryz.func63 rfl rfl ?_
     refine ai rfl ?_
     intro b hb
     refine bg (fun hb0=>?_) (fun hb0=>?_)
     ·have hb1:(L.getD a ay).2.length=0:=hb hb0
      refine ai (ai (by decide) (by decide)) (ai (aJ 1 rfl) ?_)
      refine ai (mxL (n:=L.length+1) (by omega) (by decide)) (ai (aJ 1 rfl) ?_)
      refine ei (k+1) (ai (ai rfl rfl) (ai (ai (ai rfl (ai (ai rfl rfl) (ai (ai rfl rfl) (ai (ai (ai (ai (fun _=>rfl) (aN (by omega))) rfl) (ai (ai rfl (ai rfl (ai ?_ ?_))) (ai rfl (ai rfl (ai ?_ ?_))))) (ai (ai rfl (ai ?_ ?_)) trivial))))) rfl) (ai (ai (iL (by omega)) ?_) (iM (by omega)))))
      all_goals rw[e]
      ·rw[aac];rfl
      ·exact aT L (aD c L a k) (show dx (bn c (L.getD a ay).1 k).1=_ by rw[hcan])
      ·rw[aac];rfl
      ·exact aU L (aD c L a k) (dw hb1 k)
      ·rw[aac];rfl
      ·exact aS L (aD c L a k)
      ·rw[aac];show L.length+1≤16384;omega
     ·refine ai (mxL (n:=0+(L.getD a ay).2.length) (by omega) (by decide)) (ai (fun _ _=>rfl) ?_)
      refine ai (mxL (n:=0+(L.getD a ay).2.length+1) (by omega) (by decide)) (ai (aJ 1 rfl) ?_)
      refine ai (mxL (n:=L.length+1) (by omega) (by decide)) (ai (aJ 1 rfl) ?_)
      refine ei (k+1) (ai (ai rfl rfl) (ai (ai (ai rfl (ai (ai rfl rfl) (ai (ai rfl rfl) (ai (ai (ai (ai (fun _=>rfl) (aN (by omega))) rfl) (ai (ai rfl (ai rfl (ai ?_ ?_))) (ai rfl (ai rfl (ai ?_ ?_))))) (ai (ai rfl (ai ?_ ?_)) trivial))))) rfl) (ai (ai (iL (by omega)) ?_) (iM (by omega)))))
      all_goals rw[e]
      ·rw[aac];rfl
      ·exact aT L (aD c L a k) (show dx (bn c (L.getD a ay).1 k).1=_ by rw[hcan])
      ·rw[aac];rfl
      ·exact aU L (aD c L a k) (bV (L.getD a ay).2 k)
      ·rw[aac];rfl
      ·exact aS L (aD c L a k)
      ·rw[aac];show L.length+1≤16384;omega
    refine ai ?_ trivial
    refine ai ?_ ?_
    ·refine ai ?_ ?_
     ·refine ai (mxL (n:=L.length+1) (by omega) (by decide)) (ai (lt1 rfl) ?_)
      refine ai (by show a<L.length;exact hak) ?_
      refine eF mixed aB Tryz.func63 rfl rfl ?_
      refine ai rfl ?_
      intro b hb
      refine bg (fun hb0=>?_) (fun hb0=>?_)
      ·have hb1:(L.getD a ay).2.length=0:=hb hb0
       refine ai (ai (by decide) (by decide)) (ai (aJ 1 rfl) ?_)
       refine ai (mxL (n:=L.length+1) (by omega) (by decide)) (ai (aJ 1 rfl) ?_)
       refine ei (k+1) (ai (ai rfl rfl) (ai (ai (ai rfl (ai (ai rfl rfl) (ai (ai rfl rfl) (ai (ai (ai (ai (fun _=>rfl) (aN (by omega))) rfl) (ai (ai rfl (ai rfl (ai ?_ ?_))) (ai rfl (ai rfl (ai ?_ ?_))))) (ai (ai rfl (ai ?_ ?_)) trivial))))) rfl) (ai (ai (iL (by omega)) ?_) (iM (by omega)))))
       all_goals rw[e]
       ·rw[aac];rfl
       ·exact aT L (aD c L a k) (show dx (bn c (L.getD a ay).1 k).1=_ by rw[hcan])
       ·rw[aac];rfl
       ·exact aU L (aD c L a k) (dw hb1 k)
       ·rw[aac];rfl
       ·exact aS L (aD c L a k)
       ·rw[aac];show L.length+1≤16384;omega
      ·refine ai (mxL (n:=0+(L.getD a ay).2.length) (by omega) (by decide)) (ai (fun _ _=>rfl) ?_)
       refine ai (mxL (n:=0+(L.getD a ay).2.length+1) (by omega) (by decide)) (ai (aJ 1 rfl) ?_)
       refine ai (mxL (n:=L.length+1) (by omega) (by decide)) (ai (aJ 1 rfl) ?_)
       refine ei (k+1) (ai (ai rfl rfl) (ai (ai (ai rfl (ai (ai rfl rfl) (ai (ai rfl rfl) (ai (ai (ai (ai (fun _=>rfl) (aN (by omega))) rfl) (ai (ai rfl (ai rfl (ai ?_ ?_))) (ai rfl (ai rfl (ai ?_ ?_))))) (ai (ai rfl (ai ?_ ?_)) trivial))))) rfl) (ai (ai (iL (by omega)) ?_) (iM (by omega)))))
       all_goals rw[e]
       ·rw[aac];rfl
       ·exact aT L (aD c L a k) (show dx (bn c (L.getD a ay).1 k).1=_ by rw[hcan])
       ·rw[aac];rfl
       ·exact aU L (aD c L a k) (bV (L.getD a ay).2 k)
       ·rw[aac];rfl
       ·exact aS L (aD c L a k)
       ·rw[aac];show L.length+1≤16384;omega
     refine ai ?_ trivial
     refine ai (by show a<L.length;exact hak) ?_
     refine ai (mxL (n:=L.length+1) (by omega) (by decide)) (ai (lt1 rfl) ?_)
     refine eF mixed aB Tryz.func63 rfl rfl ?_
     refine ai rfl ?_
     intro b hb
     refine bg (fun hb0=>?_) (fun hb0=>?_)
     ·have hb1:(L.getD a ay).2.length=0:=hb hb0
      refine ai (ai (by decide) (by decide)) (ai (aJ 1 rfl) ?_)
      refine ai (mxL (n:=L.length+1) (by omega) (by decide)) (ai (aJ 1 rfl) ?_)
      refine ei (k+1) (ai (ai rfl rfl) (ai (ai (ai rfl (ai (ai rfl rfl) (ai (ai rfl rfl) (ai (ai (ai (ai (fun _=>rfl) (aN (by omega))) rfl) (ai (ai rfl (ai rfl (ai ?_ ?_))) (ai rfl (ai rfl (ai ?_ ?_))))) (ai (ai rfl (ai ?_ ?_)) trivial))))) rfl) (ai (ai (iL (by omega)) ?_) (iM (by omega)))))
      all_goals rw[e]
      ·rw[aac];rfl
      ·exact aT L (aD c L a k) (show dx (bn c (L.getD a ay).1 k).1=_ by rw[hcan])
      ·rw[aac];rfl
      ·exact aU L (aD c L a k) (dw hb1 k)
      ·rw[aac];rfl
      ·exact aS L (aD c L a k)
      ·rw[aac];show L.length+1≤16384;omega
     ·refine ai (mxL (n:=0+(L.getD a ay).2.length) (by omega) (by decide)) (ai (fun _ _=>rfl) ?_)
      refine ai (mxL (n:=0+(L.getD a ay).2.length+1) (by omega) (by decide)) (ai (aJ 1 rfl) ?_)
      refine ai (mxL (n:=L.length+1) (by omega) (by decide)) (ai (aJ 1 rfl) ?_)
      refine ei (k+1) (ai (ai rfl rfl) (ai (ai (ai rfl (ai (ai rfl rfl) (ai (ai rfl rfl) (ai (ai (ai (ai (fun _=>rfl) (aN (by omega))) rfl) (ai (ai rfl (ai rfl (ai ?_ ?_))) (ai rfl (ai rfl (ai ?_ ?_))))) (ai (ai rfl (ai ?_ ?_)) trivial))))) rfl) (ai (ai (iL (by omega)) ?_) (iM (by omega)))))
      all_goals rw[e]
      ·rw[aac];rfl
      ·exact aT L (aD c L a k) (show dx (bn c (L.getD a ay).1 k).1=_ by rw[hcan])
      ·rw[aac];rfl
      ·exact aU L (aD c L a k) (bV (L.getD a ay).2 k)
      ·rw[aac];rfl
      ·exact aS L (aD c L a k)
      ·rw[aac];show L.length+1≤16384;omega
    refine ai ?_ trivial
    refine ai (by show a<L.length;exact hak) ?_
    refine ai (mxL (n:=L.length+1) (by omega) (by decide)) (ai (lt1 rfl) ?_)
    refine eF mixed aB Tryz.func63 rfl rfl ?_
    refine ai rfl ?_
    intro b hb
    refine bg (fun hb0=>?_) (fun hb0=>?_)
    ·have hb1:(L.getD a ay).2.length=0:=hb hb0
     refine ai (ai (by decide) (by decide)) (ai (aJ 1 rfl) ?_)
     refine ai (mxL (n:=L.length+1) (by omega) (by decide)) (ai (aJ 1 rfl) ?_)
     refine ei (k+1) (ai (ai rfl rfl) (ai (ai (ai rfl (ai (ai rfl rfl) (ai (ai rfl rfl) (ai (ai (ai (ai (fun _=>rfl) (aN (by omega))) rfl) (ai (ai rfl (ai rfl (ai ?_ ?_))) (ai rfl (ai rfl (ai ?_ ?_))))) (ai (ai rfl (ai ?_ ?_)) trivial))))) rfl) (ai (ai (iL (by omega)) ?_) (iM (by omega)))))
     all_goals rw[e]
     ·rw[aac];rfl
     ·exact aT L (aD c L a k) (show dx (bn c (L.getD a ay).1 k).1=_ by rw[hcan])
     ·rw[aac];rfl
     ·exact aU L (aD c L a k) (dw hb1 k)
     ·rw[aac];rfl
     ·exact aS L (aD c L a k)
     ·rw[aac];show L.length+1≤16384;omega
    ·refine ai (mxL (n:=0+(L.getD a ay).2.length) (by omega) (by decide)) (ai (fun _ _=>rfl) ?_)
     refine ai (mxL (n:=0+(L.getD a ay).2.length+1) (by omega) (by decide)) (ai (aJ 1 rfl) ?_)
     refine ai (mxL (n:=L.length+1) (by omega) (by decide)) (ai (aJ 1 rfl) ?_)
     refine ei (k+1) (ai (ai rfl rfl) (ai (ai (ai rfl (ai (ai rfl rfl) (ai (ai rfl rfl) (ai (ai (ai (ai (fun _=>rfl) (aN (by omega))) rfl) (ai (ai rfl (ai rfl (ai ?_ ?_))) (ai rfl (ai rfl (ai ?_ ?_))))) (ai (ai rfl (ai ?_ ?_)) trivial))))) rfl) (ai (ai (iL (by omega)) ?_) (iM (by omega)))))
     all_goals rw[e]
     ·rw[aac];rfl
     ·exact aT L (aD c L a k) (show dx (bn c (L.getD a ay).1 k).1=_ by rw[hcan])
     ·rw[aac];rfl
     ·exact aU L (aD c L a k) (bV (L.getD a ay).2 k)
     ·rw[aac];rfl
     ·exact aS L (aD c L a k)
     ·rw[aac];show L.length+1≤16384;omega
   ·refine ei _ (ai (aax) (ei ((c,(L.getD a ay).1,k)) (ei [] (ai (a4 (ai (fun _=>Or.inl rfl) (ai nof (Or.inl rfl)))) (ai (by exact (ai (ai rfl (ai (ai rfl (fun _ _=>rfl)) (ai (ai rfl (fun _ _=>rfl)) (ai rfl (fun _ _=>rfl))))) (ai (ai rfl (fun _ _=>rfl)) rfl))) (ai trivial (ai (⟨hc,ho,hga.1,h2⟩) ?_)))))))
    refine bE (b:=!(bn c (L.getD a ay).1 k).2) rfl (fun h3=>?_) (fun h3=>?_)
    ·have h3:allM (L.getD a ay).1 (xG c k).fr=false:=by
      have h3:(bn c (L.getD a ay).1 k).2=false:=by simpa using h3
      unfold bn at h3
      split at h3
      ·cases h3
      ·rename_i h;exact aqk.2 h
     have e:eX c l a (k+1)=L:=by rw[hst];unfold jQ adds;rw[h3];simp
     refine ei (k+1) (ai (ai rfl rfl) (ai (ai (ai rfl (ai (ai rfl rfl) (ai (ai rfl rfl) (ai (ai (ai (ai (fun _=>rfl) (aN (by omega))) rfl) (ai (ai rfl (ai rfl (ai ?_ ?_))) (ai rfl (ai rfl (ai ?_ ?_))))) (ai (ai rfl (ai ?_ ?_)) trivial))))) rfl) (ai (ai (iL (by omega)) ?_) (iM (by omega)))))
     all_goals rw[e]
     ·exact fun _ _=>rfl
     ·exact fun k _=>bW.rfl' _
     ·exact fun _=>rfl
     ·exact hkl
    have h3:allM (L.getD a ay).1 (xG c k).fr=true:=by
     have h3:(bn c (L.getD a ay).1 k).2=true:=by simpa using h3
     unfold bn at h3
     split at h3
     ·assumption
     ·cases h3
    have hcan:(bn c (L.getD a ay).1 k).1=(aD c L a k).1:=by unfold bn;exact congrArg Prod.fst (if_pos h3)
    have hkey:∀q,q<24→fM (bn c (L.getD a ay).1 k).1 q=.val (.bool ((cu (aD c L a k).1).getD q false)):=fun q _=>by rw[hcan,sN];rfl
    refine ai (ai rfl rfl) (ei (cu (aD c L a k).1) (ai (ai (nN (by omega)) hkey) ?_))
    refine ei (bP (qO L (aD c L a k).1)) (ei (qO L (aD c L a k).1) (ai ?_ ?_))
    ·show (∀d',xO L (.bools (cu (aD c L a k).1))=some d'→_)∧(xO L (.bools (cu (aD c L a k).1))=none→_)
     rw[adL hln]
     cases qO L (aD c L a k).1
     ·exact ⟨fun d' h=>by simp at h,fun _=>⟨rfl,rfl⟩⟩
     ·exact ⟨fun d' h=>by simp at h;exact ⟨h.symm,rfl⟩,fun h=>by simp at h⟩
    refine bE (b:=qO L (aD c L a k).1) rfl (fun h4=>?_) (fun h4=>?_)
    ·have e:eX c l a (k+1)=L:=by rw[hst];unfold jQ adds;rw[h4];simp
     refine ei (k+1) (ai (ai rfl rfl) (ai (ai (ai rfl (ai (ai rfl rfl) (ai (ai rfl rfl) (ai (ai (ai (ai (fun _=>rfl) (aN (by omega))) rfl) (ai (ai rfl (ai rfl (ai ?_ ?_))) (ai rfl (ai rfl (ai ?_ ?_))))) (ai (ai rfl (ai ?_ ?_)) trivial))))) rfl) (ai (ai (iL (by omega)) ?_) (iM (by omega)))))
     all_goals rw[e]
     ·exact fun _ _=>rfl
     ·exact fun k _=>bW.rfl' _
     ·exact fun _=>rfl
     ·exact hkl
    have hn:adds c L a k=true:=by unfold adds;rw[h3,h4];rfl
    have e:eX c l a (k+1)=L++[aD c L a k]:=by rw[hst];unfold jQ;rw[if_pos hn]
    refine ah (p:=L.length=16384) (gD (by omega)) (fun h5=>?_) (fun h5=>?_)
    ·refine ai (ai (fun h=>absurd (show false=true from h) (by decide)) ?_) trivial
     show aC _ (wS c)
     rw[wS,hrun (by rw[e,aac];show 16384<L.length+1;omega)]
     exact (ai rfl (ai rfl rfl))
    refine ai rfl (ei (cu (aD c L a k).1) (ai (ai (nN (by omega)) hkey) ?_))
    refine ei (L.length+1) (ai (ai (fun _=>rfl) (fun d hd=>absurd ((agm hln h4).symm.trans hd) (by simp))) ?_)
    refine ei (.one 0 (.one 1 (.one 4 (.one 5 (.one 6 (.one 7 (.one 10 (.alt 2 (.alt 3 (.one 8 (.altw 9 (.one 11 (.one 12 (.one 13 (.one 14 (.one 15 (.one 16 .done)))))) (.alt 11 (.wr 9 (.one 12 (.one 13 (.one 14 (.one 15 (.one 16 .done)))))) .stop))) (.alt 8 (.alt 3 (.altw 9 (.one 11 (.one 12 (.one 13 (.one 14 (.one 15 (.one 16 .done)))))) (.alt 11 (.wr 9 (.one 12 (.one 13 (.one 14 (.one 15 (.one 16 .done)))))) .stop)) (.alt 11 (.one 3 (.wr 9 (.one 12 (.one 13 (.one 14 (.one 15 (.one 16 .done))))))) .stop)) (.alt 11 (.alt 3 (.one 8 (.wr 9 (.one 12 (.one 13 (.one 14 (.one 15 (.one 16 .done))))))) (.alt 8 (.one 3 (.wr 9 (.one 12 (.one 13 (.one 14 (.one 15 (.one 16 .done))))))) .stop)) .stop))) (.alt 8 (.alt 2 (.alt 3 (.altw 9 (.one 11 (.one 12 (.one 13 (.one 14 (.one 15 (.one 16 .done)))))) (.alt 11 (.wr 9 (.one 12 (.one 13 (.one 14 (.one 15 (.one 16 .done)))))) .stop)) (.alt 11 (.one 3 (.wr 9 (.one 12 (.one 13 (.one 14 (.one 15 (.one 16 .done))))))) .stop)) (.alt 11 (.one 2 (.one 3 (.wr 9 (.one 12 (.one 13 (.one 14 (.one 15 (.one 16 .done)))))))) .stop)) (.alt 11 (.alt 2 (.alt 3 (.one 8 (.wr 9 (.one 12 (.one 13 (.one 14 (.one 15 (.one 16 .done))))))) (.alt 8 (.one 3 (.wr 9 (.one 12 (.one 13 (.one 14 (.one 15 (.one 16 .done))))))) .stop)) (.alt 8 (.one 2 (.one 3 (.wr 9 (.one 12 (.one 13 (.one 14 (.one 15 (.one 16 .done)))))))) .stop)) .stop)))))))))) (ai (by kernel_rfl) ?_)
    refine ai (ai (abJ _) (by show (a:Int)<(L.length:Int);omega)) ?_
    refine ai ?_ ?_
    ·refine ai ?_ ?_
     ·refine ai (mxL (n:=L.length+1) (by omega) (by decide)) (ai (lt1 rfl) ?_)
      refine ai (by show a<L.length;exact hak) ?_
      refine ai ?_ ?_
      ·refine eF mixed aB Tryz.func63 rfl rfl ?_
       refine ai rfl ?_
       intro b hb
       refine bg (fun hb0=>?_) (fun hb0=>?_)
       ·have hb1:(L.getD a ay).2.length=0:=hb hb0
        refine ai (ai (by decide) (by decide)) (ai (aJ 1 rfl) ?_)
        refine ai (mxL (n:=L.length+1) (by omega) (by decide)) (ai (aJ 1 rfl) ?_)
        refine ei (k+1) (ai (ai rfl rfl) (ai (ai (ai rfl (ai (ai rfl rfl) (ai (ai rfl rfl) (ai (ai (ai (ai (fun _=>rfl) (aN (by omega))) rfl) (ai (ai rfl (ai rfl (ai ?_ ?_))) (ai rfl (ai rfl (ai ?_ ?_))))) (ai (ai rfl (ai ?_ ?_)) trivial))))) rfl) (ai (ai (iL (by omega)) ?_) (iM (by omega)))))
        all_goals rw[e]
        ·rw[aac];rfl
        ·exact aT L (aD c L a k) (show dx (bn c (L.getD a ay).1 k).1=_ by rw[hcan])
        ·rw[aac];rfl
        ·exact aU L (aD c L a k) (dw hb1 k)
        ·rw[aac];rfl
        ·exact aS L (aD c L a k)
        ·rw[aac];show L.length+1≤16384;omega
       ·refine ai (mxL (n:=0+(L.getD a ay).2.length) (by omega) (by decide)) (ai (fun _ _=>rfl) ?_)
        refine ai (mxL (n:=0+(L.getD a ay).2.length+1) (by omega) (by decide)) (ai (aJ 1 rfl) ?_)
        refine ai (mxL (n:=L.length+1) (by omega) (by decide)) (ai (aJ 1 rfl) ?_)
        refine ei (k+1) (ai (ai rfl rfl) (ai (ai (ai rfl (ai (ai rfl rfl) (ai (ai rfl rfl) (ai (ai (ai (ai (fun _=>rfl) (aN (by omega))) rfl) (ai (ai rfl (ai rfl (ai ?_ ?_))) (ai rfl (ai rfl (ai ?_ ?_))))) (ai (ai rfl (ai ?_ ?_)) trivial))))) rfl) (ai (ai (iL (by omega)) ?_) (iM (by omega)))))
        all_goals rw[e]
        ·rw[aac];rfl
        ·exact aT L (aD c L a k) (show dx (bn c (L.getD a ay).1 k).1=_ by rw[hcan])
        ·rw[aac];rfl
        ·exact aU L (aD c L a k) (bV (L.getD a ay).2 k)
        ·rw[aac];rfl
        ·exact aS L (aD c L a k)
        ·rw[aac];show L.length+1≤16384;omega
      refine ai ?_ trivial
      refine eF mixed aB Tryz.func63 rfl rfl ?_
      refine ai rfl ?_
      intro b hb
      refine bg (fun hb0=>?_) (fun hb0=>?_)
      ·have hb1:(L.getD a ay).2.length=0:=hb hb0
       refine ai (ai (by decide) (by decide)) (ai (aJ 1 rfl) ?_)
       refine ai (mxL (n:=L.length+1) (by omega) (by decide)) (ai (aJ 1 rfl) ?_)
       refine ei (k+1) (ai (ai rfl rfl) (ai (ai (ai rfl (ai (ai rfl rfl) (ai (ai rfl rfl) (ai (ai (ai (ai (fun _=>rfl) (aN (by omega))) rfl) (ai (ai rfl (ai rfl (ai ?_ ?_))) (ai rfl (ai rfl (ai ?_ ?_))))) (ai (ai rfl (ai ?_ ?_)) trivial))))) rfl) (ai (ai (iL (by omega)) ?_) (iM (by omega)))))
       all_goals rw[e]
       ·rw[aac];rfl
       ·exact aT L (aD c L a k) (show dx (bn c (L.getD a ay).1 k).1=_ by rw[hcan])
       ·rw[aac];rfl
       ·exact aU L (aD c L a k) (dw hb1 k)
       ·rw[aac];rfl
       ·exact aS L (aD c L a k)
       ·rw[aac];show L.length+1≤16384;omega
      ·refine ai (mxL (n:=0+(L.getD a ay).2.length) (by omega) (by decide)) (ai (fun _ _=>rfl) ?_)
       refine ai (mxL (n:=0+(L.getD a ay).2.length+1) (by omega) (by decide)) (ai (aJ 1 rfl) ?_)
       refine ai (mxL (n:=L.length+1) (by omega) (by decide)) (ai (aJ 1 rfl) ?_)
       refine ei (k+1) (ai (ai rfl rfl) (ai (ai (ai rfl (ai (ai rfl rfl) (ai (ai rfl rfl) (ai (ai (ai (ai (fun _=>rfl) (aN (by omega))) rfl) (ai (ai rfl (ai rfl (ai ?_ ?_))) (ai rfl (ai rfl (ai ?_ ?_))))) (ai (ai rfl (ai ?_ ?_)) trivial))))) rfl) (ai (ai (iL (by omega)) ?_) (iM (by omega)))))
       all_goals rw[e]
       ·rw[aac];rfl
       ·exact aT L (aD c L a k) (show dx (bn c (L.getD a ay).1 k).1=_ by rw[hcan])
       ·rw[aac];rfl
       ·exact aU L (aD c L a k) (bV (L.getD a ay).2 k)
       ·rw[aac];rfl
       ·exact aS L (aD c L a k)
       ·rw[aac];show L.length+1≤16384;omega
     refine ai ?_ ?_
     ·refine ai (by show a<L.length;exact hak) ?_
      refine ai ?_ ?_
      ·refine ai (mxL (n:=L.length+1) (by omega) (by decide)) (ai (lt1 rfl) ?_)
       refine ai ?_ ?_
       ·refine eF mixed aB Tryz.func63 rfl rfl ?_
        refine ai rfl ?_
        intro b hb
        refine bg (fun hb0=>?_) (fun hb0=>?_)
        ·have hb1:(L.getD a ay).2.length=0:=hb hb0
         refine ai (ai (by decide) (by decide)) (ai (aJ 1 rfl) ?_)
         refine ai (mxL (n:=L.length+1) (by omega) (by decide)) (ai (aJ 1 rfl) ?_)
         refine ei (k+1) (ai (ai rfl rfl) (ai (ai (ai rfl (ai (ai rfl rfl) (ai (ai rfl rfl) (ai (ai (ai (ai (fun _=>rfl) (aN (by omega))) rfl) (ai (ai rfl (ai rfl (ai ?_ ?_))) (ai rfl (ai rfl (ai ?_ ?_))))) (ai (ai rfl (ai ?_ ?_)) trivial))))) rfl) (ai (ai (iL (by omega)) ?_) (iM (by omega)))))
         all_goals rw[e]
         ·rw[aac];rfl
         ·exact aT L (aD c L a k) (show dx (bn c (L.getD a ay).1 k).1=_ by rw[hcan])
         ·rw[aac];rfl
         ·exact aU L (aD c L a k) (dw hb1 k)
         ·rw[aac];rfl
         ·exact aS L (aD c L a k)
         ·rw[aac];show L.length+1≤16384;omega
        ·refine ai (mxL (n:=0+(L.getD a ay).2.length) (by omega) (by decide)) (ai (fun _ _=>rfl) ?_)
         refine ai (mxL (n:=0+(L.getD a ay).2.length+1) (by omega) (by decide)) (ai (aJ 1 rfl) ?_)
         refine ai (mxL (n:=L.length+1) (by omega) (by decide)) (ai (aJ 1 rfl) ?_)
         refine ei (k+1) (ai (ai rfl rfl) (ai (ai (ai rfl (ai (ai rfl rfl) (ai (ai rfl rfl) (ai (ai (ai (ai (fun _=>rfl) (aN (by omega))) rfl) (ai (ai rfl (ai rfl (ai ?_ ?_))) (ai rfl (ai rfl (ai ?_ ?_))))) (ai (ai rfl (ai ?_ ?_)) trivial))))) rfl) (ai (ai (iL (by omega)) ?_) (iM (by omega)))))
         all_goals rw[e]
         ·rw[aac];rfl
         ·exact aT L (aD c L a k) (show dx (bn c (L.getD a ay).1 k).1=_ by rw[hcan])
         ·rw[aac];rfl
         ·exact aU L (aD c L a k) (bV (L.getD a ay).2 k)
         ·rw[aac];rfl
         ·exact aS L (aD c L a k)
         ·rw[aac];show L.length+1≤16384;omega
       refine ai ?_ trivial
       refine eF mixed aB Tryz.func63 rfl rfl ?_
       refine ai rfl ?_
       intro b hb
       refine bg (fun hb0=>?_) (fun hb0=>?_)
       ·have hb1:(L.getD a ay).2.length=0:=hb hb0
        refine ai (ai (by decide) (by decide)) (ai (aJ 1 rfl) ?_)
        refine ai (mxL (n:=L.length+1) (by omega) (by decide)) (ai (aJ 1 rfl) ?_)
        refine ei (k+1) (ai (ai rfl rfl) (ai (ai (ai rfl (ai (ai rfl rfl) (ai (ai rfl rfl) (ai (ai (ai (ai (fun _=>rfl) (aN (by omega))) rfl) (ai (ai rfl (ai rfl (ai ?_ ?_))) (ai rfl (ai rfl (ai ?_ ?_))))) (ai (ai rfl (ai ?_ ?_)) trivial))))) rfl) (ai (ai (iL (by omega)) ?_) (iM (by omega)))))
        all_goals rw[e]
        ·rw[aac];rfl
        ·exact aT L (aD c L a k) (show dx (bn c (L.getD a ay).1 k).1=_ by rw[hcan])
        ·rw[aac];rfl
        ·exact aU L (aD c L a k) (dw hb1 k)
        ·rw[aac];rfl
        ·exact aS L (aD c L a k)
        ·rw[aac];show L.length+1≤16384;omega
       ·refine ai (mxL (n:=0+(L.getD a ay).2.length) (by omega) (by decide)) (ai (fun _ _=>rfl) ?_)
        refine ai (mxL (n:=0+(L.getD a ay).2.length+1) (by omega) (by decide)) (ai (aJ 1 rfl) ?_)
        refine ai (mxL (n:=L.length+1) (by omega) (by decide)) (ai (aJ 1 rfl) ?_)
        refine ei (k+1) (ai (ai rfl rfl) (ai (ai (ai rfl (ai (ai rfl rfl) (ai (ai rfl rfl) (ai (ai (ai (ai (fun _=>rfl) (aN (by omega))) rfl) (ai (ai rfl (ai rfl (ai ?_ ?_))) (ai rfl (ai rfl (ai ?_ ?_))))) (ai (ai rfl (ai ?_ ?_)) trivial))))) rfl) (ai (ai (iL (by omega)) ?_) (iM (by omega)))))
        all_goals rw[e]
        ·rw[aac];rfl
        ·exact aT L (aD c L a k) (show dx (bn c (L.getD a ay).1 k).1=_ by rw[hcan])
        ·rw[aac];rfl
        ·exact aU L (aD c L a k) (bV (L.getD a ay).2 k)
        ·rw[aac];rfl
        ·exact aS L (aD c L a k)
        ·rw[aac];show L.length+1≤16384;omega
      refine ai ?_ trivial
      refine ai (mxL (n:=L.length+1) (by omega) (by decide)) (ai (lt1 rfl) ?_)
      refine eF mixed aB Tryz.func63 rfl rfl ?_
      refine ai rfl ?_
      intro b hb
      refine bg (fun hb0=>?_) (fun hb0=>?_)
      ·have hb1:(L.getD a ay).2.length=0:=hb hb0
       refine ai (ai (by decide) (by decide)) (ai (aJ 1 rfl) ?_)
       refine ai (mxL (n:=L.length+1) (by omega) (by decide)) (ai (aJ 1 rfl) ?_)
       refine ei (k+1) (ai (ai rfl rfl) (ai (ai (ai rfl (ai (ai rfl rfl) (ai (ai rfl rfl) (ai (ai (ai (ai (fun _=>rfl) (aN (by omega))) rfl) (ai (ai rfl (ai rfl (ai ?_ ?_))) (ai rfl (ai rfl (ai ?_ ?_))))) (ai (ai rfl (ai ?_ ?_)) trivial))))) rfl) (ai (ai (iL (by omega)) ?_) (iM (by omega)))))
       all_goals rw[e]
       ·rw[aac];rfl
       ·exact aT L (aD c L a k) (show dx (bn c (L.getD a ay).1 k).1=_ by rw[hcan])
       ·rw[aac];rfl
       ·exact aU L (aD c L a k) (dw hb1 k)
       ·rw[aac];rfl
       ·exact aS L (aD c L a k)
       ·rw[aac];show L.length+1≤16384;omega
      ·refine ai (mxL (n:=0+(L.getD a ay).2.length) (by omega) (by decide)) (ai (fun _ _=>rfl) ?_)
       refine ai (mxL (n:=0+(L.getD a ay).2.length+1) (by omega) (by decide)) (ai (aJ 1 rfl) ?_)
       refine ai (mxL (n:=L.length+1) (by omega) (by decide)) (ai (aJ 1 rfl) ?_)
       refine ei (k+1) (ai (ai rfl rfl) (ai (ai (ai rfl (ai (ai rfl rfl) (ai (ai rfl rfl) (ai (ai (ai (ai (fun _=>rfl) (aN (by omega))) rfl) (ai (ai rfl (ai rfl (ai ?_ ?_))) (ai rfl (ai rfl (ai ?_ ?_))))) (ai (ai rfl (ai ?_ ?_)) trivial))))) rfl) (ai (ai (iL (by omega)) ?_) (iM (by omega)))))
       all_goals rw[e]
       ·rw[aac];rfl
       ·exact aT L (aD c L a k) (show dx (bn c (L.getD a ay).1 k).1=_ by rw[hcan])
       ·rw[aac];rfl
       ·exact aU L (aD c L a k) (bV (L.getD a ay).2 k)
       ·rw[aac];rfl
       ·exact aS L (aD c L a k)
       ·rw[aac];show L.length+1≤16384;omega
     refine ai ?_ trivial
     refine ai ?_ ?_
     ·refine ai (mxL (n:=L.length+1) (by omega) (by decide)) (ai (lt1 rfl) ?_)
      refine ai (by show a<L.length;exact hak) ?_
      refine eF mixed aB Tryz.func63 rfl rfl ?_
      refine ai rfl ?_
      intro b hb
      refine bg (fun hb0=>?_) (fun hb0=>?_)
      ·have hb1:(L.getD a ay).2.length=0:=hb hb0
       refine ai (ai (by decide) (by decide)) (ai (aJ 1 rfl) ?_)
       refine ai (mxL (n:=L.length+1) (by omega) (by decide)) (ai (aJ 1 rfl) ?_)
       refine ei (k+1) (ai (ai rfl rfl) (ai (ai (ai rfl (ai (ai rfl rfl) (ai (ai rfl rfl) (ai (ai (ai (ai (fun _=>rfl) (aN (by omega))) rfl) (ai (ai rfl (ai rfl (ai ?_ ?_))) (ai rfl (ai rfl (ai ?_ ?_))))) (ai (ai rfl (ai ?_ ?_)) trivial))))) rfl) (ai (ai (iL (by omega)) ?_) (iM (by omega)))))
       all_goals rw[e]
       ·rw[aac];rfl
       ·exact aT L (aD c L a k) (show dx (bn c (L.getD a ay).1 k).1=_ by rw[hcan])
       ·rw[aac];rfl
       ·exact aU L (aD c L a k) (dw hb1 k)
       ·rw[aac];rfl
       ·exact aS L (aD c L a k)
       ·rw[aac];show L.length+1≤16384;omega
      ·refine ai (mxL (n:=0+(L.getD a ay).2.length) (by omega) (by decide)) (ai (fun _ _=>rfl) ?_)
       refine ai (mxL (n:=0+(L.getD a ay).2.length+1) (by omega) (by decide)) (ai (aJ 1 rfl) ?_)
       refine ai (mxL (n:=L.length+1) (by omega) (by decide)) (ai (aJ 1 rfl) ?_)
       refine ei (k+1) (ai (ai rfl rfl) (ai (ai (ai rfl (ai (ai rfl rfl) (ai (ai rfl rfl) (ai (ai (ai (ai (fun _=>rfl) (aN (by omega))) rfl) (ai (ai rfl (ai rfl (ai ?_ ?_))) (ai rfl (ai rfl (ai ?_ ?_))))) (ai (ai rfl (ai ?_ ?_)) trivial))))) rfl) (ai (ai (iL (by omega)) ?_) (iM (by omega)))))
       all_goals rw[e]
       ·rw[aac];rfl
       ·exact aT L (aD c L a k) (show dx (bn c (L.getD a ay).1 k).1=_ by rw[hcan])
       ·rw[aac];rfl
       ·exact aU L (aD c L a k) (bV (L.getD a ay).2 k)
       ·rw[aac];rfl
       ·exact aS L (aD c L a k)
       ·rw[aac];show L.length+1≤16384;omega
     refine ai ?_ trivial
     refine ai (by show a<L.length;exact hak) ?_
     refine ai (mxL (n:=L.length+1) (by omega) (by decide)) (ai (lt1 rfl) ?_)
     refine eF mixed aB Tryz.func63 rfl rfl ?_
     refine ai rfl ?_
     intro b hb
     refine bg (fun hb0=>?_) (fun hb0=>?_)
     ·have hb1:(L.getD a ay).2.length=0:=hb hb0
      refine ai (ai (by decide) (by decide)) (ai (aJ 1 rfl) ?_)
      refine ai (mxL (n:=L.length+1) (by omega) (by decide)) (ai (aJ 1 rfl) ?_)
      refine ei (k+1) (ai (ai rfl rfl) (ai (ai (ai rfl (ai (ai rfl rfl) (ai (ai rfl rfl) (ai (ai (ai (ai (fun _=>rfl) (aN (by omega))) rfl) (ai (ai rfl (ai rfl (ai ?_ ?_))) (ai rfl (ai rfl (ai ?_ ?_))))) (ai (ai rfl (ai ?_ ?_)) trivial))))) rfl) (ai (ai (iL (by omega)) ?_) (iM (by omega)))))
      all_goals rw[e]
      ·rw[aac];rfl
      ·exact aT L (aD c L a k) (show dx (bn c (L.getD a ay).1 k).1=_ by rw[hcan])
      ·rw[aac];rfl
      ·exact aU L (aD c L a k) (dw hb1 k)
      ·rw[aac];rfl
      ·exact aS L (aD c L a k)
      ·rw[aac];show L.length+1≤16384;omega
     ·refine ai (mxL (n:=0+(L.getD a ay).2.length) (by omega) (by decide)) (ai (fun _ _=>rfl) ?_)
      refine ai (mxL (n:=0+(L.getD a ay).2.length+1) (by omega) (by decide)) (ai (aJ 1 rfl) ?_)
      refine ai (mxL (n:=L.length+1) (by omega) (by decide)) (ai (aJ 1 rfl) ?_)
      refine ei (k+1) (ai (ai rfl rfl) (ai (ai (ai rfl (ai (ai rfl rfl) (ai (ai rfl rfl) (ai (ai (ai (ai (fun _=>rfl) (aN (by omega))) rfl) (ai (ai rfl (ai rfl (ai ?_ ?_))) (ai rfl (ai rfl (ai ?_ ?_))))) (ai (ai rfl (ai ?_ ?_)) trivial))))) rfl) (ai (ai (iL (by omega)) ?_) (iM (by omega)))))
      all_goals rw[e]
      ·rw[aac];rfl
      ·exact aT L (aD c L a k) (show dx (bn c (L.getD a ay).1 k).1=_ by rw[hcan])
      ·rw[aac];rfl
      ·exact aU L (aD c L a k) (bV (L.getD a ay).2 k)
      ·rw[aac];rfl
      ·exact aS L (aD c L a k)
      ·rw[aac];show L.length+1≤16384;omega
    refine ai ?_ ?_
    ·refine ai (by show a<L.length;exact hak) ?_
     refine ai ?_ ?_
     ·refine ai ?_ ?_
      ·refine ai (mxL (n:=L.length+1) (by omega) (by decide)) (ai (lt1 rfl) ?_)
       refine ai ?_ ?_
       ·refine eF mixed aB Tryz.func63 rfl rfl ?_
        refine ai rfl ?_
        intro b hb
        refine bg (fun hb0=>?_) (fun hb0=>?_)
        ·have hb1:(L.getD a ay).2.length=0:=hb hb0
         refine ai (ai (by decide) (by decide)) (ai (aJ 1 rfl) ?_)
         refine ai (mxL (n:=L.length+1) (by omega) (by decide)) (ai (aJ 1 rfl) ?_)
         refine ei (k+1) (ai (ai rfl rfl) (ai (ai (ai rfl (ai (ai rfl rfl) (ai (ai rfl rfl) (ai (ai (ai (ai (fun _=>rfl) (aN (by omega))) rfl) (ai (ai rfl (ai rfl (ai ?_ ?_))) (ai rfl (ai rfl (ai ?_ ?_))))) (ai (ai rfl (ai ?_ ?_)) trivial))))) rfl) (ai (ai (iL (by omega)) ?_) (iM (by omega)))))
         all_goals rw[e]
         ·rw[aac];rfl
         ·exact aT L (aD c L a k) (show dx (bn c (L.getD a ay).1 k).1=_ by rw[hcan])
         ·rw[aac];rfl
         ·exact aU L (aD c L a k) (dw hb1 k)
         ·rw[aac];rfl
         ·exact aS L (aD c L a k)
         ·rw[aac];show L.length+1≤16384;omega
        ·refine ai (mxL (n:=0+(L.getD a ay).2.length) (by omega) (by decide)) (ai (fun _ _=>rfl) ?_)
         refine ai (mxL (n:=0+(L.getD a ay).2.length+1) (by omega) (by decide)) (ai (aJ 1 rfl) ?_)
         refine ai (mxL (n:=L.length+1) (by omega) (by decide)) (ai (aJ 1 rfl) ?_)
         refine ei (k+1) (ai (ai rfl rfl) (ai (ai (ai rfl (ai (ai rfl rfl) (ai (ai rfl rfl) (ai (ai (ai (ai (fun _=>rfl) (aN (by omega))) rfl) (ai (ai rfl (ai rfl (ai ?_ ?_))) (ai rfl (ai rfl (ai ?_ ?_))))) (ai (ai rfl (ai ?_ ?_)) trivial))))) rfl) (ai (ai (iL (by omega)) ?_) (iM (by omega)))))
         all_goals rw[e]
         ·rw[aac];rfl
         ·exact aT L (aD c L a k) (show dx (bn c (L.getD a ay).1 k).1=_ by rw[hcan])
         ·rw[aac];rfl
         ·exact aU L (aD c L a k) (bV (L.getD a ay).2 k)
         ·rw[aac];rfl
         ·exact aS L (aD c L a k)
         ·rw[aac];show L.length+1≤16384;omega
       refine ai ?_ trivial
       refine eF mixed aB Tryz.func63 rfl rfl ?_
       refine ai rfl ?_
       intro b hb
       refine bg (fun hb0=>?_) (fun hb0=>?_)
       ·have hb1:(L.getD a ay).2.length=0:=hb hb0
        refine ai (ai (by decide) (by decide)) (ai (aJ 1 rfl) ?_)
        refine ai (mxL (n:=L.length+1) (by omega) (by decide)) (ai (aJ 1 rfl) ?_)
        refine ei (k+1) (ai (ai rfl rfl) (ai (ai (ai rfl (ai (ai rfl rfl) (ai (ai rfl rfl) (ai (ai (ai (ai (fun _=>rfl) (aN (by omega))) rfl) (ai (ai rfl (ai rfl (ai ?_ ?_))) (ai rfl (ai rfl (ai ?_ ?_))))) (ai (ai rfl (ai ?_ ?_)) trivial))))) rfl) (ai (ai (iL (by omega)) ?_) (iM (by omega)))))
        all_goals rw[e]
        ·rw[aac];rfl
        ·exact aT L (aD c L a k) (show dx (bn c (L.getD a ay).1 k).1=_ by rw[hcan])
        ·rw[aac];rfl
        ·exact aU L (aD c L a k) (dw hb1 k)
        ·rw[aac];rfl
        ·exact aS L (aD c L a k)
        ·rw[aac];show L.length+1≤16384;omega
       ·refine ai (mxL (n:=0+(L.getD a ay).2.length) (by omega) (by decide)) (ai (fun _ _=>rfl) ?_)
        refine ai (mxL (n:=0+(L.getD a ay).2.length+1) (by omega) (by decide)) (ai (aJ 1 rfl) ?_)
        refine ai (mxL (n:=L.length+1) (by omega) (by decide)) (ai (aJ 1 rfl) ?_)
        refine ei (k+1) (ai (ai rfl rfl) (ai (ai (ai rfl (ai (ai rfl rfl) (ai (ai rfl rfl) (ai (ai (ai (ai (fun _=>rfl) (aN (by omega))) rfl) (ai (ai rfl (ai rfl (ai ?_ ?_))) (ai rfl (ai rfl (ai ?_ ?_))))) (ai (ai rfl (ai ?_ ?_)) trivial))))) rfl) (ai (ai (iL (by omega)) ?_) (iM (by omega)))))
        all_goals rw[e]
        ·rw[aac];rfl
        ·exact aT L (aD c L a k) (show dx (bn c (L.getD a ay).1 k).1=_ by rw[hcan])
        ·rw[aac];rfl
        ·exact aU L (aD c L a k) (bV (L.getD a ay).2 k)
        ·rw[aac];rfl
        ·exact aS L (aD c L a k)
        ·rw[aac];show L.length+1≤16384;omega
      refine ai ?_ trivial
      refine ai (mxL (n:=L.length+1) (by omega) (by decide)) (ai (lt1 rfl) ?_)
      refine eF mixed aB Tryz.func63 rfl rfl ?_
      refine ai rfl ?_
      intro b hb
      refine bg (fun hb0=>?_) (fun hb0=>?_)
      ·have hb1:(L.getD a ay).2.length=0:=hb hb0
       refine ai (ai (by decide) (by decide)) (ai (aJ 1 rfl) ?_)
       refine ai (mxL (n:=L.length+1) (by omega) (by decide)) (ai (aJ 1 rfl) ?_)
       refine ei (k+1) (ai (ai rfl rfl) (ai (ai (ai rfl (ai (ai rfl rfl) (ai (ai rfl rfl) (ai (ai (ai (ai (fun _=>rfl) (aN (by omega))) rfl) (ai (ai rfl (ai rfl (ai ?_ ?_))) (ai rfl (ai rfl (ai ?_ ?_))))) (ai (ai rfl (ai ?_ ?_)) trivial))))) rfl) (ai (ai (iL (by omega)) ?_) (iM (by omega)))))
       all_goals rw[e]
       ·rw[aac];rfl
       ·exact aT L (aD c L a k) (show dx (bn c (L.getD a ay).1 k).1=_ by rw[hcan])
       ·rw[aac];rfl
       ·exact aU L (aD c L a k) (dw hb1 k)
       ·rw[aac];rfl
       ·exact aS L (aD c L a k)
       ·rw[aac];show L.length+1≤16384;omega
      ·refine ai (mxL (n:=0+(L.getD a ay).2.length) (by omega) (by decide)) (ai (fun _ _=>rfl) ?_)
       refine ai (mxL (n:=0+(L.getD a ay).2.length+1) (by omega) (by decide)) (ai (aJ 1 rfl) ?_)
       refine ai (mxL (n:=L.length+1) (by omega) (by decide)) (ai (aJ 1 rfl) ?_)
       refine ei (k+1) (ai (ai rfl rfl) (ai (ai (ai rfl (ai (ai rfl rfl) (ai (ai rfl rfl) (ai (ai (ai (ai (fun _=>rfl) (aN (by omega))) rfl) (ai (ai rfl (ai rfl (ai ?_ ?_))) (ai rfl (ai rfl (ai ?_ ?_))))) (ai (ai rfl (ai ?_ ?_)) trivial))))) rfl) (ai (ai (iL (by omega)) ?_) (iM (by omega)))))
       all_goals rw[e]
       ·rw[aac];rfl
       ·exact aT L (aD c L a k) (show dx (bn c (L.getD a ay).1 k).1=_ by rw[hcan])
       ·rw[aac];rfl
       ·exact aU L (aD c L a k) (bV (L.getD a ay).2 k)
       ·rw[aac];rfl
       ·exact aS L (aD c L a k)
       ·rw[aac];show L.length+1≤16384;omega
     refine ai ?_ trivial
     refine ai (mxL (n:=L.length+1) (by omega) (by decide)) (ai (lt1 rfl) ?_)
     refine eF mixed aB Tryz.func63 rfl rfl ?_
     refine ai rfl ?_
     intro b hb
     refine bg (fun hb0=>?_) (fun hb0=>?_)
     ·have hb1:(L.getD a ay).2.length=0:=hb hb0
      refine ai (ai (by decide) (by decide)) (ai (aJ 1 rfl) ?_)
      refine ai (mxL (n:=L.length+1) (by omega) (by decide)) (ai (aJ 1 rfl) ?_)
      refine ei (k+1) (ai (ai rfl rfl) (ai (ai (ai rfl (ai (ai rfl rfl) (ai (ai rfl rfl) (ai (ai (ai (ai (fun _=>rfl) (aN (by omega))) rfl) (ai (ai rfl (ai rfl (ai ?_ ?_))) (ai rfl (ai rfl (ai ?_ ?_))))) (ai (ai rfl (ai ?_ ?_)) trivial))))) rfl) (ai (ai (iL (by omega)) ?_) (iM (by omega)))))
      all_goals rw[e]
      ·rw[aac];rfl
      ·exact aT L (aD c L a k) (show dx (bn c (L.getD a ay).1 k).1=_ by rw[hcan])
      ·rw[aac];rfl
      ·exact aU L (aD c L a k) (dw hb1 k)
      ·rw[aac];rfl
      ·exact aS L (aD c L a k)
      ·rw[aac];show L.length+1≤16384;omega
     ·refine ai (mxL (n:=0+(L.getD a ay).2.length) (by omega) (by decide)) (ai (fun _ _=>rfl) ?_)
      refine ai (mxL (n:=0+(L.getD a ay).2.length+1) (by omega) (by decide)) (ai (aJ 1 rfl) ?_)
      refine ai (mxL (n:=L.length+1) (by omega) (by decide)) (ai (aJ 1 rfl) ?_)
      refine ei (k+1) (ai (ai rfl rfl) (ai (ai (ai rfl (ai (ai rfl rfl) (ai (ai rfl rfl) (ai (ai (ai (ai (fun _=>rfl) (aN (by omega))) rfl) (ai (ai rfl (ai rfl (ai ?_ ?_))) (ai rfl (ai rfl (ai ?_ ?_))))) (ai (ai rfl (ai ?_ ?_)) trivial))))) rfl) (ai (ai (iL (by omega)) ?_) (iM (by omega)))))
      all_goals rw[e]
      ·rw[aac];rfl
      ·exact aT L (aD c L a k) (show dx (bn c (L.getD a ay).1 k).1=_ by rw[hcan])
      ·rw[aac];rfl
      ·exact aU L (aD c L a k) (bV (L.getD a ay).2 k)
      ·rw[aac];rfl
      ·exact aS L (aD c L a k)
      ·rw[aac];show L.length+1≤16384;omega
    refine ai ?_ trivial
    refine ai ?_ ?_
    ·refine ai ?_ ?_
     ·refine ai (mxL (n:=L.length+1) (by omega) (by decide)) (ai (lt1 rfl) ?_)
      refine ai (by show a<L.length;exact hak) ?_
      refine eF mixed aB Tryz.func63 rfl rfl ?_
      refine ai rfl ?_
      intro b hb
      refine bg (fun hb0=>?_) (fun hb0=>?_)
      ·have hb1:(L.getD a ay).2.length=0:=hb hb0
       refine ai (ai (by decide) (by decide)) (ai (aJ 1 rfl) ?_)
       refine ai (mxL (n:=L.length+1) (by omega) (by decide)) (ai (aJ 1 rfl) ?_)
       refine ei (k+1) (ai (ai rfl rfl) (ai (ai (ai rfl (ai (ai rfl rfl) (ai (ai rfl rfl) (ai (ai (ai (ai (fun _=>rfl) (aN (by omega))) rfl) (ai (ai rfl (ai rfl (ai ?_ ?_))) (ai rfl (ai rfl (ai ?_ ?_))))) (ai (ai rfl (ai ?_ ?_)) trivial))))) rfl) (ai (ai (iL (by omega)) ?_) (iM (by omega)))))
       all_goals rw[e]
       ·rw[aac];rfl
       ·exact aT L (aD c L a k) (show dx (bn c (L.getD a ay).1 k).1=_ by rw[hcan])
       ·rw[aac];rfl
       ·exact aU L (aD c L a k) (dw hb1 k)
       ·rw[aac];rfl
       ·exact aS L (aD c L a k)
       ·rw[aac];show L.length+1≤16384;omega
      ·refine ai (mxL (n:=0+(L.getD a ay).2.length) (by omega) (by decide)) (ai (fun _ _=>rfl) ?_)
       refine ai (mxL (n:=0+(L.getD a ay).2.length+1) (by omega) (by decide)) (ai (aJ 1 rfl) ?_)
       refine ai (mxL (n:=L.length+1) (by omega) (by decide)) (ai (aJ 1 rfl) ?_)
       refine ei (k+1) (ai (ai rfl rfl) (ai (ai (ai rfl (ai (ai rfl rfl) (ai (ai rfl rfl) (ai (ai (ai (ai (fun _=>rfl) (aN (by omega))) rfl) (ai (ai rfl (ai rfl (ai ?_ ?_))) (ai rfl (ai rfl (ai ?_ ?_))))) (ai (ai rfl (ai ?_ ?_)) trivial))))) rfl) (ai (ai (iL (by omega)) ?_) (iM (by omega)))))
       all_goals rw[e]
       ·rw[aac];rfl
       ·exact aT L (aD c L a k) (show dx (bn c (L.getD a ay).1 k).1=_ by rw[hcan])
       ·rw[aac];rfl
       ·exact aU L (aD c L a k) (bV (L.getD a ay).2 k)
       ·rw[aac];rfl
       ·exact aS L (aD c L a k)
       ·rw[aac];show L.length+1≤16384;omega
     refine ai ?_ trivial
     refine ai (by show a<L.length;exact hak) ?_
     refine ai (mxL (n:=L.length+1) (by omega) (by decide)) (ai (lt1 rfl) ?_)
     refine eF mixed aB Tryz.func63 rfl rfl ?_
     refine ai rfl ?_
     intro b hb
     refine bg (fun hb0=>?_) (fun hb0=>?_)
     ·have hb1:(L.getD a ay).2.length=0:=hb hb0
      refine ai (ai (by decide) (by decide)) (ai (aJ 1 rfl) ?_)
      refine ai (mxL (n:=L.length+1) (by omega) (by decide)) (ai (aJ 1 rfl) ?_)
      refine ei (k+1) (ai (ai rfl rfl) (ai (ai (ai rfl (ai (ai rfl rfl) (ai (ai rfl rfl) (ai (ai (ai (ai (fun _=>rfl) (aN (by omega))) rfl) (ai (ai rfl (ai rfl (ai ?_ ?_))) (ai rfl (ai rfl (ai ?_ ?_))))) (ai (ai rfl (ai ?_ ?_)) trivial))))) rfl) (ai (ai (iL (by omega)) ?_) (iM (by omega)))))
      all_goals rw[e]
      ·rw[aac];rfl
      ·exact aT L (aD c L a k) (show dx (bn c (L.getD a ay).1 k).1=_ by rw[hcan])
      ·rw[aac];rfl
      ·exact aU L (aD c L a k) (dw hb1 k)
      ·rw[aac];rfl
      ·exact aS L (aD c L a k)
      ·rw[aac];show L.length+1≤16384;omega
     ·refine ai (mxL (n:=0+(L.getD a ay).2.length) (by omega) (by decide)) (ai (fun _ _=>rfl) ?_)
      refine ai (mxL (n:=0+(L.getD a ay).2.length+1) (by omega) (by decide)) (ai (aJ 1 rfl) ?_)
      refine ai (mxL (n:=L.length+1) (by omega) (by decide)) (ai (aJ 1 rfl) ?_)
      refine ei (k+1) (ai (ai rfl rfl) (ai (ai (ai rfl (ai (ai rfl rfl) (ai (ai rfl rfl) (ai (ai (ai (ai (fun _=>rfl) (aN (by omega))) rfl) (ai (ai rfl (ai rfl (ai ?_ ?_))) (ai rfl (ai rfl (ai ?_ ?_))))) (ai (ai rfl (ai ?_ ?_)) trivial))))) rfl) (ai (ai (iL (by omega)) ?_) (iM (by omega)))))
      all_goals rw[e]
      ·rw[aac];rfl
      ·exact aT L (aD c L a k) (show dx (bn c (L.getD a ay).1 k).1=_ by rw[hcan])
      ·rw[aac];rfl
      ·exact aU L (aD c L a k) (bV (L.getD a ay).2 k)
      ·rw[aac];rfl
      ·exact aS L (aD c L a k)
      ·rw[aac];show L.length+1≤16384;omega
    refine ai ?_ trivial
    refine ai (by show a<L.length;exact hak) ?_
    refine ai (mxL (n:=L.length+1) (by omega) (by decide)) (ai (lt1 rfl) ?_)
    refine eF mixed aB Tryz.func63 rfl rfl ?_
    refine ai rfl ?_
    intro b hb
    refine bg (fun hb0=>?_) (fun hb0=>?_)
    ·have hb1:(L.getD a ay).2.length=0:=hb hb0
     refine ai (ai (by decide) (by decide)) (ai (aJ 1 rfl) ?_)
     refine ai (mxL (n:=L.length+1) (by omega) (by decide)) (ai (aJ 1 rfl) ?_)
     refine ei (k+1) (ai (ai rfl rfl) (ai (ai (ai rfl (ai (ai rfl rfl) (ai (ai rfl rfl) (ai (ai (ai (ai (fun _=>rfl) (aN (by omega))) rfl) (ai (ai rfl (ai rfl (ai ?_ ?_))) (ai rfl (ai rfl (ai ?_ ?_))))) (ai (ai rfl (ai ?_ ?_)) trivial))))) rfl) (ai (ai (iL (by omega)) ?_) (iM (by omega)))))
     all_goals rw[e]
     ·rw[aac];rfl
     ·exact aT L (aD c L a k) (show dx (bn c (L.getD a ay).1 k).1=_ by rw[hcan])
     ·rw[aac];rfl
     ·exact aU L (aD c L a k) (dw hb1 k)
     ·rw[aac];rfl
     ·exact aS L (aD c L a k)
     ·rw[aac];show L.length+1≤16384;omega
    ·refine ai (mxL (n:=0+(L.getD a ay).2.length) (by omega) (by decide)) (ai (fun _ _=>rfl) ?_)
     refine ai (mxL (n:=0+(L.getD a ay).2.length+1) (by omega) (by decide)) (ai (aJ 1 rfl) ?_)
     refine ai (mxL (n:=L.length+1) (by omega) (by decide)) (ai (aJ 1 rfl) ?_)
     refine ei (k+1) (ai (ai rfl rfl) (ai (ai (ai rfl (ai (ai rfl rfl) (ai (ai rfl rfl) (ai (ai (ai (ai (fun _=>rfl) (aN (by omega))) rfl) (ai (ai rfl (ai rfl (ai ?_ ?_))) (ai rfl (ai rfl (ai ?_ ?_))))) (ai (ai rfl (ai ?_ ?_)) trivial))))) rfl) (ai (ai (iL (by omega)) ?_) (iM (by omega)))))
     all_goals rw[e]
     ·rw[aac];rfl
     ·exact aT L (aD c L a k) (show dx (bn c (L.getD a ay).1 k).1=_ by rw[hcan])
     ·rw[aac];rfl
     ·exact aU L (aD c L a k) (bV (L.getD a ay).2 k)
     ·rw[aac];rfl
     ·exact aS L (aD c L a k)
     ·rw[aac];show L.length+1≤16384;omega
  ·obtain rfl:k=c.trs.length:=by omega
   refine ei ((a+1,eX c l a c.trs.length)) (ai (ai rfl rfl) (ai (ai ?_ rfl) (ai ?_ ?_)))
   ·refine (ai rfl (ai (ai rfl rfl) (ai (ai rfl rfl) (ai (ai (ai (ai (fun _=>rfl) (aN (by omega))) rfl) (ai (ai rfl (ai rfl (ai rfl (fun _ _=>rfl)))) (ai rfl (ai rfl (ai rfl ?_))))) (ai (ai rfl (ai rfl (fun _=>rfl))) trivial)))))
    exact fun k _=>bW.rfl' _
   ·exact ⟨by show a+1≤(eX c l a c.trs.length).length;rw[ht,aac];omega,hkl,⟨hgk,hways⟩,(alo h1 hkl).symm.trans (by rw[←hr,show 16385-a=16385-(a+1)+1 by omega])⟩
   ·show 16385-(a+1)<16385-a;omega
 ·have e:sW c=some l:=by rw[←hr];exact al2 (by omega)
  refine ai (ai (fun h=>absurd (show false=true from h) (by decide)) ?_) trivial
  show aC _ (wS c)
  rw[wS,e]
  exact (ai (ai rfl (fun _ _=>rfl)) (ai (ai rfl (fun _ _=>rfl)) rfl))
def rQ (c:bC):Int:=if cK c=0 then (match sW c with | some _=>0 | none=>12) else cK c
def kX (c:bC):List Mk:=if cK c=0 then (match sW c with | some l=>l | none=>[]) else []
def uD (c:bC):PV:=.tup [alW (kX c),alU (kX c),iP (rQ c)]
theorem amv {c:bC} (h:cK c=0):wS c=uD c:=by
 unfold wS uD kX rQ
 rw[if_pos h,if_pos h]
 cases sW c<;>rfl
theorem aaT:aM Tryz.prog 60 (iq (fun c:bC=>[kE c]) lF uD):=by
 refine aW (Tb:=tab) mixed aB Tryz.func60 rfl rfl ?_
 rintro (c:bC) hpre
 refine ai (ai rfl (ai rfl rfl)) ?_
 refine ei _ (ai (ajM) (ei (c) (ei [] (ai (a4 (ai (fun _=>Or.inl rfl) (ai nof (Or.inl rfl)))) (ai (by exact (ai rfl (ai (ai rfl (fun _ _=>rfl)) (ai (ai rfl (fun _ _=>rfl)) (ai rfl (fun _ _=>rfl)))))) (ai trivial (ai (hpre) ?_)))))))
 refine aF (p:=cK c=0) (bZ (by omega)) (fun h1=>?_) (fun h1=>?_)
 ·have e1:rQ c=cK c:=if_neg h1
  have e2:kX c=[]:=if_neg h1
  refine ai (ai (fun h=>absurd (show false=true from h) (by decide)) ?_) trivial
  show aC _ (uD c)
  rw[uD,e1,e2]
  exact (ai rfl (ai rfl rfl))
 refine ei _ (ai ((jH ajo c ⟨h1,hpre⟩ (r:=uD c) (amv h1))) (ei (()) (ei [] (ai (a4 (ai (fun _=>Or.inl rfl) (ai nof (Or.inl rfl)))) (ai (by exact (ai rfl (ai (ai rfl (fun _ _=>rfl)) (ai (ai rfl (fun _ _=>rfl)) (ai rfl (fun _ _=>rfl)))))) (ai trivial (ai (trivial) ?_)))))))
 refine ai (ai (fun h=>absurd (show false=true from h) (by decide)) ?_) trivial
 show aC _ (uD c)
 rw[uD]
 exact (ai (ai rfl (fun _ _=>rfl)) (ai (ai rfl (fun _ _=>rfl)) rfl))
theorem ae7 {c:bC} (h:rQ c=0):cK c=0∧sW c=some (kX c):=by
 unfold rQ at h
 split at h
 ·rename_i h1
  refine ⟨h1,?_⟩
  unfold kX;rw[if_pos h1]
  cases e:sW c with
  | none=>rw[e] at h;cases h
  | some l=>rfl
 ·rename_i h1;exact absurd h h1
theorem af7 {c:bC}:∀{f:Nat} {l r:List Mk} {a:Nat},a≤l.length→l.length≤16384→nC c l→yw a l→oU c f l a=some r→nC c r∧r.length≤16384∧yw 16384 r
 | 0,l,r,a,ha,hl,hg,hw,h=>by
  obtain rfl:=Option.some.inj h
  exact ⟨hg,hl,fun y hy=>by have:=hw y hy;omega⟩
 | f+1,l,r,a,ha,hl,hg,hw,h=>by
  unfold oU at h
  split at h
  ·obtain rfl:=Option.some.inj h
   exact ⟨hg,hl,fun y hy=>by have:=hw y hy;omega⟩
  ·rename_i h1
   split at h
   ·cases h
   ·rename_i h2
    obtain ⟨t,ht⟩:=su c l a c.trs.length
    exact af7 (by rw[ht,aac];omega) (by omega) (good_row hg (by omega) (afi _)) (adO (by omega) hw _) h
theorem agF {c:bC} (h:rQ c=0):nC c (kX c)∧(kX c).length≤16384∧yw 16384 (kX c):=
 af7 (aef _) (by show 1≤16384;decide) (afl c) (fun y hy=>by simp only[mk1,agL] at hy;subst hy;exact aef _) (ae7 h).2
def oz (c:bC) (i:Nat) (m:List Bool):Bool:=allM m (xG c i).fr
theorem apv (c:bC) (m:List Bool) (i:Nat):(bn c m i).2=oz c i m:=by
 unfold bn
 split
 ·rename_i h;exact h.symm
 ·rename_i h;exact (aqk.2 h).symm
abbrev Bst := List Int × Bool
def xA (c:bC) (y:Mk) (k:Nat):Bool:=allM y.1 (xG c k).fr&&zu c y.1 k
def jd (c:bC) (y:Mk) (s:Bst) (k:Nat):Bst:=if xA c y k then (if !s.2||decide (cmpL (y.2++[(k:Int)]) s.1<0) then (y.2++[(k:Int)],true) else s) else s
def dn (c:bC) (y:Mk) (s:Bst):Nat→Bst
 | 0=>s
 | k+1=>jd c y (dn c y s k) k
def uJ (c:bC):List Mk→Bst→Bst
 | [],s=>s
 | y :: l,s=>if s.2&&decide (s.1.length<y.2.length+1) then s else uJ c l (dn c y s c.trs.length)
def qL (c:bC):Bst:=uJ c (kX c) ([],false)
def wT (c:bC):PV:=if rQ c=0 then .tup [bP (!(qL c).2),oK (qL c).1,iP 0] else .tup [bP false,oK [],iP (rQ c)]
theorem aal (l:List Int) (k:Nat):∀j,j<0+l.length+1→bJ (0+l.length) (bJ 0 (bf 1 []) (fun j=>[iP (l.getD j 0)])) (bf 1 [iP (k:Int)]) j=[iP ((l++[(k:Int)]).getD j 0)]:=fun j hj=>
 ah4 (a:=l) (b:=[(k:Int)]) (afY _) (fun j hj=>acw (n:=l.length) j (by omega)) (fun j hj=>by
  have hj:j<1:=hj
  obtain rfl:j=0:=by omega
  rfl) j (by rw[aac];show j<l.length+1;omega)
theorem ano:aM Tryz.prog 13 (iq (fun c:bC=>[kE c]) lF wT):=by
 refine iZ [63] ?_
 refine aW (Tb:=tab) mixed aB Tryz.func13 rfl rfl ?_
 rintro (c:bC) hpre
 refine ai (ai rfl (ai rfl rfl)) ?_
 have ho:lF c:=hpre
 refine ei _ (ai (aaT) (ei (c) (ei [] (ai (a4 (ai (fun _=>Or.inl rfl) (ai nof (Or.inl rfl)))) (ai (by exact (ai rfl (ai (ai rfl (fun _ _=>rfl)) (ai (ai rfl (fun _ _=>rfl)) (ai rfl (fun _ _=>rfl)))))) (ai trivial (ai (ho) ?_)))))))
 refine aF (p:=rQ c=0) (bZ (by omega)) (fun h1=>?_) (fun h1=>?_)
 ·refine ai (ai (fun h=>absurd (show false=true from h) (by decide)) ?_) trivial
  show aC _ (wT c)
  rw[wT,if_neg h1]
  exact (ai rfl (ai rfl rfl))
 have hA:wT c=.tup [bP (!(qL c).2),oK (qL c).1,iP 0]:=by unfold wT;rw[if_pos h1]
 obtain ⟨hc,hx⟩:=ae7 h1
 obtain ⟨hg,hl,hw⟩:=agF h1
 have h32:=(kG hc).2.2.2.1
 have hS:qL c=uJ c (kX c) ([],false):=rfl
 generalize kX c=L at *
 refine ei (bI.inv { X:=Nat×Bst,up:=fun x=>[(27,.s (iA x.1)),(8,isR x.2.1),(9,.s (.p false (bP x.2.2)))],uo:=fun _=>[],inv:=fun x=>x.1≤L.length∧qL c=uJ c (L.drop x.1) x.2,meas:=fun x=>L.length-x.1,x0:=(0,([],false)) }) ?_
 refine ai (ai (ai (by exact (a4 (ai rfl rfl))) (ai ?_ ?_)) ?_) (ai ?_ ?_)
 ·exact (ai (ai (ai (fun _=>rfl) (iE (by simp only[zz,reduceCtorEq];rfl))) rfl) (ai rfl (ai (ai (fun _=>rfl) rfl) rfl)))
 ·exact trivial
 ·rfl
 ·exact ⟨aef _,hS⟩
 rintro ⟨a,s⟩ ⟨hal,hs⟩
 have hal:a≤L.length:=hal
 have hs:qL c=uJ c (L.drop a) s:=hs
 refine ah (p:=a<L.length) (av (by omega)) (fun h2=>?_) (fun h2=>?_)
 ·refine ai (ai (abJ _) (iN (n:=L.length) (by omega))) (ai rfl ?_)
  refine ei (fM (L.getD a ay).1) (ai (afV _) ?_)
  have hy:=aee (bT ay h2)
  have hd:L.drop a=L.getD a ay :: L.drop (a+1):=by
   rw[amM h2,aaM,aa8 h2];rfl
  have hga:=hg _ hy
  have hwa:=hw _ hy
  rw[hd] at hs
  refine bE (b:=s.2) rfl (fun h3=>?_) (fun h3=>?_)
  ·refine ai (ai (abJ _) (iN (n:=L.length) (by omega))) (ai rfl ?_)
   refine ah (p:=s.1.length<(L.getD a ay).2.length+1) (by exact av (show (s.1.length:Int)<IntKind.i64.wrap (((L.getD a ay).2.length:Int)+1)↔_ by rw[show IntKind.i64.wrap (((L.getD a ay).2.length:Int)+1)=((L.getD a ay).2.length:Int)+1 from aN (by omega)];omega)) (fun h4=>?_) (fun h4=>?_)
   ·have e:qL c=s:=by rw[hs,uJ,if_pos (by rw[h3,decide_eq_true h4];rfl)]
    refine ai (ai (fun h=>absurd (show false=true from h) (by decide)) ?_) trivial
    show aC _ (wT c)
    rw[hA,e]
    exact (ai rfl (ai (ai rfl (fun _ _=>rfl)) rfl))
   ·have hs2:qL c=uJ c (L.drop (a+1)) (dn c (L.getD a ay) s c.trs.length):=by rw[hs,uJ,if_neg (by rw[decide_eq_false h4];simp)]
    refine ei (bI.inv { X:=Nat,up:=fun k=>[(47,.s (iA k)),(8,isR (dn c (L.getD a ay) s k).1),(9,.s (.p false (bP (dn c (L.getD a ay) s k).2)))],uo:=fun k=>[],inv:=fun k=>k≤c.trs.length∧(True),meas:=fun k=>c.trs.length-k,x0:=0 }) ?_
    refine ai (ai (ai (by exact (a4 (ai rfl rfl))) (ai ?_ ?_)) rfl) (ai (ai (aef _) ?_) ?_)
    ·exact (ai (ai (ai (fun _=>rfl) (iE (by simp only[zz,reduceCtorEq];rfl))) rfl) (ai (ai rfl (ai rfl (ai rfl (fun _ _=>rfl)))) (ai (ai nof rfl) rfl)))
    ·exact trivial
    ·trivial
    intro (k:Nat) ⟨hk,_⟩
    have hst:dn c (L.getD a ay) s (k+1)=jd c (L.getD a ay) (dn c (L.getD a ay) s k) k:=rfl
    refine ah (p:=k<c.trs.length) (av (by omega)) (fun h5=>?_) (fun h5=>?_)
    ·refine ei _ (ai ((jH aax (c,(L.getD a ay).1,k) ⟨hc,ho,hga.1,h5⟩ (r:=.tup [uy (bn c (L.getD a ay).1 k).1,bP (oz c k (L.getD a ay).1)]) (by show zi c (L.getD a ay).1 k=_;unfold zi;rw[apv]))) (ei (()) (ei [] (ai (a4 (ai (fun _=>Or.inl rfl) (ai nof (Or.inl rfl)))) (ai (by exact (ai (ai rfl (ai (ai rfl (fun _ _=>rfl)) (ai (ai rfl (fun _ _=>rfl)) (ai rfl (fun _ _=>rfl))))) (ai (ai rfl (fun _ _=>rfl)) rfl))) (ai trivial (ai (trivial) ?_)))))))
     refine bE (b:=!oz c k (L.getD a ay).1) rfl (fun h6=>?_) (fun h6=>?_)
     ·have h6:allM (L.getD a ay).1 (xG c k).fr=false:=by simpa [oz] using h6
      have e:dn c (L.getD a ay) s (k+1)=dn c (L.getD a ay) s k:=by rw[hst];unfold jd;rw[if_neg (by unfold xA;rw[h6];simp)]
      refine ei (k+1) (ai (ai rfl rfl) (ai (ai (ai rfl (ai (ai rfl rfl) (ai (ai rfl rfl) (ai (ai (ai (ai (fun _=>rfl) (aN (by omega))) rfl) (ai (ai rfl (ai rfl (ai ?_ ?_))) (ai (ai nof ?_) rfl))) trivial)))) rfl) (ai (ai (iL (by omega)) trivial) (iM (by omega)))))
      all_goals rw[e]
      ·exact fun _ _=>rfl
      ·exact rfl
     have h6:allM (L.getD a ay).1 (xG c k).fr=true:=by simpa [oz] using h6
     refine ei _ (ai (aej) (ei ((c,(L.getD a ay).1,k)) (ei [] (ai (a4 (ai (fun _=>Or.inl rfl) (ai nof (Or.inl rfl)))) (ai (by exact (ai (ai rfl (ai (ai rfl (fun _ _=>rfl)) (ai (ai rfl (fun _ _=>rfl)) (ai rfl (fun _ _=>rfl))))) (ai (ai rfl (fun _ _=>rfl)) rfl))) (ai trivial (ai (⟨hc,ho,h5⟩) ?_)))))))
     refine bE (b:=!zu c (L.getD a ay).1 k) rfl (fun h7=>?_) (fun h7=>?_)
     ·have h7:zu c (L.getD a ay).1 k=false:=by simpa using h7
      have e:dn c (L.getD a ay) s (k+1)=dn c (L.getD a ay) s k:=by rw[hst];unfold jd;rw[if_neg (by unfold xA;rw[h7];simp)]
      refine ei (k+1) (ai (ai rfl rfl) (ai (ai (ai rfl (ai (ai rfl rfl) (ai (ai rfl rfl) (ai (ai (ai (ai (fun _=>rfl) (aN (by omega))) rfl) (ai (ai rfl (ai rfl (ai ?_ ?_))) (ai (ai nof ?_) rfl))) trivial)))) rfl) (ai (ai (iL (by omega)) trivial) (iM (by omega)))))
      all_goals rw[e]
      ·exact fun _ _=>rfl
      ·exact rfl
     have h7:zu c (L.getD a ay).1 k=true:=by simpa using h7
     have hbad:xA c (L.getD a ay) k=true:=by unfold xA;rw[h6,h7];rfl
     refine ai (ai (abJ _) (iN (n:=L.length) (by omega))) (ai rfl ?_)
     have hcl:((L.getD a ay).2++[(k:Int)]).length≤1000000:=by rw[aac];show (L.getD a ay).2.length+1≤_;omega
     refine eF mixed aB Tryz.func63 rfl rfl ?_
     refine ai rfl ?_
     intro b hb
     refine bg (fun hb0=>?_) (fun hb0=>?_)
     ·have hb1:(L.getD a ay).2.length=0:=hb hb0
      have hb2:=amY.1 hb1
      refine ai (ai (by decide) (by decide)) (ai (aJ 1 rfl) ?_)
      refine bE (b:=!(dn c (L.getD a ay) s k).2) rfl (fun h8=>?_) (fun h8=>?_)
      ·have e:dn c (L.getD a ay) s (k+1)=((L.getD a ay).2++[(k:Int)],true):=by rw[hst];unfold jd;rw[if_pos hbad,if_pos (by rw[h8];rfl)]
       refine ei (k+1) (ai (ai rfl rfl) (ai (ai (ai rfl (ai (ai rfl rfl) (ai (ai rfl rfl) (ai (ai (ai (ai (fun _=>rfl) (aN (by omega))) rfl) (ai (ai rfl (ai rfl (ai ?_ ?_))) (ai (ai (fun _=>rfl) ?_) rfl))) trivial)))) rfl) (ai (ai (iL (by omega)) trivial) (iM (by omega)))))
       all_goals rw[e]
       ·(rw[hb2];first | done | rfl)
       ·(rw[hb2];intro j hj;have hj:j<1:=hj;obtain rfl:j=0:=(by omega);rfl)
       ·exact rfl
      refine ei _ (ai (aav) (ei (((L.getD a ay).2++[(k:Int)],(dn c (L.getD a ay) s k).1)) (ei [] (ai (ai rfl (ai rfl (ai rfl (ai rfl (ai (fun _=>Or.inl rfl) (ai (fun _=>ai rfl rfl) (Or.inl rfl))))))) (ai ?_ (ai (by exact trivial) (ai (hcl) ?_)))))))
      ·refine (ai (ai ?_ ?_) (ai rfl (fun _ _=>rfl)))
       ·(rw[hb2];first | done | rfl)
       ·(rw[hb2];intro j hj;have hj:j<1:=hj;obtain rfl:j=0:=(by omega);rfl)
      refine ah (p:=cmpL ((L.getD a ay).2++[(k:Int)]) (dn c (L.getD a ay) s k).1<0) (av Iff.rfl) (fun h9=>?_) (fun h9=>?_)
      ·have e:dn c (L.getD a ay) s (k+1)=((L.getD a ay).2++[(k:Int)],true):=by rw[hst];unfold jd;rw[if_pos hbad,if_pos (by rw[decide_eq_true h9];simp)]
       refine ei (k+1) (ai (ai rfl rfl) (ai (ai (ai rfl (ai (ai rfl rfl) (ai (ai rfl rfl) (ai (ai (ai (ai (fun _=>rfl) (aN (by omega))) rfl) (ai (ai rfl (ai rfl (ai ?_ ?_))) (ai (ai (fun _=>rfl) ?_) rfl))) trivial)))) rfl) (ai (ai (iL (by omega)) trivial) (iM (by omega)))))
       all_goals rw[e]
       ·(rw[hb2];first | done | rfl)
       ·(rw[hb2];intro j hj;have hj:j<1:=hj;obtain rfl:j=0:=(by omega);rfl)
       ·exact rfl
      ·have e:dn c (L.getD a ay) s (k+1)=dn c (L.getD a ay) s k:=by rw[hst];unfold jd;rw[if_pos hbad,if_neg (by rw[h8,decide_eq_false h9];simp)]
       refine ei (k+1) (ai (ai rfl rfl) (ai (ai (ai rfl (ai (ai rfl rfl) (ai (ai rfl rfl) (ai (ai (ai (ai (fun _=>rfl) (aN (by omega))) rfl) (ai (ai rfl (ai rfl (ai ?_ ?_))) (ai (ai nof ?_) rfl))) trivial)))) rfl) (ai (ai (iL (by omega)) trivial) (iM (by omega)))))
       all_goals rw[e]
       ·exact fun _ _=>rfl
       ·exact rfl
     ·refine ai (mxL (n:=0+(L.getD a ay).2.length) (by omega) (by decide)) (ai (fun _ _=>rfl) ?_)
      refine ai (mxL (n:=0+(L.getD a ay).2.length+1) (by omega) (by decide)) (ai (aJ 1 rfl) ?_)
      refine bE (b:=!(dn c (L.getD a ay) s k).2) rfl (fun h8=>?_) (fun h8=>?_)
      ·have e:dn c (L.getD a ay) s (k+1)=((L.getD a ay).2++[(k:Int)],true):=by rw[hst];unfold jd;rw[if_pos hbad,if_pos (by rw[h8];rfl)]
       refine ei (k+1) (ai (ai rfl rfl) (ai (ai (ai rfl (ai (ai rfl rfl) (ai (ai rfl rfl) (ai (ai (ai (ai (fun _=>rfl) (aN (by omega))) rfl) (ai (ai rfl (ai rfl (ai ?_ ?_))) (ai (ai (fun _=>rfl) ?_) rfl))) trivial)))) rfl) (ai (ai (iL (by omega)) trivial) (iM (by omega)))))
       all_goals rw[e]
       ·(rw[aac];exact congrArg (·+1) (afY _))
       ·exact aal _ _
       ·exact rfl
      refine ei _ (ai (aav) (ei (((L.getD a ay).2++[(k:Int)],(dn c (L.getD a ay) s k).1)) (ei [] (ai (ai rfl (ai rfl (ai rfl (ai rfl (ai (fun _=>Or.inl rfl) (ai (fun _=>ai rfl rfl) (Or.inl rfl))))))) (ai ?_ (ai (by exact trivial) (ai (hcl) ?_)))))))
      ·refine (ai (ai ?_ ?_) (ai rfl (fun _ _=>rfl)))
       ·(rw[aac];exact congrArg (·+1) (afY _))
       ·exact aal _ _
      refine ah (p:=cmpL ((L.getD a ay).2++[(k:Int)]) (dn c (L.getD a ay) s k).1<0) (av Iff.rfl) (fun h9=>?_) (fun h9=>?_)
      ·have e:dn c (L.getD a ay) s (k+1)=((L.getD a ay).2++[(k:Int)],true):=by rw[hst];unfold jd;rw[if_pos hbad,if_pos (by rw[decide_eq_true h9];simp)]
       refine ei (k+1) (ai (ai rfl rfl) (ai (ai (ai rfl (ai (ai rfl rfl) (ai (ai rfl rfl) (ai (ai (ai (ai (fun _=>rfl) (aN (by omega))) rfl) (ai (ai rfl (ai rfl (ai ?_ ?_))) (ai (ai (fun _=>rfl) ?_) rfl))) trivial)))) rfl) (ai (ai (iL (by omega)) trivial) (iM (by omega)))))
       all_goals rw[e]
       ·(rw[aac];exact congrArg (·+1) (afY _))
       ·exact aal _ _
       ·exact rfl
      ·have e:dn c (L.getD a ay) s (k+1)=dn c (L.getD a ay) s k:=by rw[hst];unfold jd;rw[if_pos hbad,if_neg (by rw[h8,decide_eq_false h9];simp)]
       refine ei (k+1) (ai (ai rfl rfl) (ai (ai (ai rfl (ai (ai rfl rfl) (ai (ai rfl rfl) (ai (ai (ai (ai (fun _=>rfl) (aN (by omega))) rfl) (ai (ai rfl (ai rfl (ai ?_ ?_))) (ai (ai nof ?_) rfl))) trivial)))) rfl) (ai (ai (iL (by omega)) trivial) (iM (by omega)))))
       all_goals rw[e]
       ·exact fun _ _=>rfl
       ·exact rfl
    ·obtain rfl:k=c.trs.length:=by omega
     refine ei ((a+1,dn c (L.getD a ay) s c.trs.length)) (ai (ai rfl rfl) (ai (ai ?_ rfl) (ai ?_ ?_)))
     ·exact (ai rfl (ai (ai rfl rfl) (ai (ai rfl rfl) (ai (ai (ai (ai (fun _=>rfl) (aN (by omega))) rfl) (ai (ai rfl (ai rfl (ai rfl (fun _ _=>rfl)))) (ai (ai nof rfl) rfl))) trivial))))
     ·exact ⟨h2,hs2⟩
     ·show L.length-(a+1)<L.length-a;omega
  ·have hs2:qL c=uJ c (L.drop (a+1)) (dn c (L.getD a ay) s c.trs.length):=by rw[hs,uJ,if_neg (by rw[h3];simp)]
   refine ei (bI.inv { X:=Nat,up:=fun k=>[(47,.s (iA k)),(8,isR (dn c (L.getD a ay) s k).1),(9,.s (.p false (bP (dn c (L.getD a ay) s k).2)))],uo:=fun k=>[],inv:=fun k=>k≤c.trs.length∧(True),meas:=fun k=>c.trs.length-k,x0:=0 }) ?_
   refine ai (ai (ai (by exact (a4 (ai rfl rfl))) (ai ?_ ?_)) rfl) (ai (ai (aef _) ?_) ?_)
   ·exact (ai (ai (ai (fun _=>rfl) (iE (by simp only[zz,reduceCtorEq];rfl))) rfl) (ai (ai rfl (ai rfl (ai rfl (fun _ _=>rfl)))) (ai (ai nof rfl) rfl)))
   ·exact trivial
   ·trivial
   intro (k:Nat) ⟨hk,_⟩
   have hst:dn c (L.getD a ay) s (k+1)=jd c (L.getD a ay) (dn c (L.getD a ay) s k) k:=rfl
   refine ah (p:=k<c.trs.length) (av (by omega)) (fun h5=>?_) (fun h5=>?_)
   ·refine ei _ (ai ((jH aax (c,(L.getD a ay).1,k) ⟨hc,ho,hga.1,h5⟩ (r:=.tup [uy (bn c (L.getD a ay).1 k).1,bP (oz c k (L.getD a ay).1)]) (by show zi c (L.getD a ay).1 k=_;unfold zi;rw[apv]))) (ei (()) (ei [] (ai (a4 (ai (fun _=>Or.inl rfl) (ai nof (Or.inl rfl)))) (ai (by exact (ai (ai rfl (ai (ai rfl (fun _ _=>rfl)) (ai (ai rfl (fun _ _=>rfl)) (ai rfl (fun _ _=>rfl))))) (ai (ai rfl (fun _ _=>rfl)) rfl))) (ai trivial (ai (trivial) ?_)))))))
    refine bE (b:=!oz c k (L.getD a ay).1) rfl (fun h6=>?_) (fun h6=>?_)
    ·have h6:allM (L.getD a ay).1 (xG c k).fr=false:=by simpa [oz] using h6
     have e:dn c (L.getD a ay) s (k+1)=dn c (L.getD a ay) s k:=by rw[hst];unfold jd;rw[if_neg (by unfold xA;rw[h6];simp)]
     refine ei (k+1) (ai (ai rfl rfl) (ai (ai (ai rfl (ai (ai rfl rfl) (ai (ai rfl rfl) (ai (ai (ai (ai (fun _=>rfl) (aN (by omega))) rfl) (ai (ai rfl (ai rfl (ai ?_ ?_))) (ai (ai nof ?_) rfl))) trivial)))) rfl) (ai (ai (iL (by omega)) trivial) (iM (by omega)))))
     all_goals rw[e]
     ·exact fun _ _=>rfl
     ·exact rfl
    have h6:allM (L.getD a ay).1 (xG c k).fr=true:=by simpa [oz] using h6
    refine ei _ (ai (aej) (ei ((c,(L.getD a ay).1,k)) (ei [] (ai (a4 (ai (fun _=>Or.inl rfl) (ai nof (Or.inl rfl)))) (ai (by exact (ai (ai rfl (ai (ai rfl (fun _ _=>rfl)) (ai (ai rfl (fun _ _=>rfl)) (ai rfl (fun _ _=>rfl))))) (ai (ai rfl (fun _ _=>rfl)) rfl))) (ai trivial (ai (⟨hc,ho,h5⟩) ?_)))))))
    refine bE (b:=!zu c (L.getD a ay).1 k) rfl (fun h7=>?_) (fun h7=>?_)
    ·have h7:zu c (L.getD a ay).1 k=false:=by simpa using h7
     have e:dn c (L.getD a ay) s (k+1)=dn c (L.getD a ay) s k:=by rw[hst];unfold jd;rw[if_neg (by unfold xA;rw[h7];simp)]
     refine ei (k+1) (ai (ai rfl rfl) (ai (ai (ai rfl (ai (ai rfl rfl) (ai (ai rfl rfl) (ai (ai (ai (ai (fun _=>rfl) (aN (by omega))) rfl) (ai (ai rfl (ai rfl (ai ?_ ?_))) (ai (ai nof ?_) rfl))) trivial)))) rfl) (ai (ai (iL (by omega)) trivial) (iM (by omega)))))
     all_goals rw[e]
     ·exact fun _ _=>rfl
     ·exact rfl
    have h7:zu c (L.getD a ay).1 k=true:=by simpa using h7
    have hbad:xA c (L.getD a ay) k=true:=by unfold xA;rw[h6,h7];rfl
    refine ai (ai (abJ _) (iN (n:=L.length) (by omega))) (ai rfl ?_)
    have hcl:((L.getD a ay).2++[(k:Int)]).length≤1000000:=by rw[aac];show (L.getD a ay).2.length+1≤_;omega
    refine eF mixed aB Tryz.func63 rfl rfl ?_
    refine ai rfl ?_
    intro b hb
    refine bg (fun hb0=>?_) (fun hb0=>?_)
    ·have hb1:(L.getD a ay).2.length=0:=hb hb0
     have hb2:=amY.1 hb1
     refine ai (ai (by decide) (by decide)) (ai (aJ 1 rfl) ?_)
     refine bE (b:=!(dn c (L.getD a ay) s k).2) rfl (fun h8=>?_) (fun h8=>?_)
     ·have e:dn c (L.getD a ay) s (k+1)=((L.getD a ay).2++[(k:Int)],true):=by rw[hst];unfold jd;rw[if_pos hbad,if_pos (by rw[h8];rfl)]
      refine ei (k+1) (ai (ai rfl rfl) (ai (ai (ai rfl (ai (ai rfl rfl) (ai (ai rfl rfl) (ai (ai (ai (ai (fun _=>rfl) (aN (by omega))) rfl) (ai (ai rfl (ai rfl (ai ?_ ?_))) (ai (ai (fun _=>rfl) ?_) rfl))) trivial)))) rfl) (ai (ai (iL (by omega)) trivial) (iM (by omega)))))
      all_goals rw[e]
      ·(rw[hb2];first | done | rfl)
      ·(rw[hb2];intro j hj;have hj:j<1:=hj;obtain rfl:j=0:=(by omega);rfl)
      ·exact rfl
     refine ei _ (ai (aav) (ei (((L.getD a ay).2++[(k:Int)],(dn c (L.getD a ay) s k).1)) (ei [] (ai (ai rfl (ai rfl (ai rfl (ai rfl (ai (fun _=>Or.inl rfl) (ai (fun _=>ai rfl rfl) (Or.inl rfl))))))) (ai ?_ (ai (by exact trivial) (ai (hcl) ?_)))))))
     ·refine (ai (ai ?_ ?_) (ai rfl (fun _ _=>rfl)))
      ·(rw[hb2];first | done | rfl)
      ·(rw[hb2];intro j hj;have hj:j<1:=hj;obtain rfl:j=0:=(by omega);rfl)
     refine ah (p:=cmpL ((L.getD a ay).2++[(k:Int)]) (dn c (L.getD a ay) s k).1<0) (av Iff.rfl) (fun h9=>?_) (fun h9=>?_)
     ·have e:dn c (L.getD a ay) s (k+1)=((L.getD a ay).2++[(k:Int)],true):=by rw[hst];unfold jd;rw[if_pos hbad,if_pos (by rw[decide_eq_true h9];simp)]
      refine ei (k+1) (ai (ai rfl rfl) (ai (ai (ai rfl (ai (ai rfl rfl) (ai (ai rfl rfl) (ai (ai (ai (ai (fun _=>rfl) (aN (by omega))) rfl) (ai (ai rfl (ai rfl (ai ?_ ?_))) (ai (ai (fun _=>rfl) ?_) rfl))) trivial)))) rfl) (ai (ai (iL (by omega)) trivial) (iM (by omega)))))
      all_goals rw[e]
      ·(rw[hb2];first | done | rfl)
      ·(rw[hb2];intro j hj;have hj:j<1:=hj;obtain rfl:j=0:=(by omega);rfl)
      ·exact rfl
     ·have e:dn c (L.getD a ay) s (k+1)=dn c (L.getD a ay) s k:=by rw[hst];unfold jd;rw[if_pos hbad,if_neg (by rw[h8,decide_eq_false h9];simp)]
      refine ei (k+1) (ai (ai rfl rfl) (ai (ai (ai rfl (ai (ai rfl rfl) (ai (ai rfl rfl) (ai (ai (ai (ai (fun _=>rfl) (aN (by omega))) rfl) (ai (ai rfl (ai rfl (ai ?_ ?_))) (ai (ai nof ?_) rfl))) trivial)))) rfl) (ai (ai (iL (by omega)) trivial) (iM (by omega)))))
      all_goals rw[e]
      ·exact fun _ _=>rfl
      ·exact rfl
    ·refine ai (mxL (n:=0+(L.getD a ay).2.length) (by omega) (by decide)) (ai (fun _ _=>rfl) ?_)
     refine ai (mxL (n:=0+(L.getD a ay).2.length+1) (by omega) (by decide)) (ai (aJ 1 rfl) ?_)
     refine bE (b:=!(dn c (L.getD a ay) s k).2) rfl (fun h8=>?_) (fun h8=>?_)
     ·have e:dn c (L.getD a ay) s (k+1)=((L.getD a ay).2++[(k:Int)],true):=by rw[hst];unfold jd;rw[if_pos hbad,if_pos (by rw[h8];rfl)]
      refine ei (k+1) (ai (ai rfl rfl) (ai (ai (ai rfl (ai (ai rfl rfl) (ai (ai rfl rfl) (ai (ai (ai (ai (fun _=>rfl) (aN (by omega))) rfl) (ai (ai rfl (ai rfl (ai ?_ ?_))) (ai (ai (fun _=>rfl) ?_) rfl))) trivial)))) rfl) (ai (ai (iL (by omega)) trivial) (iM (by omega)))))
      all_goals rw[e]
      ·(rw[aac];exact congrArg (·+1) (afY _))
      ·exact aal _ _
      ·exact rfl
     refine ei _ (ai (aav) (ei (((L.getD a ay).2++[(k:Int)],(dn c (L.getD a ay) s k).1)) (ei [] (ai (ai rfl (ai rfl (ai rfl (ai rfl (ai (fun _=>Or.inl rfl) (ai (fun _=>ai rfl rfl) (Or.inl rfl))))))) (ai ?_ (ai (by exact trivial) (ai (hcl) ?_)))))))
     ·refine (ai (ai ?_ ?_) (ai rfl (fun _ _=>rfl)))
      ·(rw[aac];exact congrArg (·+1) (afY _))
      ·exact aal _ _
     refine ah (p:=cmpL ((L.getD a ay).2++[(k:Int)]) (dn c (L.getD a ay) s k).1<0) (av Iff.rfl) (fun h9=>?_) (fun h9=>?_)
     ·have e:dn c (L.getD a ay) s (k+1)=((L.getD a ay).2++[(k:Int)],true):=by rw[hst];unfold jd;rw[if_pos hbad,if_pos (by rw[decide_eq_true h9];simp)]
      refine ei (k+1) (ai (ai rfl rfl) (ai (ai (ai rfl (ai (ai rfl rfl) (ai (ai rfl rfl) (ai (ai (ai (ai (fun _=>rfl) (aN (by omega))) rfl) (ai (ai rfl (ai rfl (ai ?_ ?_))) (ai (ai (fun _=>rfl) ?_) rfl))) trivial)))) rfl) (ai (ai (iL (by omega)) trivial) (iM (by omega)))))
      all_goals rw[e]
      ·(rw[aac];exact congrArg (·+1) (afY _))
      ·exact aal _ _
      ·exact rfl
     ·have e:dn c (L.getD a ay) s (k+1)=dn c (L.getD a ay) s k:=by rw[hst];unfold jd;rw[if_pos hbad,if_neg (by rw[h8,decide_eq_false h9];simp)]
      refine ei (k+1) (ai (ai rfl rfl) (ai (ai (ai rfl (ai (ai rfl rfl) (ai (ai rfl rfl) (ai (ai (ai (ai (fun _=>rfl) (aN (by omega))) rfl) (ai (ai rfl (ai rfl (ai ?_ ?_))) (ai (ai nof ?_) rfl))) trivial)))) rfl) (ai (ai (iL (by omega)) trivial) (iM (by omega)))))
      all_goals rw[e]
      ·exact fun _ _=>rfl
      ·exact rfl
   ·obtain rfl:k=c.trs.length:=by omega
    refine ei ((a+1,dn c (L.getD a ay) s c.trs.length)) (ai (ai rfl rfl) (ai (ai ?_ rfl) (ai ?_ ?_)))
    ·exact (ai rfl (ai (ai rfl rfl) (ai (ai rfl rfl) (ai (ai (ai (ai (fun _=>rfl) (aN (by omega))) rfl) (ai (ai rfl (ai rfl (ai rfl (fun _ _=>rfl)))) (ai (ai nof rfl) rfl))) trivial))))
    ·exact ⟨h2,hs2⟩
    ·show L.length-(a+1)<L.length-a;omega
 ·have e:qL c=s:=by rw[hs,arp (by omega)];rfl
  refine ai (ai (fun h=>absurd (show false=true from h) (by decide)) ?_) trivial
  show aC _ (wT c)
  rw[hA,e]
  exact (ai rfl (ai (ai rfl (fun _ _=>rfl)) rfl))
end Go.Sx.Pe
namespace Go.Proofs
open Go.Shelf
def Tryz.vT:Go.Shelf.Ren:=⟨fun | 6=>99 | 15=>153 | 14=>152 | 28=>192 | 29=>193 | 20=>184 | 21=>185 | 22=>186 | 23=>187 | 24=>188 | 25=>189 | 26=>190 | 27=>191 | 46=>210 | 47=>211 | 48=>212 | 49=>213 | 50=>214 | 57=>225 | n=>n,fun | 22=>62 | 24=>72 | 25=>169 | 3=>3 | 39=>214 | 0=>0 | 53=>250 | 55=>252 | 4=>4 | 46=>244 | 45=>243 | 50=>101 | 5=>5 | 9=>9 | 66=>265 | 70=>269 | 76=>282 | 77=>283 | n=>n,fun | n=>n⟩
theorem Tryz.ake : Go.Proofs.SlLaysF.n6 Tryz.prog Tryz.vT := {
  mixed := by kernel_rfl
  f6 := ⟨Tryz.f99.name, by decide, Tryz.func99.trans (congrArg some (by kernel_rfl))⟩
  f14 := ⟨Tryz.f152.name, by decide, Tryz.func152.trans (congrArg some (by kernel_rfl))⟩
  f15 := Tryz.func153.trans (congrArg some (by kernel_rfl))
  f20 := ⟨Tryz.f184.name, by decide, Tryz.func184.trans (congrArg some (by kernel_rfl))⟩
  f21 := ⟨Tryz.f185.name, by decide, Tryz.func185.trans (congrArg some (by kernel_rfl))⟩
  f22 := ⟨Tryz.f186.name, by decide, Tryz.func186.trans (congrArg some (by kernel_rfl))⟩
  f23 := ⟨Tryz.f187.name, by decide, Tryz.func187.trans (congrArg some (by kernel_rfl))⟩
  f24 := ⟨Tryz.f188.name, by decide, Tryz.func188.trans (congrArg some (by kernel_rfl))⟩
  f25 := ⟨Tryz.f189.name, by decide, Tryz.func189.trans (congrArg some (by kernel_rfl))⟩
  f26 := ⟨Tryz.f190.name, by decide, Tryz.func190.trans (congrArg some (by kernel_rfl))⟩
  f27 := ⟨Tryz.f191.name, by decide, Tryz.func191.trans (congrArg some (by kernel_rfl))⟩
  f28 := Tryz.func192.trans (congrArg some (by kernel_rfl))
  f29 := Tryz.func193.trans (congrArg some (by kernel_rfl))
  f46 := ⟨Tryz.f210.name, by decide, Tryz.func210.trans (congrArg some (by kernel_rfl))⟩
  f47 := Tryz.func211.trans (congrArg some (by kernel_rfl))
  f48 := Tryz.func212.trans (congrArg some (by kernel_rfl))
  f49 := ⟨Tryz.f213.name, by decide, Tryz.func213.trans (congrArg some (by kernel_rfl))⟩
  f50 := ⟨Tryz.f214.name, by decide, Tryz.func214.trans (congrArg some (by kernel_rfl))⟩
  f57 := ⟨Tryz.f225.name, by decide, Tryz.func225.trans (congrArg some (by kernel_rfl))⟩
  t0 := Tryz.underlying0
  a0 := Tryz.isAgg0
  z0 := Tryz.sizeOf0
  v0 := Tryz.zeroValue0
  t3 := Tryz.underlying3
  a3 := Tryz.isAgg3
  z3 := Tryz.sizeOf3
  v3 := Tryz.zeroValue3
  t4 := Tryz.underlying4
  a4 := Tryz.isAgg4
  z4 := Tryz.sizeOf4
  v4 := Tryz.zeroValue4
  t5 := Tryz.underlying5
  a5 := Tryz.isAgg5
  z5 := Tryz.sizeOf5
  v5 := Tryz.zeroValue5
  t9 := Tryz.underlying9
  a9 := Tryz.isAgg9
  z9 := Tryz.sizeOf9
  v9 := Tryz.zeroValue9
  t22 := Tryz.underlying62
  a22 := Tryz.isAgg62
  z22 := Tryz.sizeOf62
  v22 := Tryz.zeroValue62
  a24 := Tryz.isAgg72
  z24 := Tryz.sizeOf72
  t25 := Tryz.underlying169
  a25 := Tryz.isAgg169
  z25 := Tryz.sizeOf169
  v25 := Tryz.zeroValue169
  t39 := Tryz.underlying214
  a39 := Tryz.isAgg214
  z39 := Tryz.sizeOf214
  v39 := Tryz.zeroValue214
  t45 := Tryz.underlying243
  a45 := Tryz.isAgg243
  z45 := Tryz.sizeOf243
  v45 := Tryz.zeroValue243
  t46 := Tryz.underlying244
  a46 := Tryz.isAgg244
  z46 := Tryz.sizeOf244
  v46 := Tryz.zeroValue244
  t50 := Tryz.underlying101
  a50 := Tryz.isAgg101
  z50 := Tryz.sizeOf101
  v50 := Tryz.zeroValue101
  t53 := Tryz.underlying250
  a53 := Tryz.isAgg250
  z53 := Tryz.sizeOf250
  v53 := Tryz.zeroValue250
  t55 := Tryz.underlying252
  a55 := Tryz.isAgg252
  z55 := Tryz.sizeOf252
  v55 := Tryz.zeroValue252
  t66 := Tryz.underlying265
  a66 := Tryz.isAgg265
  z66 := Tryz.sizeOf265
  v66 := Tryz.zeroValue265
  t70 := Tryz.underlying269
  a70 := Tryz.isAgg269
  z70 := Tryz.sizeOf269
  v70 := Tryz.zeroValue269
  t76 := Tryz.underlying282
  a76 := Tryz.isAgg282
  z76 := Tryz.sizeOf282
  v76 := Tryz.zeroValue282
  t77 := Tryz.underlying283
  a77 := Tryz.isAgg283
  z77 := Tryz.sizeOf283
  v77 := Tryz.zeroValue283 }
end Go.Proofs
namespace Go.Sx.Pe
open Go Go.Proofs Go.Sx.Pn Go.RowKit Go.Shelf
def BS (w:World) (v:Value) (l:List Bool):Prop:=∃p c,v=.slice p l.length c∧∀k,k<l.length→∃bb o,p=some ⟨bb,o,none⟩∧w.cell? ⟨bb,o+k,none⟩=some (.bool (l.getD k false))
theorem ahg (a b:List Bool) (v1 v2:Value) (w:World) (hab:a.length=b.length) (hl:a.length≤1000000) (h1:BS w v1 a) (h2:BS w v2 b) :
  Calls Tryz.prog 100 #[v1,v2] w fun e w'=>e=.returned (.int .i64 (gH a b))∧w'=w:=by
 obtain ⟨p1,c1,rfl,g1⟩:=h1
 obtain ⟨p2,c2,rfl,g2⟩:=h2
 rw[←hab] at g2 ⊢
 have g1:=Lib.hid g1
 have g2:=Lib.hid g2
 go_enter Tryz.func100,Tryz.ntmps100
 go_wp2_with (fail)
 go_loop [9] (fun i=>∃k:Nat,k≤a.length∧i=.int .i64 k∧a.take k=b.take k) (fun i=>a.length-(Proofs.intOf i).toNat)
 case atStart=>exact ⟨0,aef _,rfl,rfl⟩
 case round=>
  obtain ⟨k,hk,rfl,hall⟩:=hrel
  have hall:=Lib.hid hall
  by_cases hlt:k<a.length
  ·obtain ⟨x1,o1,rfl,e1⟩:=g1.out k hlt
   obtain ⟨x2,o2,hp2,e2⟩:=g2.out k hlt
   have he:=Lib.hid (anw hab hlt hall.out)
   have hs:=Lib.hid (wz false hlt (by omega) hall.out)
   obtain ⟨ba,hba⟩:∃x,a.getD k false=x:=⟨_,rfl⟩
   obtain ⟨bb,hbb⟩:∃x,b.getD k false=x:=⟨_,rfl⟩
   rw[hba] at e1
   rw[hbb] at e2
   replace hba:=Lib.hid hba
   replace hbb:=Lib.hid hbb
   subst hp2
   cases ba<;>cases bb
   ·go_wp2_with (fail)
    go_round
    case rel=>exact ⟨k+1,by omega,by go_num,hs.out (hba.out.trans hbb.out.symm)⟩
    case measure=>simp[Proofs.intOf];omega
   ·have hr:gH a b=-1:=by rw[he.out (by rw[hba.out,hbb.out];decide),hbb.out];rfl
    have hr:=Lib.hid hr
    go_wp2_with (fail)
    go_ret
    exact ⟨by first | rfl | (rw[hr.out];rfl),rfl⟩
   ·have hr:gH a b=1:=by rw[he.out (by rw[hba.out,hbb.out];decide),hbb.out];rfl
    have hr:=Lib.hid hr
    go_wp2_with (fail)
    go_ret
    exact ⟨by first | rfl | (rw[hr.out];rfl),rfl⟩
   ·go_wp2_with (fail)
    go_round
    case rel=>exact ⟨k+1,by omega,by go_num,hs.out (hba.out.trans hbb.out.symm)⟩
    case measure=>simp[Proofs.intOf];omega
  ·obtain rfl:k=a.length:=by omega
   have hr:gH a b=0:=ahp (by have:=hall.out;rw[afz,hab,afz] at this;exact this)
   have hr:=Lib.hid hr
   go_wp2_with (fail)
   go_ret
   exact ⟨by first | rfl | (rw[hr.out];rfl),rfl⟩
end Go.Sx.Pe
namespace Go.Sx.Pe
open Go Go.Proofs Go.Sx.Pn
theorem zk:∀a b:List Bool,gH b a=-gH a b
 | [],[]=>rfl
 | [],_ :: _=>rfl
 | _ :: _,[]=>rfl
 | x :: a,y :: b=>by
  have ih:=zk a b
  cases x<;>cases y<;>simp[gH,ih]
theorem ad9:∀{a b:List Bool},a.length=b.length→gH a b=0→a=b
 | [],[],_,_=>rfl
 | [],_ :: _,h,_=>by simp at h
 | _ :: _,[],h,_=>by simp at h
 | x :: a,y :: b,h,e=>by
  have ih:=ad9 (a:=a) (b:=b) (by simpa using h)
  cases x<;>cases y<;>simp[gH] at e<;>rw[ih e]
theorem wu:∀{a b c:List Bool},a.length=b.length→b.length=c.length→gH a b<0→gH b c<0→gH a c<0
 | [],[],_,_,_,h,_=>by simp[gH] at h
 | [],_ :: _,_,h,_,_,_=>by simp at h
 | _ :: _,[],_,h,_,_,_=>by simp at h
 | _ :: _,_ :: _,[],_,h,_,_=>by simp at h
 | x :: a,y :: b,z :: c,h1,h2,h,k=>by
  have ih:=wu (a:=a) (b:=b) (c:=c) (by simpa using h1) (by simpa using h2)
  cases x<;>cases y<;>cases z<;>simp[gH] at h k ⊢<;>exact ih h k
def nS (a b:List Bool):Prop:=gH a b<0
theorem aiq {n:Nat} {a b:List Bool} (ha:a.length=n) (hb:b.length=n) (h:¬nS a b):nS b a∨a=b:=by
 unfold nS at *
 by_cases e:gH a b=0
 ·exact .inr (ad9 (ha.trans hb.symm) e)
 ·left;rw[zk a b];omega
theorem ai9 (a:List Bool):¬nS a a:=by unfold nS;rw[ahp rfl];decide
theorem akB {a b:List Bool} (h:nS a b):¬nS b a:=by unfold nS at *;rw[zk a b];omega
theorem ach {n:Nat} {a b c:List Bool} (ha:a.length=n) (hb:b.length=n) (hc:c.length=n) (h:¬nS a b) (k:¬nS b c):¬nS a c:=by
 intro h3
 rcases aiq ha hb h with h | rfl
 ·exact k (wu (hb.trans ha.symm) (ha.trans hc.symm) h h3)
 ·exact k h3
theorem agE (a b:List Bool):alg a b=true↔nS a b:=by
 unfold alg nS
 rw[beq_iff_eq]
 have:gH a b=-1∨gH a b=0∨gH a b=1:=by
  induction a generalizing b with
  | nil=>exact .inr (.inl (by cases b<;>rfl))
  | cons x a ih=>
   cases b with
   | nil=>exact .inr (.inl rfl)
   | cons y b=>
    rw[gH]
    split
    ·exact ih b
    ·split
     ·exact .inl rfl
     ·exact .inr (.inr rfl)
 omega
def posR (A:List (List Bool)) (x:List Bool):Nat→Nat
 | 0=>0
 | k+1=>if alg x (A.getD k []) then posR A x k else k+1
def rowAt (A:List (List Bool)) (x:List Bool) (k:Nat):List (List Bool):=A.take k++x :: A.drop k
def aiR (A:List (List Bool)) (x:List Bool):List (List Bool):=rowAt A x (posR A x A.length)
def mJ (l:List (List Bool)):List (List Bool):=l.foldl aiR []
theorem aeb (l:List (List Bool)) (x:List Bool):mJ (l++[x])=aiR (mJ l) x:=by unfold mJ;rw[ari];rfl
theorem ai0 (A:List (List Bool)) (x:List Bool) (k:Nat):(rowAt A x k).Perm (x :: A):=by
 unfold rowAt
 refine List.perm_middle.trans ?_
 rw[aqY]
end Go.Sx.Pe
