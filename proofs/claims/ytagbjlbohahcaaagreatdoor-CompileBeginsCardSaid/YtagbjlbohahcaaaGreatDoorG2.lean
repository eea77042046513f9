/- CompileBegins, part 2 of its proof: declarations that the last part uses. -/
import Derived.Test.YtagbjlbohahcaaaGreatDoorG1
set_option maxHeartbeats 1000000
set_option maxRecDepth 4000
set_option linter.unusedSimpArgs false
set_option linter.unusedVariables false
set_option linter.unusedSectionVars false
namespace Go.Sx
open Go
theorem akT {C:Ctx} {E:Env} {st:St} {a:Act} {w:World} (h:av C E st a w) {X:aY} (hTb:X.Tb.Ok X.P) (hnt:C.nt=X.nt) {d:Option Nat} (hd:bY X.nt d=true)
  {t e sz:Nat} {d1:Nat} {b1:Nat} {z1:List Value} {d2:TD} {by_:Nat} {z2:List Value} (ht:look X.Tb t=some ⟨.slice e,d1,b1,z1⟩) (hie:look X.Tb e=some ⟨d2,sz+1,by_,z2⟩)
  {m:Nat} {g:Nat→List PV} {vx:Value} (hsrc:Src E w vx (sz+1) m g)
  {n:Nat} {f:Nat→List PV} {ad:Option Addr} (hold:Src E w (.slice ad n n) (sz+1) n f)
  (hfl:∀k,k<n→(f k).length=sz+1) (hgl:∀k,k<m→(g k).length=sz+1) (hm0:0<m) (hmax:n+m≤maxLen) (hby:(n+m)*by_≤140737488355328)
  {K:St→Prop} (hk:aP st d (.p false (.seq (n+m) (bD n f g))) K) {next:Act→World→Prop}
  (hn:∀st' E' a' w',K st'→av C E' st' a' w'→sQ e w w'→next a' w') (ty:Nat) :
  ∃v' w',(Builtin.append_ #[t,t] ty #[.slice ad n n,vx]).run X.P w=.ok v' w'∧next (a.put d v') w':=by
 have hu:X.P.underlying t=some (.slice e):=(hTb _ _ ht).desc
 obtain ⟨I,zz,hI,hz,hs,hzs,_⟩:=(hTb _ _ hie).o7 E
 obtain ⟨I',hI',_,hb',_⟩:=(hTb _ _ hie).info
 rw[hI] at hI';cases hI'
 simp only at hs hzs hb'
 have hmx:n+m≤9223372036854775807:=hmax
 rcases hsrc with ⟨_,h0⟩ | ⟨ax,c,news,u',rfl,hnl,hnews,h1,hnc,hne⟩
 ·omega
 obtain ⟨olds,u,cap,w',hrun,hol,hoc,hoe,hw'⟩:∃(olds:List Value) (u:Nat→Nat→Value) (cap:Nat) (w':World),
   (Builtin.append_ #[t,t] ty #[.slice ad n n,.slice (some ax) m c]).run X.P w=.ok (.slice (some ⟨w.heap.size,0,none⟩) (n+m) cap) w'∧olds.length=n*(sz+1) ∧
   (∀j k s,j<n→(f j)[k]?=some s→olds[j*(sz+1)+k]?=some (u j k)∧(u j k).oneCell'=true)∧(∀j k s,j<n→(f j)[k]?=some s→aS E.mem (u j k) s) ∧
   (n+m≤cap∧∃zs fr,w'=w.drew.alloc (.cells (olds.toArray++news.toArray++zs) e fr)):=by
  rcases hold with ⟨e1,h0⟩ | ⟨ao,c',olds,u,e1,hol,holds,ho1,hoc,hoe⟩
  ·cases e1
   have hr:=run_append_nil (P:=X.P) w t ty e I zz hu hI hz ax m c news (by grind) hnews hm0 (by omega) (by grind)
   have e0:0+m=m:=ajv m
   refine ⟨[],fun _ _=>undef,_,_,(show _=Result.ok (Value.slice (some ⟨w.heap.size,0,none⟩) (0+m) _) _ by rw[e0];exact hr),by simp,by omega,by omega,?_⟩
   grind [grownCap_ge]
  ·cases e1
   have hcov:olds.length=n*I.size:=by grind
   refine ⟨olds,u,_,_,run_append_grow (P:=X.P) w t ty e I zz hu hI hz ao n n olds hcov holds ax m c news (by grind) hnews (by omega) (by omega) (growslice_fits (by omega) (by grind)),hol,hoc,hoe,grownCap_ge w (n+m) n e,_,_,rfl⟩
 obtain ⟨hcap,zs,fr,rfl⟩:=hw'
 refine ⟨_,_,hrun,?_⟩
 generalize hcs:olds.toArray++news.toArray++zs=cs
 have hnew:(w.drew.alloc (.cells cs e fr)).heap[w.heap.size]?=some (.cells cs e fr):=by
  show (w.heap.push _)[w.heap.size]?=_
  simp
 have hkeep:∀k,k<w.heap.size→(w.drew.alloc (.cells cs e fr)).heap[k]?=w.heap[k]?:=fun k hk=>RowKit.Below.heap_alloc w.drew _ k hk
 obtain ⟨hh,hle⟩:=h.heap.aft hnew rfl rfl rfl (by grind) hkeep
 have hM:=h.fE (st':=st) hle rfl hh ⟨rfl,rfl⟩ (jX w.drew _)
 have hget:∀x,x<n*(sz+1)→cs[x]?=olds[x]?:=fun x hx=>by
  grind
 have hget2:∀x,x<m*(sz+1)→cs[n*(sz+1)+x]?=news[x]?:=fun x hx=>by
  grind
 refine dY hM hnt hd hk (.p false _ _ (.seq w.heap.size 0 (n+m) cap (sz+1) _ cs (fun j k=>if j<n then u j k else u' (j-n) k) ?_ hcap hmax (fun j hj=>?_) (fun j k s hj hs=>?_) (fun j k s hj hs=>?_))) fun st2 E2 a2 w2 hk2 h2 hw2=>hn st2 E2 a2 w2 hk2 h2 (hw2▸⟨by grind,fun b hb _=>hkeep b hb⟩)
 ·show (E.ig w.heap.size cs).mem w.heap.size=some cs
  simp[Env.ig]
 ·grind [vS,vW]
 ·rw[ajv]
  by_cases hjn:j<n
  ·rw[vS f g hjn] at hs
   grind
  ·rw[vW f g (by omega)] at hs
   rw[if_neg hjn]
   have:=hnc (j-n) k s (by omega) hs
   have hk1:k<sz+1:=by grind
   have hmul:n*(sz+1)+(j-n)*(sz+1)=j*(sz+1):=by rw[←axv];congr 1;omega
   rw[show j*(sz+1)+k=n*(sz+1)+((j-n)*(sz+1)+k) by omega,hget2 _ (rE (by omega) hk1)]
   exact this
 ·by_cases hjn:j<n
  ·rw[vS f g hjn] at hs
   simp only[if_pos hjn]
   exact (hoe j k s hjn hs).mono hle.mem
  ·rw[vW f g (by omega)] at hs
   simp only[if_neg hjn]
   exact (hne (j-n) k s (by omega) hs).mono hle.mem
theorem aha {C:Ctx} {E:Env} {st:St} {a:Act} {w:World} (h:av C E st a w) {X:aY} (hTb:X.Tb.Ok X.P) (hnt:C.nt=X.nt) (hro:C.ro=X.ro) {d:Option Nat} (hd:bY X.nt d=true)
  {t e sz:Nat} {d1:Nat} {b1:Nat} {z1:List Value} {d2:TD} {by_:Nat} {z2:List Value} (ht:look X.Tb t=some ⟨.slice e,d1,b1,z1⟩) (hie:look X.Tb e=some ⟨d2,sz+1,by_,z2⟩)
  {s x:SV} {vs vx:Value} (hs:aL E vs s) (hx:aL E vx x) {K:St→Prop} (hk:aeB X e (sz+1) s x d st K) {next:Act→World→Prop}
  (hn:∀st' E' a' w',K st'→av C E' st' a' w'→sQ e w w'→next a' w') (ty:Nat) :
  ∃v' w',(Builtin.append_ #[t,t] ty #[vs,vx]).run X.P w=.ok v' w'∧next (a.put d v') w':=by
 unfold aeB at hk
 split at hk
 ·rename_i i sz' n j sz'' lo m
  split at hk
  ·rename_i e' sz3 N f hble hob
   split at hk
   ·rename_i hbe
    simp only[abj] at hble hbe
    obtain ⟨⟨b1,b2⟩,b3,b4⟩:=hble
    obtain rfl:=acD b1
    obtain rfl:=acD b3
    obtain rfl:=acD b4
    obtain rfl:=acD hbe.1
    obtain rfl:=acD hbe.2
    have hri:C.ro≤i:=by simp_all
    obtain ⟨⟨k1,k2,k3⟩,hk⟩:=hk
    have hu:X.P.underlying t=some (.slice e'):=(hTb _ _ ht).desc
    obtain ⟨I,hI,hIs,_⟩:=(hTb _ _ hie).info
    simp only at hIs
    cases hs with
    | sub _ _ _ _ b n' cap c ad hh hle hc hr ha=>
    cases hx with
    | sub _ _ _ _ b2 n2 cap2 c2 ad2 hh2 hle2 hc2 hr2 ha2=>
    rw[hh] at hh2
    obtain ⟨⟨rfl,_⟩,rfl,rfl⟩:(b=b2∧True)∧n'=n2∧cap=cap2:=by
     grind
    obtain ⟨rfl,cur,u,hR⟩:=(h.heap.ob i _ hob).pG hh
    obtain rfl:=ha (by omega)
    have hcn:=hR.hn
    have hcs:=hR.size
    have hNs:n'*(sz+1)≤cur.size:=by simp_all [ajG]
    have hlm:(lo+m)*(sz+1)≤n'*(sz+1):=ajG _ k2
    have hnm:(n+m)*(sz+1)≤n'*(sz+1):=ajG _ k1
    rw[axv] at hlm hnm
    obtain ⟨news,hnews⟩:∃news,news=(cur.toList.drop (lo*(sz+1))).take (m*(sz+1)):=⟨_,rfl⟩
    have hnl:news.length=m*(sz+1):=by
     grind
    have hng:∀q,q<m*(sz+1)→news[q]?=cur[lo*(sz+1)+q]?:=fun q hq=>by
     grind
    have hone:∀q,q<n'*(sz+1)→∃v,cur[q]?=some v∧v.oneCell'=true:=fun q hq=>by
     obtain ⟨q1,q2,q3⟩:=abH hq
     have hl:=hR.hl _ q1
     obtain ⟨s,hs⟩:∃s,(f (q / (sz+1)))[q % (sz+1)]?=some s:=⟨_,aav (by omega)⟩
     have:=hR.hc _ _ s q1 hs
     grind
    have hrun:=run_append_room (P:=X.P) w t ty e' I hu hI b n c cur hR.heap ad2 m c2 news (by grind)
     (fun q v hq=>by
      have hql:q<m*(sz+1):=by grind
      have hm0:0<m:=axR fun e=>by grind
      obtain rfl:=ha2 (by omega)
      rw[hng q hql] at hq
      simp only[World.cell?,Addr.add_lit,hR.heap]
      exact hq)
     (fun v hv=>by
      obtain ⟨q,hq⟩:=auF hv
      have hql:q<m*(sz+1):=by grind
      rw[hng q hql] at hq
      obtain ⟨v',h1,h2⟩:=hone (lo*(sz+1)+q) (by omega)
      grind)
     (by omega) (by rw[hIs,hnl];omega)
    rw[hIs] at hrun
    generalize hcs':(cur.toList.take (n*(sz+1))++news++cur.toList.drop (n*(sz+1)+news.length)).toArray=vs' at hrun
    have hvs':vs'.size=cur.size:=by
     grind
    have hat:∀q,vs'[q]?=if n*(sz+1)≤q∧q<n*(sz+1)+m*(sz+1) then cur[lo*(sz+1)+(q-n*(sz+1))]? else cur[q]?:=by
     intro q
     have hl1:(cur.toList.take (n*(sz+1))).length=n*(sz+1):=by grind
     rw[←hcs']
     simp only[axg]
     by_cases hin:n*(sz+1)≤q∧q<n*(sz+1)+m*(sz+1)
     ·grind
     ·rw[if_neg hin]
      by_cases hlt:q<n*(sz+1)
      ·grind
      ·rw[aex (by grind),aas,hl1,hnl,axf,show n*(sz+1)+m*(sz+1)+(q-(n*(sz+1)+m*(sz+1)))=q by omega,aer]
    have flen:∀j,j<n'→(ovl n lo m f j).length=sz+1:=by
     intro j hj
     unfold ovl
     split
     ·exact hR.hl _ (by omega)
     ·exact hR.hl _ hj
    have cellOf:∀j k s,j<n'→(ovl n lo m f j)[k]?=some s→∃v,vs'[j*(sz+1)+k]?=some v∧v.oneCell'=true∧aS E.mem v s:=by
     intro j k s hj hs
     have hks:k<sz+1:=by grind
     unfold ovl at hs
     rw[hat]
     by_cases hin:n≤j∧j<n+m
     ·rw[if_pos hin] at hs
      obtain ⟨q,rfl⟩:∃q,j=n+q:=⟨j-n,by omega⟩
      have hq:=rE (show q<m by omega) hks
      have e3:(n+q)*(sz+1)+k=n*(sz+1)+(q*(sz+1)+k):=by grind
      rw[e3,if_pos (by omega),awq]
      rw[awq] at hs
      have g1:=hR.hc (lo+q) k s (by omega) hs
      have g2:=hR.he (lo+q) k s (by omega) hs
      grind
     ·rw[if_neg hin] at hs
      have hout:¬(n*(sz+1)≤j*(sz+1)+k∧j*(sz+1)+k<n*(sz+1)+m*(sz+1)):=by
       rintro ⟨h1,h2⟩
       apply hin
       rw[←axv] at h2
       constructor
       ·exact Classical.byContradiction fun hh=>by
         grind [rE]
       ·exact Classical.byContradiction fun hh=>by
         have:=ajG (sz+1) (Nat.le_of_not_lt hh);omega
      rw[if_neg hout]
      obtain ⟨h1,h2⟩:=hR.hc j k s hj hs
      exact ⟨_,h1,h2,hR.he j k s hj hs⟩
    have hh3:=h.heap.write (o':=.row e' (sz+1) n' (ovl n lo m f)) hob (b:=b) (by grind [Env.blk,aM]) hri (w':=w.setRow b vs')
     (.row e' (sz+1) n' _ _ (vs'.toList.take (n'*(sz+1))) (fun j k=>vs'.getD (j*(sz+1)+k) undef) hh
      ⟨by grind,.inr ⟨b,cap,vs',rfl,akx _,setRow_heap w b cur vs' e' (0,0) hR.heap,hR.hn,hR.hcap,by omega,rfl⟩⟩ hR.hmax
      flen
      (fun j k s hj hs=>by
       obtain ⟨v,h1,h2,h3⟩:=cellOf j k s hj hs
       have hks:k<sz+1:=by grind
       rw[auL,if_pos (rE hj hks),aer,ac9,h1]
       grind)
      (fun j k s hj hs=>by
       obtain ⟨v,h1,h2,h3⟩:=cellOf j k s hj hs
       simp_all)) rfl rfl rfl (by simp) (fun k hk=>setRow_other w b k vs' hk)
    refine ⟨_,_,(by rw[Nat.zero_mul];exact hrun),dY (h.fE (st':=st.eX i (some (.row e' (sz+1) n' (ovl n lo m f)))) (Env.Le.refl E) rfl hh3 ⟨rfl,rfl⟩ (ru hR.heap fun k hk=>setRow_other w b k vs' hk)) hnt hd hk ?_ fun st2 E2 a2 w2 hk2 h2 hw2=>hn st2 E2 a2 w2 hk2 h2 (hw2▸⟨by simp,fun k _ hne=>setRow_other w b k vs' fun e=>hne cur (0,0) (by rw[e];exact hR.heap)⟩)⟩
    exact .sub _ _ _ _ b n' cap c _ hh (by omega) (by omega) hr (fun _=>by grind)
   grind
  grind
 grind
theorem acL {C:Ctx} {E:Env} {st:St} {a:Act} {w:World} (h:av C E st a w) {X:aY} (hTb:X.Tb.Ok X.P) (hnt:C.nt=X.nt) (hro:C.ro=X.ro) (hcm:C.m=X.m) {d:Option Nat} (hd:bY X.nt d=true)
  {t:Nat} {s x:SV} {vs vx:Value} (hs:aL E vs s) (hx:aL E vx x) {K:St→Prop} (hk:agu X t s x d st K) {next:Act→World→Prop}
  (hn:∀st' E' a' w',K st'→av C E' st' a' w'→(∃e,elemOf X.Tb t=some e∧sQ e w w')→next a' w') (ty:Nat) :
  ∃v' w',(Builtin.append_ #[t,t] ty #[vs,vx]).run X.P w=.ok v' w'∧next (a.put d v') w':=by
 unfold agu at hk
 split at hk
 ·rename_i e _ _ _ ht
  have hn:∀st' E' a' w',K st'→av C E' st' a' w'→sQ e w w'→next a' w':=fun st' E' a' w' hk' h' hg=>hn st' E' a' w' hk' h' ⟨e,by grind [elemOf],hg⟩
  split at hk
  ·rename_i _ sz by_ _ hie
   split at hk
   ·rename_i m g j hsrc
    split at hk
    ·rename_i i
     split at hk
     ·rename_i e' sz' n f hoth hob
      split at hk
      ·rename_i hb
       simp only[abj] at hb
       obtain rfl:=acD hb.1
       obtain rfl:=acD hb.2
       obtain ⟨⟨h1,h2⟩,h3,hk⟩:=hk
       rw[rD] at hk
       obtain ⟨v0,xs,u,hh,hw,hmax,hl,hc,he⟩:=l7 (h.heap.ob _ _ hob)
       cases hs with
       | row _ _ hh2 hsl=>
        rw[hh] at hh2;cases hh2
        have hset:∀k,(st.eX i none).obj k=if i=k then none else st.obj k:=fun k=>mq st.fr st.ob st.no _ _ _ _
        refine afz (st1:=st.eX i none) h hTb hnt hd ht hie (agk h.heap hsrc hx h3) hw hl hc he h3 h1 h2 rfl rfl rfl (fun k o ho=>?_) (fun b hb=>?_) hk hn ty
        ·grind
        ·refine ⟨i,_,by simp_all,hob,by grind,?_⟩
         grind [Env.blk,tu]
      grind
     grind
    ·obtain ⟨⟨h1,h2⟩,h3,hk⟩:=hk
     obtain rfl:=hs.aO
     rw[rD] at hk
     have hk':aP (st.alloc (.row e (sz+1) (0+m) (bD 0 (fun _=>[]) g))) d (.row st.no) K:=by
      rw[ajv]
      have:bD 0 (fun _=>[]) g=g:=by grind [bD]
      grind
     exact afz (st1:=st) (n:=0) (f:=fun _=>[]) (u:=fun _ _=>undef) h hTb hnt hd ht hie (agk h.heap hsrc hx h3) (World.ownsRow_nil w 0 e (sz+1)) (by omega) (by omega) (by omega) h3 (by omega) (by simpa using h2) rfl rfl rfl (fun _ _ h=>h)
      (fun b hb=>by grind [Value.ownBlock]) hk' hn ty
    ·rename_i n f
     obtain ⟨⟨h0,h1,h2⟩,h3,h4,hk⟩:=hk
     cases hs with
     | full ad _ _ hp=>
      exact akT h hTb hnt hd ht hie (agk h.heap hsrc hx h4) (agk h.heap (x:=.p false (.seq n f)) (e:=e) (j:=none) rfl (.p false _ _ hp) h3) h3 h4 h0 h1 h2 hk hn ty
    grind
   ·exact aha h hTb hnt hro hd ht hie hs hx hk hn ty
  grind
 grind
theorem ajm (s:ByteArray) (j:Nat) (hj:j<s.size):(Lib.strCells s)[j]?=some (.int .u8 (s.data.getD j 0).toNat):=by
 simp_all [Lib.strCells]
theorem acA {C:Ctx} {E:Env} {st:St} {a:Act} {w:World} (h:av C E st a w) {X:aY} (hTb:X.Tb.Ok X.P) (hnt:C.nt=X.nt) (hcm:C.m=X.m) {d:Option Nat} (hd:bY X.nt d=true)
  {t t':Nat} {s x:SV} {vs vx:Value} (hs:aL E vs s) (hx:aL E vx x) {K:St→Prop} (hk:agG X t t' s x d st K) {next:Act→World→Prop}
  (hn:∀st' E' a' w',K st'→av C E' st' a' w'→(∃e,elemOf X.Tb t=some e∧sQ e w w')→next a' w') (ty:Nat) :
  ∃v' w',(Builtin.append_ #[t,t'] ty #[vs,vx]).run X.P w=.ok v' w'∧next (a.put d v') w':=by
 unfold agG at hk
 split at hk
 ·rename_i e _ _ _ _ _ _ ht ht'
  have hn:∀st' E' a' w',K st'→av C E' st' a' w'→sQ e w w'→next a' w':=fun st' E' a' w' hk' h' hg=>hn st' E' a' w' hk' h' ⟨e,by grind [elemOf],hg⟩
  split at hk
  ·rename_i by_ zz _ str hie
   obtain rfl:=hx.aO
   have hut:X.P.underlying t=some (.slice e):=(hTb _ _ ht).desc
   have hut':X.P.underlying t'=some .string:=(hTb _ _ ht').desc
   obtain ⟨I,zv,hI,hz,hs1,hzs,hzc⟩:=(hTb _ _ hie).o7 E
   obtain ⟨I',hI',hI2,hb',hI3⟩:=(hTb _ _ hie).info
   rw[hI] at hI';cases hI'
   simp only at hs1 hb'
   have hgl:∀k,k<str.size→(qo str k).length=0+1:=fun _ _=>rfl
   have hnc:∀(j k:Nat) (q:PV),j<str.size→(qo str j)[k]?=some q→(Lib.strCells str)[j*(0+1)+k]?=some (Value.int .u8 (str.data.getD j 0).toNat)∧(Value.int .u8 (str.data.getD j 0).toNat).oneCell'=true:=by
    intro j k q hj hq
    have hk0:k=0:=by grind
    subst hk0
    refine ⟨by grind [ajm],rfl⟩
   have hne:∀(j k:Nat) (q:PV),j<str.size→(qo str j)[k]?=some q→aS E.mem (Value.int .u8 (str.data.getD j 0).toNat) q:=by
    intro j k q hj hq
    have hk0:k=0:=by grind
    subst hk0
    simp only[qo,axo,Option.some.injEq] at hq;subst hq;exact .val _
   have hnl:(Lib.strCells str).length=str.size*(0+1):=by grind [Lib.strCells_length]
   have hzero:zz=.int .u8 0→I.zero=some (.int .u8 0):=by
    intro hz0
    obtain ⟨I2,z2,f1,f2,f3⟩:=(hTb _ _ hie).flat rfl
    grind
   split at hk
   ·rename_i i
    split at hk
    ·rename_i e' sz' n f hoth hob
     split at hk
     ·rename_i hb
      simp only[abj] at hb
      obtain rfl:=acD hb.1
      obtain rfl:=acD hb.2
      obtain ⟨⟨⟨rfl,hz0⟩,h1,h2⟩,hk⟩:=hk
      have hzero:=hzero hz0
      rw[rD] at hk
      obtain ⟨v0,xs,u,hh,hw,hmax,hl,hc,he⟩:=l7 (h.heap.ob _ _ hob)
      cases hs with
      | row _ _ hh2 hsl=>
       rw[hh] at hh2;cases hh2
       have hset:∀k,(st.eX i none).obj k=if i=k then none else st.obj k:=fun k=>mq st.fr st.ob st.no _ _ _ _
       obtain ⟨v',w',hr,ho,hg,hsl',hblk⟩:=abk (P:=X.P) (w:=w) t t' ty e' I hut hut' hI hzero hs1 hb' _ n xs hw str h1 h2
       refine ⟨v',w',hr,ab1 (sz:=0) (st1:=st.eX i none) h hnt hd hw hl hc he hgl h1 rfl rfl rfl (fun k o ho=>?_) (fun b hb=>?_) hk hn ho hg hsl' hblk hnl hnc hne⟩
       ·grind
       ·refine ⟨i,_,by simp_all,hob,by grind,?_⟩
        grind [Env.blk,tu]
     grind
    grind
   ·obtain ⟨⟨⟨rfl,hz0⟩,h1,h2⟩,hk⟩:=hk
    have hzero:=hzero hz0
    obtain rfl:=hs.aO
    rw[rD] at hk
    have hk':aP (st.alloc (.row e (0+1) (0+str.size) (bD 0 (fun _=>[]) (qo str)))) d (.row st.no) K:=by
     have:bD 0 (fun _=>[]) (qo str)=qo str:=by grind [bD]
     grind
    obtain ⟨v',w',hr,ho,hg,hsl',hblk⟩:=abk (P:=X.P) (w:=w) t t' ty e I hut hut' hI hzero hs1 hb' (.slice none 0 0) 0 [] (World.ownsRow_nil w 0 e 1) str (by omega) (by omega)
    exact ⟨v',w',hr,ab1 (sz:=0) (st1:=st) (n:=0) (f:=fun _=>[]) (u:=fun _ _=>undef) h hnt hd (World.ownsRow_nil w 0 e (0+1)) (by omega) (by omega) (by omega) hgl (by omega) rfl rfl rfl (fun _ _ h=>h)
     (fun b hb=>by grind [Value.ownBlock]) hk' hn ho hg hsl' hblk hnl hnc hne⟩
   grind
  grind
 grind
theorem ahb {C:Ctx} {E:Env} {st:St} {a:Act} {w:World} (h:av C E st a w) {X:aY} (hTb:X.Tb.Ok X.P) (hnt:C.nt=X.nt) {o:Oper} (hd:bY X.nt o.dst=true)
  {F:Fence} (hF:jq F) {K:St→Prop} (hk:aeA X o st K) {next:Act→World→Prop} {Q:Exit→Act→World→Prop}
  (hn:∀st' E' a' w',K st'→av C E' st' a' w'→(jL o.op=true→Grow w w')→next a' w'):o.wpIn F 9 X.P a w next Q:=by
 unfold aeA at hk
 split at hk
 ·-- makeSlice
  rename_i T l c ho
  split at hk
  ·rename_i e _ _ _ hi
   split at hk
   ·rename_i _ sz by_ z hie
    split at hk
    ·rename_i _ k1 n _ k2 m hl hc
     obtain ⟨⟨h0,h1,h2,h3⟩,hk⟩:=hk
     have hlv:=aI h l
     rw[hl] at hlv
     have hle1:=hlv.aO
     have hcv:=aI h c
     rw[hc] at hcv
     have hce:=hcv.aO
     have hu:X.P.underlying T=some (.slice e):=(hTb _ _ hi).desc
     obtain ⟨I,hI,hIs,hIb,zv,hz,hzz,hone,hzc⟩:=(hTb _ _ hie).info
     simp only at hIs hIb hzz hzc
     have hbyt:(I.bytes:Int)*m≤281474976710656:=by
      grind
     have hrun:=run_make (P:=X.P) w T e I zv hu hI hz k1 k2 n m h0 h1 hbyt (by omega)
     rw[hIs] at hrun
     have hzl:z.length=sz+1:=by grind
     have hmc:=size_madeCells zv.cells (m.toNat*(sz+1))
     have hnm:n.toNat≤m.toNat:=by omega
     have hmx:m.toNat≤maxLen:=by grind [maxLen]
     have hzc:zv.cells.size=sz+1:=hzc
     have hnsz:n.toNat*(sz+1)≤m.toNat*(sz+1):=ajG _ hnm
     have hcell:∀j k,j<n.toNat→k<sz+1→(madeCells zv.cells (m.toNat*(sz+1)))[j*(sz+1)+k]?=zv.cells[k]?:=by
      intro j k hj hk
      have hlt:j*(sz+1)+k<m.toNat*(sz+1):=by
       have:=ajG (sz+1) (show j+1≤m.toNat by omega);grind
      simp_all [axl,madeCells]
     obtain ⟨hh,hle⟩:=h.heap.aft (cs:=madeCells zv.cells (m.toNat*(sz+1))) (T:=e) (fr:=(0,0)) (w':=w.alloc (.cells (madeCells zv.cells (m.toNat*(sz+1))) e)) (World.alloc_heap_new w _) rfl rfl rfl (by simp_all) (fun k hk=>RowKit.Below.heap_alloc w _ k hk)
     have hM:=h.fE (st':=st) hle rfl hh ⟨rfl,rfl⟩ (jX w _)
     refine eG hF (by simp[ho]) (v:=.slice (some ⟨w.heap.size,0,none⟩) n.toNat m.toNat) (w':=w.alloc (.cells (madeCells zv.cells (m.toNat*(sz+1))) e)) ?_
      (dY hM hnt hd hk (.p false _ _ (.seq w.heap.size 0 n.toNat m.toNat (sz+1) _ (madeCells zv.cells (m.toNat*(sz+1))) (fun j k=>zv.cells.getD k undef) (by show (E.ig w.heap.size _).mem w.heap.size=_;simp[Env.ig]) hnm (aiT hnm hmx)
       (fun j hj=>by grind [wB])
       (fun j k s hj hs=>by
        rw[sZ,←hzz,aer] at hs
        have hks:k<sz+1:=by
         grind
        rw[ajv,hcell j k hj hks]
        have e1:zv.cells[k]?=some (zv.cells[k]'(by omega)):=acC _
        rw[ac9,e1]
        grind)
       (fun j k s hj hs=>by
        rw[sZ,←hzz,aer] at hs
        cases hq:zv.cells[k]? with
        | none=>grind
        | some q=>
         rw[hq] at hs;simp only[apr,Option.some.injEq] at hs;subst hs
         rw[ac9,hq];exact .val q))) fun st' E' a' w' hk' h' hw'=>hn st' E' a' w' hk' h' fun _=>hw'▸lQ w _)
     simp_all [execOp]
    grind
   grind
  grind
 ·-- buildSlice
  rename_i T len parts ho
  split at hk
  ·rename_i e _ _ _ hi
   split at hk
   ·rename_i _ sz _ z hie
    split at hk
    ·rename_i cs hf
     split at hk
     ·rename_i b ds hall
      cases hbl:(len*(sz+1)).blt 1000 with
      | false=>grind
      | true=>
       simp only[hbl] at hk
       have hlt:len*(sz+1)<1000:=by simp_all
       obtain ⟨zv,hz,hZ⟩:=vZ (hTb _ _ hie) (E:=E)
       have hu:X.P.underlying T=some (.slice e):=(hTb _ _ hi).desc
       have hzl:(zeros z).length=sz+1:=by
        obtain ⟨I,zz,_,_,_,hs,hA⟩:=(hTb _ _ hie).o7 E
        have:=hA.size;grind
       have hzs:zv.cells.size=sz+1:=by rw[hZ.size];exact hzl
       have hZ0:lT E ((Array.range (len*(sz+1))).map (zv.cells[· % zv.cells.size]!)) (aaT len (zeros z)):=by
        refine lT.of (by grind [sH]) fun k hk=>?_
        have hk2:k<len*(sz+1):=by simpa using hk
        have hm:k % (sz+1)<sz+1:=Nat.mod_lt _ (by omega)
        have e1:zv.cells[k % (sz+1)]?=some (zv.cells[k % (sz+1)]'(by omega)):=acC (by omega)
        have e2:(zeros z)[k % (sz+1)]?=some ((zeros z)[k % (sz+1)]'(by omega)):=aav (by omega)
        have hm2:k % (zeros z).length=k % (sz+1):=by rw[hzl]
        refine ⟨_,_,?_,by grind [aeR],hZ.one _ _ e1,hZ.rep _ _ _ e1 e2⟩
        grind
       obtain ⟨vs',hfill,hA⟩:=zy h _ (fun i=>some (i*(sz+1),sz+1)) (fun i p hp=>by
        grind) parts.toList _ _ _ hZ0 hf
       obtain ⟨hdl,hdr⟩:=vH (E:=E) cs b ds hall
       have hvl:vs'.size=len*(sz+1):=by
        have:=(zq hf);rw[hA.size,this,sH,hzl]
       have hdn:ds.length=len*(sz+1):=by rw[←hdl,←hA.size,hvl]
       have hmx:len≤maxLen:=by grind [maxLen]
       obtain ⟨hh,hle⟩:=h.heap.aft (cs:=vs') (T:=e) (fr:=(0,0)) (w':=w.alloc (.cells vs' e)) (World.alloc_heap_new w _) rfl rfl rfl (by simp_all) (fun k hk=>RowKit.Below.heap_alloc w _ k hk)
       have hM:=h.fE (st':=st) hle rfl hh ⟨rfl,rfl⟩ (jX w _)
       have hrep:aS (E.ig w.heap.size vs').mem (.slice (some ⟨w.heap.size,0,none⟩) len len) (.seq len (aU (sz+1) ds)):=by
        refine .seq w.heap.size 0 len len (sz+1) _ vs' (fun j k=>vs'.getD (j*(sz+1)+k) undef) (by simp[Env.ig]) (abm _) hmx (fun j hj=>(lY hdn hj).1) (fun j k s hj hs=>?_) (fun j k s hj hs=>?_)
        ·have hk1:k<sz+1:=by grind [lY]
         have hin:j*(sz+1)+k<vs'.size:=by
          rw[hvl];have:=ajG (sz+1) (show j+1≤len from hj);grind
         have e1:vs'[j*(sz+1)+k]?=some vs'[j*(sz+1)+k]:=acC hin
         rw[ajv,ac9,e1]
         exact ⟨rfl,hA.one _ _ e1⟩
        ·have hk1:k<sz+1:=by grind [lY]
         have hin:j*(sz+1)+k<vs'.size:=by
          rw[hvl];have:=ajG (sz+1) (show j+1≤len from hj);grind
         have e1:vs'[j*(sz+1)+k]?=some vs'[j*(sz+1)+k]:=acC hin
         have e2:cs[j*(sz+1)+k]?=some (cs[j*(sz+1)+k]'(by omega)):=aav _
         rw[(lY hdn hj).2 k hk1] at hs
         rw[ac9,e1]
         exact (hdr _ _ _ _ e2 hs (hA.rep _ _ _ e1 e2)).mono fun B cs hB=>hle.mem _ _ (E.fC b _ _ hB)
       refine eG hF (by simp[ho]) (v:=.slice (some ⟨w.heap.size,0,none⟩) len len) (w':=w.alloc (.cells vs' e)) ?_
        (dY hM hnt hd hk (.p false _ _ hrep) fun st' E' a' w' hk' h' hw'=>hn st' E' a' w' hk' h' fun _=>hw'▸lQ w _)
       have h24:¬(len*(sz+1)>2 ^ 24):=by omega
       have hfill':Instr.fill (fun i=>some (i*(sz+1),sz+1)) ((Array.range (len*(sz+1))).map (zv.cells[· % zv.cells.size]!)) (parts.map fun p=>(p.1,a.eval p.2)).toList=some vs':=by simp_all
       by_cases h0:len*(sz+1)=0
       ·have hz0:∀g:Nat→Value,(Array.range (len*(sz+1))).map g=#[]:=fun g=>by rw[h0];simp
        rw[hz0] at hfill'
        simp only[execOp,ho,Instr.buildSlice,Sem.run_bind,run_underlying hu,Result.andThen_ok,eY (hTb _ _ hie),h0,show ¬((0:Nat)>2 ^ 24) by omega,if_false,if_true,Sem.run_pure]
        simp_all [Array.range,newRow]
       ·simp only[execOp,ho,Instr.buildSlice,Sem.run_bind,run_underlying hu,Result.andThen_ok,eY (hTb _ _ hie),h24,if_false,h0,hz,Sem.run_pure]
        simp_all [newRow]
     grind
    grind
   grind
  grind
 grind
theorem aoy {α:Type} (k:Nat) (v:α) (l:List (Nat×α)) (t:Nat):look (ajN k v l) t=look ((k,v) :: l) t:=by
 induction l with
 | nil=>rfl
 | cons p l ih=>
  obtain ⟨k',v'⟩:=p
  unfold ajN
  split
  ·rfl
  ·rename_i hb
   have hlt:k'<k:=by
    grind [Nat.ble_eq_true_of_le]
   rw[bq,ih,bq,bq,bq]
   grind
theorem ab9 {α:Type}:∀(l:List (Nat×α)) (t:Nat),look (abA l) t=look l t
 | [],_=>rfl
 | (k,v) :: l,t=>by
  show look (ajN k v (abA l)) t=_
  rw[aoy,bq,bq,ab9 l]
theorem amk (st:St) (t:Nat):(afy st).get t=st.get t:=by
 show (match look (abA st.fr) t with | some s=>s | none=>.any)=_
 rw[ab9];rfl
theorem xQ (st:St) (i:Nat):(afy st).obj i=st.obj i:=by
 show (match look (abA st.ob) i with | some o=>o | none=>none)=_
 rw[ab9];rfl
theorem av.norm {C:Ctx} {E:Env} {st:St} {a:Act} {w:World} (h:av C E st a w):av C E (afy st) a w:=by
 have hh:=h.heap
 exact ⟨h.size,fun t=>by rw[amk];exact h.slot t,⟨fun i o ho=>hh.ob i o (by grind [xQ]),fun i j o o' b h1 h2=>hh.sep i j o o' b (by grind [xQ]) (by grind [xQ]),fun i o b ho=>hh.own i o b (by grind [xQ]),hh.mem,hh.mem0,hh.memnew,hh.new,hh.base,hh.fr,hh.hd0,hh.mno,hh.mkh,hh.kk⟩,h.marks⟩
theorem ajn {μ:Nat→Option (Array Value)} {v:Value} {d d':PV} (h:agC d d') (hv:aS μ v d):aS μ v d':=by
 unfold agC at h
 split at h
 ·obtain rfl:=hv.aO;subst h;exact .nil _
 ·grind [sj]
 ·grind
 ·grind
 ·grind
 ·obtain ⟨rfl,h⟩:=h
  cases hv with
  | nil=>exact .nil _
  | emp a c=>exact .emp a c _
  | seq b o _ cap sz _ cs u hm hcap hmax hl hc he=>
   exact .seq b o _ cap sz _ cs u hm hcap hmax (fun j hj=>by grind) (fun j k s hj hs=>hc j k s hj (by grind)) (fun j k s hj hs=>he j k s hj (by grind))
 ·grind
 ·grind
 ·grind
 ·obtain ⟨rfl,h⟩:=h
  obtain ⟨vs,rfl,hs,hc⟩:=hv.iD
  grind [aS.wz]
 grind
theorem ahw:∀(xs ys:List PV),aar xs ys→xs.length=ys.length∧∀(k:Nat) (x y:PV),xs[k]?=some x→ys[k]?=some y→agC x y
 | [],[],_=>by simp
 | [],_ :: _,h=>by grind [aar]
 | _ :: _,[],h=>by grind [aar]
 | [x],[y],h=>by
  refine ⟨rfl,fun k a b ha hb=>?_⟩
  cases k with
  | zero=>simp at ha hb;subst ha;subst hb;exact h
  | succ k=>simp at ha
 | [x],y :: z :: ys,h=>by grind [aar]
 | x :: z :: xs,[y],h=>by grind [aar]
 | x :: x2 :: xs,y :: y2 :: ys,h=>by
  simp only[aar] at h
  obtain ⟨h1,h2⟩:=ahw (x2 :: xs) (y2 :: ys) h.2
  refine ⟨by simpa using h1,fun k a b ha hb=>?_⟩
  cases k with
  | zero=>simp at ha hb;subst ha;subst hb;exact h.1
  | succ k=>simp only[anI] at ha hb;exact h2 k a b ha hb
theorem afa {μ:Nat→Option (Array Value)} {v:Value} {d d':PV} (h:agv d d') (hv:aS μ v d):aS μ v d':=by
 unfold agv at h
 split at h
 ·rename_i xs ys
  obtain ⟨h1,h2⟩:=ahw xs ys h
  cases hv with
  | agg vs _ hl hone he=>
   refine .agg vs _ (by omega) hone fun k u s hu hs=>?_
   grind [ajn]
 grind [ajn]
theorem adn:∀(xs ys:List PV),xH xs ys→xs.length=ys.length∧∀(k:Nat) (x y:PV),xs[k]?=some x→ys[k]?=some y→agv x y
 | [],[],_=>by simp
 | [],_ :: _,h=>by grind [xH]
 | _ :: _,[],h=>by grind [xH]
 | [x],[y],h=>by
  refine ⟨rfl,fun k a b ha hb=>?_⟩
  cases k with
  | zero=>simp at ha hb;subst ha;subst hb;exact h
  | succ k=>simp at ha
 | [x],y :: z :: ys,h=>by grind [xH]
 | x :: z :: xs,[y],h=>by grind [xH]
 | x :: x2 :: xs,y :: y2 :: ys,h=>by
  simp only[xH] at h
  obtain ⟨h1,h2⟩:=adn (x2 :: xs) (y2 :: ys) h.2
  refine ⟨by simpa using h1,fun k a b ha hb=>?_⟩
  cases k with
  | zero=>simp at ha hb;subst ha;subst hb;exact h.1
  | succ k=>simp only[anI] at ha hb;exact h2 k a b ha hb
theorem rH {μ:Nat→Option (Array Value)} {v:Value} {d d':PV} (h:kY d d') (hv:aS μ v d):aS μ v d':=by
 unfold kY at h
 split at h
 ·rename_i xs ys
  obtain ⟨h1,h2⟩:=adn xs ys h
  cases hv with
  | tup vs _ hl he=>
   refine .tup vs _ (by omega) fun k u s hu hs=>?_
   grind [afa]
 grind [afa]
theorem fU (i:Nat):∀(l:List Nat),iK i l=true↔i∈l
 | []=>by simp[iK]
 | j :: l=>by
  simp only[iK,aru,fU i l,ahy]
  constructor
  ·rintro (h | h)
   ·exact .inl (acD h)
   ·exact .inr h
  ·rintro (rfl | h)
   ·exact .inl (Nat.beq_refl _)
   ·exact .inr h
theorem yU:∀(l:List Nat),distinct l=true→∀(k k' i:Nat),l[k]?=some i→l[k']?=some i→k=k'
 | [],_,k,k',i,h,_=>by simp at h
 | j :: l,hd,k,k',i,h,h'=>by
  simp only[distinct,abj,aoF] at hd
  have hj:j∉l:=fun hm=>by have:=(fU j l).2 hm;rw[hd.1] at this;cases this
  cases k with
  | zero=>
   simp at h;subst h
   cases k' with
   | zero=>rfl
   | succ k'=>simp at h';exact absurd (aa0 h') hj
  | succ k=>
   simp at h
   cases k' with
   | zero=>simp at h';subst h';exact absurd (aa0 h) hj
   | succ k'=>simp at h';rw[yU l hd.2 k k' i h h']
theorem qV {ro:Nat}:∀(l:List Nat),lu ro l=true→∀(k i:Nat),l[k]?=some i→ro≤i
 | [],_,k,i,h=>by simp at h
 | j :: l,hd,k,i,h=>by
  simp only[lu,abj] at hd
  cases k with
  | zero=>simp_all
  | succ k=>simp at h;exact qV l hd.2 k i h
theorem aef:∀(l:List Ob) (i k:Nat),look (wH i l) k=if i≤k then (l[k-i]?).map some else none
 | [],i,k=>by simp[wH,look]
 | o :: l,i,k=>by
  simp only[wH,bq,aef l (i+1) k]
  grind
theorem gy (l:List Ob) (k:Nat):(ow l).obj k=l[k]?:=by
 unfold ow St.obj
 simp only[aef,akx,if_true,awo]
 cases l[k]?<;>rfl
theorem vY (all:List Nat):∀(js:List Nat) (os:List Ob) (l:List (Nat×Option Ob)),distinct js=true→js.length=os.length→∀j,
  (∀p:Nat,js[p]?=some j→look (mh all js os l) j=(os[p]?).map fun o=>some (xO all o))∧(j∉js→look (mh all js os l) j=look l j)
 | [],[],l,_,_,j=>by simp[mh]
 | [],_ :: _,l,_,h,j=>by simp at h
 | _ :: _,[],l,_,h,j=>by simp at h
 | i :: js,o :: os,l,hd,hl,j=>by
  simp only[distinct,abj,aoF] at hd
  have hi:i∉js:=fun hm=>by grind [fU]
  obtain ⟨h1,h2⟩:=vY all js os ((i,some (xO all o)) :: l) hd.2 (by simpa using hl) j
  simp only[mh]
  refine ⟨fun p hp=>?_,fun hj=>?_⟩
  ·cases p with
   | zero=>
    simp_all [bq]
   | succ p=>grind
  ·simp only[ahy,not_or] at hj
   rw[h2 hj.2,bq,if_neg (fun e=>hj.1 e.symm)]
theorem agl (st:St) (js:List Nat):∀(ss cs:List SV),wG st js ss cs→ss.length=cs.length∧∀(k:Nat) (s c:SV),ss[k]?=some s→cs[k]?=some c→adJ st js s c
 | [],[],_=>by simp
 | [],_ :: _,h=>by grind [wG]
 | _ :: _,[],h=>by grind [wG]
 | [x],[y],h=>by
  refine ⟨rfl,fun k a b ha hb=>?_⟩
  cases k with
  | zero=>simp at ha hb;subst ha;subst hb;exact h
  | succ k=>simp at ha
 | [x],y :: z :: ys,h=>by grind [wG]
 | x :: z :: xs,[y],h=>by grind [wG]
 | x :: x2 :: xs,y :: y2 :: ys,h=>by
  simp only[wG] at h
  obtain ⟨h1,h2⟩:=agl st js (x2 :: xs) (y2 :: ys) h.2
  refine ⟨by simpa using h1,fun k a b ha hb=>?_⟩
  cases k with
  | zero=>simp at ha hb;subst ha;subst hb;exact h.1
  | succ k=>simp only[anI] at ha hb;exact h2 k a b ha hb
theorem qC (st:St) (js:List Nat):∀(ss cs:List SV),nK st js ss cs→ss.length=cs.length∧∀(k:Nat) (s c:SV),ss[k]?=some s→cs[k]?=some c→acW st js s c
 | [],[],_=>by simp
 | [],_ :: _,h=>by grind [nK]
 | _ :: _,[],h=>by grind [nK]
 | [x],[y],h=>by
  refine ⟨rfl,fun k a b ha hb=>?_⟩
  cases k with
  | zero=>simp at ha hb;subst ha;subst hb;exact h
  | succ k=>simp at ha
 | [x],y :: z :: ys,h=>by grind [nK]
 | x :: z :: xs,[y],h=>by grind [nK]
 | x :: x2 :: xs,y :: y2 :: ys,h=>by
  simp only[nK] at h
  obtain ⟨h1,h2⟩:=qC st js (x2 :: xs) (y2 :: ys) h.2
  refine ⟨by simpa using h1,fun k a b ha hb=>?_⟩
  cases k with
  | zero=>simp at ha hb;subst ha;subst hb;exact h.1
  | succ k=>simp only[anI] at ha hb;exact h2 k a b ha hb
theorem qD (st:St) (all:List Nat):∀(js:List Nat) (os:List Ob),qh st all js os→js.length=os.length∧∀(k j:Nat) (o:Ob),js[k]?=some j→os[k]?=some o→obM st all j o
 | [],[],_=>by simp
 | [],_ :: _,h=>by grind [qh]
 | _ :: _,[],h=>by grind [qh]
 | [x],[y],h=>by
  refine ⟨rfl,fun k a b ha hb=>?_⟩
  cases k with
  | zero=>simp at ha hb;subst ha;subst hb;exact h
  | succ k=>simp at ha
 | [x],y :: z :: ys,h=>by grind [qh]
 | x :: z :: xs,[y],h=>by grind [qh]
 | x :: x2 :: xs,y :: y2 :: ys,h=>by
  simp only[qh] at h
  obtain ⟨h1,h2⟩:=qD st all (x2 :: xs) (y2 :: ys) h.2
  refine ⟨by simpa using h1,fun k a b ha hb=>?_⟩
  cases k with
  | zero=>simp at ha hb;subst ha;subst hb;exact h.1
  | succ k=>simp only[anI] at ha hb;exact h2 k a b ha hb
noncomputable def aN (E : Env) (st : St) (w : World) (js : List Nat) (lend : Bool) (os : List Ob) (ro : Nat) (t : Nat → Prop) : Env :=
  { hd := fun k => (js[k]?).bind E.hd
    mem := fun b => match E.mem b with
      | some cs => some cs
      | none => open Classical in if lend = true ∧ ∃ j o, j ∉ js ∧ st.obj j = some o ∧ E.blk j = some b then (match w.heap[b]? with | some (.cells cs _ _) => some cs | _ => none) else none
    tm := t, ws := w, I := nZ (fun k => (js[k]?).bind E.hd) os ro, k := none }
theorem fM {E:Env} {st:St} {w:World} {js:List Nat} {lend:Bool} {t:Nat→Prop} {os:List Ob} {ro b:Nat} {cs:Array Value} (h:E.mem b=some cs):(aN E st w js lend os ro t).mem b=some cs:=by simp[aN,h]
theorem o8 {E:Env} {t:Nat→Prop} {st:St} {w:World} {js:List Nat} {os:List Ob} {ro b:Nat} {cs:Array Value} (h:(aN E st w js false os ro t).mem b=some cs):E.mem b=some cs:=by
 grind [aN]
theorem akN {C:Ctx} {E:Env} {st:St} {w:World} (h:bg C E st w) {js:List Nat} {lend:Bool} {t:Nat→Prop} {os:List Ob} {ro:Nat} (hl:lend=true) {i:Nat} {T:TypeId} {sz n:Nat} {f:Nat→List PV} (hin:iK i js=false) (hob:st.obj i=some (.row T sz n f)) {v:Value} (hv:aL E v (.row i)) :
  aS (aN E st w js lend os ro t).mem v (.seq n f):=by
 obtain ⟨v0,xs,u,hh,hw,hmax,hlen,hc,he⟩:=l7 (h.ob _ _ hob)
 cases hv with
 | row _ _ hh2 hsl=>
  rw[hh] at hh2;cases hh2
  rcases hw.2 with ⟨rfl,rfl⟩ | ⟨g,cap,cur,rfl,_,hg,hnc,hcm,hcs,htake⟩
  ·exact .nil _
  ·have hnin:i∉js:=fun hi=>by grind [fU]
   have hblk:E.blk i=some g:=by grind [Env.blk,aM]
   have hnone:=(h.own i _ g hob hblk).1
   refine .seq g 0 n cap sz f cur u ?_ hnc hmax hlen (fun j k s hj hs=>?_) (fun j k s hj hs=>(he j k s hj hs).mono fun b cs hb=>fM hb)
   ·show (aN E st w js lend os ro t).mem g=some cur
    simp only[aN,hnone]
    rw[if_pos ⟨hl,i,_,hnin,hob,hblk⟩,hg]
   grind
theorem ahT (st:St) (js:List Nat):∀(l:List SV) (ds:List PV),afs st js l=some ds→l.length=ds.length∧∀(k:Nat) s d,l[k]?=some s→ds[k]?=some d→ain st js s=some d
 | [],ds,h=>by grind [afs]
 | s :: l,ds,h=>by
  simp only[afs] at h
  split at h
  ·rename_i d ds' h1 h2
   cases h
   obtain ⟨g1,g2⟩:=ahT st js l ds' h2
   refine ⟨by simp[g1],fun k s' d' hs hd=>?_⟩
   cases k with
   | zero=>simp at hs hd;subst hs;subst hd;exact h1
   | succ k=>exact g2 k s' d' (by simpa using hs) (by simpa using hd)
  ·cases h
theorem apD {C:Ctx} {E:Env} {st:St} {w:World} (h:bg C E st w) {js:List Nat} {lend:Bool} {t:Nat→Prop} {os:List Ob} {ro:Nat} (hl:lend=true) {s:SV} {d:PV} (hd:ain st js s=some d) {v:Value} (hv:aL E v s) :
  aS (aN E st w js lend os ro t).mem v d:=by
 unfold ain at hd
 split at hd
 ·cases hd
  cases hv with
  | p _ _ _ hp=>exact hp.mono fun b cs hb=>fM (E.fC _ _ _ hb)
 all_goals grind [akN]
theorem ahK {C:Ctx} {E:Env} {st:St} {w:World} (h:bg C E st w) {js:List Nat} {lend:Bool} {t:Nat→Prop} {os:List Ob} {ro:Nat} {s c:SV} (hm:adJ st js s c) (hlend:yQ s c=true→lend=true) {v:Value} (hv:aL E v s) :
  aL (aN E st w js lend os ro t) v c:=by
 unfold adJ at hm
 split at hm
 ·split at hm
  ·obtain ⟨h1,rfl⟩:=hm
   rw[fT] at h1
   obtain ⟨b,hb,rfl⟩:=ji hv
   exact .own _ _ b (by grind [aN])
  grind
 ·split at hm
  ·rw[fT] at hm
   cases hv with | row _ _ hh hs=>exact .row _ _ (by grind [aN]) hs
  grind
 ·split at hm
  ·cases hv with
   | p _ _ _ hp=>exact .p _ _ _ (rH hm (hp.mono fun b cs hb=>fM (E.fC _ _ _ hb)))
  ·rename_i i
   split at hm
   ·rename_i T sz n f hin hob
    refine .p _ _ _ (rH hm ?_)
    have hl:=hlend rfl
    obtain ⟨v0,xs,u,hh,hw,hmax,hlen,hc,he⟩:=l7 (h.ob _ _ hob)
    cases hv with
    | row _ _ hh2 hsl=>
     rw[hh] at hh2;cases hh2
     rcases hw.2 with ⟨rfl,rfl⟩ | ⟨g,cap,cur,rfl,_,hg,hnc,hcm,hcs,htake⟩
     ·exact .nil _
     ·have hnin:i∉js:=fun hi=>by grind [fU]
      have hblk:E.blk i=some g:=by grind [Env.blk,aM]
      have hnone:=(h.own i _ g hob hblk).1
      refine .seq g 0 n cap sz f cur u ?_ hnc hmax hlen (fun j k s hj hs=>?_) (fun j k s hj hs=>(he j k s hj hs).mono fun b cs hb=>fM hb)
      ·show (aN E st w js lend os ro t).mem g=some cur
       simp only[aN,hnone]
       rw[if_pos ⟨hl,i,_,hnin,hob,hblk⟩,hg]
      grind
   grind
  ·rename_i i N lo n
   split at hm
   ·rename_i T N' f hin hob
    obtain ⟨rfl,hm⟩:=hm
    refine .p _ _ _ (rH hm ?_)
    have hl:=hlend rfl
    cases hv with
    | asl _ _ _ _ b c a hh hle hc ha=>
     obtain ⟨b',vs,hh2,hw,hs,hvc⟩:=(h.ob _ _ hob).iD
     rw[hh] at hh2;cases hh2
     rcases atL n with rfl | hn
     ·exact .emp _ _ _
     ·obtain rfl:=ha (by omega)
      have hnin:i∉js:=fun hi=>by grind [fU]
      have hblk:E.blk i=some b:=by grind [Env.blk,aM]
      have hnone:=(h.own i _ b hob hblk).1
      refine .seq b lo n c 1 _ vs (fun j _=>vs.getD (lo+j) undef) ?_ hc ?_ (fun j hj=>rfl) (fun j k s hj hs'=>?_) (fun j k s hj hs'=>?_)
      ·show (aN E st w js lend os ro t).mem b=some vs
       simp only[aN,hnone]
       rw[if_pos ⟨hl,i,_,hnin,hob,hblk⟩,hw]
      ·grind [maxLen]
      ·have hk0:k=0:=by grind
       subst hk0
       obtain ⟨u,u1,u2,u3⟩:=hvc (lo+j) (by omega)
       simp_all
      ·have hk0:k=0:=by grind
       subst hk0
       simp at hs';subst hs'
       obtain ⟨u,u1,u2,u3⟩:=hvc (lo+j) (by omega)
       rw[ac9,u1]
       exact u3.mono fun B cs hB=>fM hB
   grind
  ·rename_i l
   split at hm
   ·rename_i ds hds
    refine .p _ _ _ (rH hm ?_)
    have hl:=hlend rfl
    obtain ⟨g1,g2⟩:=ahT st js l ds hds
    cases hv with
    | agg vs _ hl1 h1 he=>
     refine .agg vs ds (by omega) h1 fun k u d hu hd=>?_
     have hk:k<l.length:=by grind
     have hs:l[k]?=some l[k]:=aav hk
     exact apD h hl (g2 k _ d hs hd) (he k u _ hu hs)
   grind
  grind
 ·split at hm
  ·rw[fT] at hm
   cases hv with | mp _ r hh=>exact .mp _ r (by grind [aN])
  grind
 ·exact .any _
 grind
theorem afP:∀(l m:List SV) (k:Nat) (s c:SV),l[k]?=some s→m[k]?=some c→yQ s c=true→wN l m=true
 | [],_,k,s,c,h,_,_=>by simp at h
 | s :: l,[],k,s',c,_,h,_=>by simp at h
 | s :: l,c :: m,0,s',c',h,h',hl=>by
  simp at h h';subst h;subst h'
  cases s<;>cases c<;>simp_all [yQ,wN]
 | s :: l,c :: m,k+1,s',c',h,h',hl=>by
  simp at h h'
  have:=afP l m k s' c' h h' hl
  cases s<;>cases c<;>simp[wN,this]
theorem lZ:∀(l m:List SV) (k:Nat),(∀(s c:SV),l[k]?=some s→m[k]?=some c→yQ s c=true→jO l m=true) ∧
  (∀f l' f' m',l[k]?=some (.fn f l')→m[k]?=some (.fn f' m')→wN l' m'=true→jO l m=true)
 | [],_,k=>by simp
 | s :: l,[],k=>by simp
 | s :: l,c :: m,0=>by
  refine ⟨fun s' c' h h' hl=>?_,fun f l' f' m' h h' hl=>?_⟩
  ·simp at h h';subst h;subst h'
   cases s<;>cases c<;>simp_all [yQ,jO]
  grind [jO]
 | s :: l,c :: m,k+1=>by
  obtain ⟨h1,h2⟩:=lZ l m k
  have up:jO l m=true→jO (s :: l) (c :: m)=true:=by
   intro h
   cases s<;>cases c<;>simp[jO,h]
  grind
theorem aez (st:St):∀(js:List Nat) (os:List Ob) (k j:Nat) (o:Ob),js[k]?=some j→os[k]?=some o→agZ st j o=true→kP st js os=true
 | [],_,k,j,o,h,_,_=>by simp at h
 | _ :: _,[],k,j,o,_,h,_=>by simp at h
 | i :: js,p :: os,0,j,o,h,h',hl=>by grind [kP]
 | i :: js,p :: os,k+1,j,o,h,h',hl=>by
  have:=aez st js os k j o (by simpa using h) (by simpa using h') hl
  simp[kP,this]
theorem qF {C:Ctx} {E:Env} {st:St} {w:World} (h:bg C E st w) {js:List Nat} {lend:Bool} {t:Nat→Prop} {os:List Ob} {ro:Nat} {s c:SV} (hm:acW st js s c) (hlend:yQ s c=true→lend=true)
  (hlend2:∀f l f' m,s=.fn f l→c=.fn f' m→wN l m=true→lend=true) {v:Value} (hv:aL E v s):aL (aN E st w js lend os ro t) v c:=by
 unfold acW at hm
 split at hm
 ·split at hm
  ·rename_i f m _ f' l
   obtain ⟨rfl,hm⟩:=hm
   obtain ⟨h1,h2⟩:=agl st js l m hm
   cases hv with
   | fn _ vs _ hl he=>
    refine .fn _ vs _ (by omega) fun k u c hu hc=>?_
    grind [ahK,afP]
  grind
 grind [ahK]
theorem afN (st:St) (js:List Nat):∀(ss cs:List SV),wJ st js ss cs→ss.length=cs.length∧∀(k:Nat) (s c:SV),ss[k]?=some s→cs[k]?=some c→afF st js s c
 | [],[],_=>⟨rfl,by simp⟩
 | [],_ :: _,h=>by grind [wJ]
 | _ :: _,[],h=>by grind [wJ]
 | [x],[y],h=>by
  refine ⟨rfl,fun k a b ha hb=>?_⟩
  cases k with
  | zero=>simp at ha hb;subst ha;subst hb;exact h
  | succ k=>simp at ha
 | [x],y :: z :: ys,h=>by grind [wJ]
 | x :: z :: xs,[y],h=>by grind [wJ]
 | x :: x2 :: xs,y :: y2 :: ys,h=>by
  simp only[wJ] at h
  obtain ⟨h1,h2⟩:=afN st js (x2 :: xs) (y2 :: ys) h.2
  refine ⟨by simpa using h1,fun k a b ha hb=>?_⟩
  cases k with
  | zero=>simp at ha hb;subst ha;subst hb;exact h.1
  | succ k=>simp only[anI] at ha hb;exact h2 k a b ha hb
theorem apG {C:Ctx} {E:Env} {st:St} {w:World} (h:bg C E st w) {js:List Nat} {lend:Bool} {os:List Ob} {ro:Nat} {s c:SV} (hm:afF st js s c) (hlend:yQ s c=true→lend=true)
  (hlend2:∀f l f' m,s=.fn f l→c=.fn f' m→wN l m=true→lend=true) {v:Value} (hv:aL E v s):aL (aN E st w js lend os ro E.tm) v c:=by
 unfold afF at hm
 split at hm
 ·split at hm
  ·cases hv with
   | p _ _ _ hp=>
    refine .p _ _ _ (rH hm (hp.mono fun b cs hb=>?_))
    simp_all [Env.m,aN]
  grind
 grind [qF]
theorem aiM (S:Spec) (a:S.A) (k:Nat):(S.post a)[k]?=if k<min S.ro (S.objs a).length then (S.objs a)[k]? else (S.objs' a)[k-min S.ro (S.objs a).length]?:=by
 unfold Spec.post
 grind
theorem pO {C:Ctx} {E:Env} {st:St} {w:World} (h:bg C E st w) {js:List Nat} (hd:distinct js=true) {lend:Bool} {t:Nat→Prop} {os:List Ob} {ro:Nat} (hm:qh st js js os)
  (hlend:kP st js os=true→lend=true):bg { lM w (aN E st w js lend os ro t) os ro with tm:=t } (aN E st w js lend os ro t) (ow os) w:=by
 obtain ⟨hlen,hget⟩:=qD st js js os hm
 have hblk:∀(k j:Nat),js[k]?=some j→(aN E st w js lend os ro t).blk k=E.blk j:=fun k j hj=>by grind [Env.blk,aN]
 have hobj:∀(k j:Nat) (o:Ob),js[k]?=some j→os[k]?=some o→∃o',st.obj j=some o':=by
  intro k j o hj ho
  have:=hget k j o hj ho
  unfold obM at this
  grind
 have hjs:∀(k:Nat) (o:Ob),os[k]?=some o→∃j,js[k]?=some j:=fun k o ho=>⟨_,aav (by grind)⟩
 have hisz:∀b,(aN E st w js lend os ro t).I b→b<w.heap.size:=by
  rintro b ⟨k,o,_,ho,hb⟩
  obtain ⟨j,hj⟩:=hjs k o ho
  obtain ⟨p,hp⟩:=hobj k j o hj ho
  exact (h.ob j p hp).iZ (by grind [Env.blk])
 refine ⟨fun k o ho=>?_,fun k k' o o' b ho ho' hb hb'=>?_,fun k o b ho hb=>?_,fun b cs hb=>?_,fun _ _ h=>h,fun _ _ h=>.inl h,fun k hk=>?_,rfl,⟨rfl,rfl,rfl,abm _,abm _,⟨rfl,rfl,rfl⟩,hisz,fun _ _ _=>rfl,rfl,rfl,rfl⟩,fun _ _=>rfl,abm _,abm _,rfl⟩
 ·rw[gy] at ho
  obtain ⟨j,hj⟩:=hjs k o ho
  have hM:=hget k j o hj ho
  unfold obM at hM
  split at hM
  ·rename_i T cs
   split at hM
   ·rename_i T' cs' hob
    obtain ⟨rfl,hM⟩:=hM
    obtain ⟨g1,g2⟩:=qC st js cs' cs hM
    obtain ⟨b,vs,hh,hw,hA⟩:=(h.ob j _ hob).l6
    refine .cells b _ vs cs (by grind [aN]) hw (by rw[hA.size];exact g1) hA.one fun q u c hu hc=>?_
    have hq:q<cs'.length:=by grind
    have hs:cs'[q]?=some cs'[q]:=aav hq
    have hle:jO cs' cs=true→lend=true:=fun hl=>hlend (aez st js os k j _ hj ho (by grind [agZ]))
    exact qF h (g2 q _ c hs hc) (fun hl=>hle ((lZ cs' cs q).1 _ c hs hc hl)) (fun f l f' m e1 e2 hl=>hle ((lZ cs' cs q).2 f l f' m (by rw[hs,e1]) (by rw[hc,e2]) hl)) (hA.rep q u _ hu hs)
   grind
  ·rename_i T sz n f
   split at hM
   ·rename_i T' sz' n' f' hob
    obtain ⟨rfl,rfl,rfl,hM⟩:=hM
    obtain ⟨v0,xs,u,hh,hw,hmax,hl,hc,he⟩:=l7 (h.ob _ _ hob)
    exact .row _ _ _ f v0 xs u (by grind [aN]) hw hmax (fun q hq=>by grind) (fun q r s hq hs=>hc q r s hq (by grind)) (fun q r s hq hs=>(he q r s hq (by grind)).mono fun b cs hb=>fM hb)
   grind
  ·rename_i T n f
   split at hM
   ·rename_i T' n' f' hob
    obtain ⟨rfl,rfl,hM⟩:=hM
    obtain ⟨b,vs,hh,hw,hs,hvc⟩:=(h.ob _ _ hob).iD
    exact dP.wz (by grind [aN]) hw hs fun q hq=>by
     obtain ⟨u,u1,u2,u3⟩:=hvc q hq
     exact ⟨u,u1,u2,by rw[←hM q hq];exact u3.mono fun b cs hb=>fM hb⟩
   grind
  ·rename_i kt n get
   split at hM
   ·rename_i kt' n' get' hob
    obtain ⟨rfl,rfl,hM⟩:=hM
    obtain rfl:get'=get:=funext hM
    obtain ⟨r,es,clock,hh,hw,h1,h2,h3,h4⟩:=(h.ob _ _ hob).xX
    exact .map r es clock _ _ _ (by grind [aN]) hw h1 h2 h3 (h4.mono fun b cs hb=>fM hb)
   grind
 ·rw[gy] at ho ho'
  obtain ⟨j,hj⟩:=hjs k o ho
  obtain ⟨j',hj'⟩:=hjs k' o' ho'
  obtain ⟨p,hp⟩:=hobj k j o hj ho
  obtain ⟨p',hp'⟩:=hobj k' j' o' hj' ho'
  rw[hblk k j hj] at hb
  rw[hblk k' j' hj'] at hb'
  have:=h.sep j j' p p' b hp hp' hb hb'
  grind [yU]
 ·rw[gy] at ho
  obtain ⟨j,hj⟩:=hjs k o ho
  obtain ⟨p,hp⟩:=hobj k j o hj ho
  have hb2:=hb
  rw[hblk k j hj] at hb2
  refine ⟨?_,?_,?_⟩
  ·have h1:=(h.own j p b hp hb2).1
   simp only[aN,h1]
   rw[if_neg]
   rintro ⟨_,j',p',hnin,hp',hb3⟩
   have:=h.sep j j' p p' b hp hp' hb2 hb3
   grind
  ·by_cases hr:ro≤k
   ·exact .inr ⟨(arx.1 ho).1,.inl ⟨k,o,hr,ho,hb⟩⟩
   ·exact .inr ⟨(arx.1 ho).1,.inr (by show k<ro;omega)⟩
  ·by_cases hr:ro≤k
   ·exact .inl (.inr ⟨k,o,hr,ho,hb⟩)
   ·exact .inr ⟨(arx.1 ho).1,by show k<ro;omega⟩
 ·simp only[aN] at hb
  cases hm:E.mem b with
  | some c=>rw[hm] at hb;cases hb;exact h.mem b _ hm
  | none=>
   rw[hm] at hb
   simp only at hb
   split at hb
   all_goals grind
 ·simp only[aN]
  rw[awr (by rw[hlen];exact hk)];rfl
def gY (E E' : Env) (w : World) : Env :=
  { hd := E.hd
    mem := fun b => match E.mem b with
      | some cs => some cs
      | none => if w.heap.size ≤ b then E'.mem b else none
    tm := E.tm, ws := E.ws, I := E.I, k := E.k }
theorem wV:∀(js:List Nat),distinct js=true→∀r,distinct (js.drop r)=true
 | [],_,r=>by grind
 | i :: js,hd,0=>hd
 | i :: js,hd,r+1=>by
  simp_all [distinct,wV]
theorem aaA (js:List Nat):∀(cs:List SV) (k:Nat),(rC js cs)[k]?=(cs[k]?).map (uD js)
 | [],k=>by simp[rC]
 | c :: cs,0=>by simp[rC]
 | c :: cs,k+1=>by simp[rC,aaA js cs k]
theorem uq (js:List Nat):∀(cs:List SV),(rC js cs).length=cs.length
 | []=>rfl
 | c :: cs=>by simp[rC,uq js cs]
theorem as0 {E E':Env} {w:World} {js:List Nat} (hb:∀b,w.heap.size≤b→E.tm b) (hb':E'.tm=fun b=>w.heap.size≤b) (hhd:∀k,k<js.length→E'.hd k=(js[k]?).bind E.hd)
  (hmem:∀b cs,E'.mem b=some cs→(gY E E' w).mem b=some cs) {v:Value} {s:SV} (h:aL E' v s):aL (gY E E' w) v (uD js s):=by
 cases h with
 | p fr v d hp=>
  refine .p fr v d (hp.mono fun b cs hm=>?_)
  cases fr with
  | false=>exact hmem b cs hm
  | true=>
   simp only[Env.m] at hm ⊢
   split at hm
   ·rename_i hle
    rw[hb'] at hle
    rw[if_pos (show (gY E E' w).tm b from hb b hle)]
    grind
   ·cases hm
 | el i sz j off b n cap hh=>exact .any _
 | sub i sz lo n b n' cap c a hh hle hc ha=>exact .any _
 | full a n f h=>exact .any _
 | asl i N lo n b c a hh hle hc ha=>exact .any _
 | mp i r hh=>
  simp only[uD,fT]
  cases hj:js[i]? with
  | none=>exact .any _
  | some j=>
   have hi:i<js.length:=(arx.1 hj).1
   rw[hhd i hi,hj] at hh
   exact .mp _ r hh
 | own i off b hh=>
  simp only[uD,fT]
  cases hj:js[i]? with
  | none=>exact .any _
  | some j=>
   have hi:i<js.length:=(arx.1 hj).1
   rw[hhd i hi,hj] at hh
   exact .own j off b hh
 | row i v hh hs=>
  simp only[uD,fT]
  cases hj:js[i]? with
  | none=>exact .any _
  | some j=>
   have hi:i<js.length:=(arx.1 hj).1
   rw[hhd i hi,hj] at hh
   exact .row j _ hh hs
 | agg=>exact .any _
 | tup=>exact .any _
 | fn=>exact .any _
 | bnd=>exact .any _
 | any=>exact .any _
theorem anx {C:Ctx} {E:Env} {st:St} {w w':World} (h:bg C E st w) {js:List Nat} (hd:distinct js=true) {lend:Bool} {S:Spec} {a:S.A} (hm:qh st js js (S.objs a))
  (hge:lu C.ro (dH S.ro js)=true) (hl':(S.objs' a).length=(dH S.ro js).length) (hlend:lend=true→S.fresh=true∧dH S.ro js=[])
  {nw:Bool} (htr:nw=true→∀b,C.base≤b→C.tm b) (hnw:nw=true∨dH S.ro js=[])
  {E':Env} (h':bg (lM w (aN E st w js lend (S.objs a) S.ro fun b=>w.heap.size≤b) (S.objs a) S.ro) E' (ow (S.post a)) w') :
  bg C (gY E E' w) { st with ob:=mh js (dH S.ro js) (S.objs' a) st.ob } w'∧E.Le (gY E E' w) ∧
   ∀v d,aS (E'.m S.fresh) v d→aS ((gY E E' w).m (S.fresh&&nw)) v d:=by
 obtain ⟨hlen,hget⟩:=qD st js js _ hm
 rw[vB] at *
 have hobj:∀(k j:Nat) (o:Ob),js[k]?=some j→(S.objs a)[k]?=some o→∃o',st.obj j=some o':=by
  intro k j o hj ho
  have:=hget k j o hj ho
  unfold obM at this
  grind
 have hob:∀(k j:Nat),js[k]?=some j→∃o o',(S.objs a)[k]?=some o∧st.obj j=some o':=by
  intro k j hj
  have hk:k<(S.objs a).length:=by grind
  obtain ⟨o',ho'⟩:=hobj k j _ hj (aav hk)
  grind
 have hle:E.Le (gY E E' w):=⟨fun _ _ h=>h,fun b cs hb=>by simp[gY,hb],rfl⟩
 obtain ⟨hk',hI',hws'⟩:E'.k=none∧E'.I=nZ (aN E st w js lend (S.objs a) S.ro fun b=>w.heap.size≤b).hd (S.objs a) S.ro∧E'.ws=w:=h'.fr.sync
 have hsize:w.heap.size≤w'.heap.size:=by have:=h'.fr.wsz;grind
 have hb0:nw=true→∀b,w.heap.size≤b→E.tm b:=fun hn b hb=>by rw[h.base];exact htr hn b (aiT (aiT h.fr.bsz h.fr.wsz) hb)
 -- which old blocks may have turned
 have keep:∀b,b<w.heap.size→w'.heap[b]?=w.heap[b]?∨∃(p j:Nat) (o:Ob),(js.drop S.ro)[p]?=some j∧st.obj j=some o∧E.blk j=some b:=by
  intro b hb
  by_cases hbor:(lM w (aN E st w js lend (S.objs a) S.ro fun b=>w.heap.size≤b) (S.objs a) S.ro).bor b
  ·obtain ⟨k,o,hk,ho,hbk⟩:=hbor
   have hkl:k<js.length:=by grind
   have hj:js[k]?=some js[k]:=aav hkl
   obtain ⟨o1,o2,_,ho2⟩:=hob k _ hj
   refine .inr ⟨k-S.ro,js[k],o2,by grind,ho2,?_⟩
   grind [aN,Env.blk]
  ·have:=h'.fr.block b (by grind) (by rw[hI'];exact hbor)
   grind
 have memeq:∀b cs,E.mem b=some cs→w'.heap[b]?=w.heap[b]?:=by
  intro b cs hb
  rcases keep b (h.sM hb) with h1 | ⟨p,j,o,_,h2,h3⟩
  ·exact h1
  ·rw[(h.own j o b h2 h3).1] at hb;cases hb
 -- the callee's memory,where nothing was lent
 have hmem:lend=false→∀b cs,E'.mem b=some cs→(gY E E' w).mem b=some cs:=by
  intro hl b cs hb
  subst hl
  simp only[gY]
  rcases h'.memnew b cs hb with h1 | h1
  ·have:=o8 (t:=fun b=>w.heap.size≤b) (os:=S.objs a) (ro:=S.ro) h1;rw[this]
  ·cases hm:E.mem b with
   | some c=>have:=h.sM hm;have h2:w.heap.size≤b:=h1.1;omega
   | none=>simp only;rw[if_pos (show w.heap.size≤b from h1.1)];exact hb
 have hnew0:∀b cs,E'.m true b=some cs→w.heap.size≤b∧(gY E E' w).mem b=some cs:=by
  intro b cs hb
  have hbase:E'.tm=fun b=>w.heap.size≤b:=h'.base
  simp only[Env.m] at hb
  split at hb
  ·rename_i hle
   rw[hbase] at hle
   have hle:w.heap.size≤b:=hle
   refine ⟨hle,?_⟩
   simp only[gY]
   cases hm:E.mem b with
   | some c=>have:=h.sM hm;omega
   | none=>grind
  ·cases hb
 have hnew:nw=true→∀b cs,E'.m true b=some cs→(gY E E' w).m true b=some cs:=by
  intro hn b cs hb
  obtain ⟨h1,h2⟩:=hnew0 b cs hb
  simp_all [Env.m,gY]
 have look':∀j,((∀p:Nat,(js.drop S.ro)[p]?=some j→(St.obj { st with ob:=mh js (js.drop S.ro) (S.objs' a) st.ob } j)=((S.objs' a)[p]?).map (xO js))∧(j∉js.drop S.ro→St.obj { st with ob:=mh js (js.drop S.ro) (S.objs' a) st.ob } j=st.obj j)):=by
  grind [wV,vY,St.obj]
 -- what an object is now
 have cases':∀j o,St.obj { st with ob:=mh js (js.drop S.ro) (S.objs' a) st.ob } j=some o →
   (st.obj j=some o∧j∉js.drop S.ro)∨∃(p:Nat) (o0 o1:Ob),(js.drop S.ro)[p]?=some j∧(S.objs' a)[p]?=some o0∧o=xO js o0∧st.obj j=some o1:=by
  grind [List.getElem?_of_mem]
 have was:∀j o,St.obj { st with ob:=mh js (js.drop S.ro) (S.objs' a) st.ob } j=some o→∃o',st.obj j=some o':=by
  grind
 refine ⟨⟨fun j o ho=>?_,fun i j o o' b ho ho' hb hb'=>?_,fun j o b ho hb=>?_,fun b cs hb=>?_,fun b cs hb=>hle.mem _ _ (h.mem0 b cs hb),fun b cs hb=>?_,h.new,h.base,?_,h.hd0,h.mno,h.mkh,h.kk⟩,hle,fun v d hp=>?_⟩
 ·rcases cases' j o ho with ⟨h1,h2⟩ | ⟨p,o0,o1,hp,h0,rfl,h1⟩
  ·refine ((h.ob j o h1).mono hle).world fun b hb=>?_
   have hb':E.blk j=some b:=hb
   rcases keep b ((h.ob j o h1).iZ hb') with h3 | ⟨q,i,o2,hq,h4,h5⟩
   ·exact h3
   ·have:=h.sep j i o o2 b h1 h4 hb' h5
    grind
  ·have hlf:lend=false:=by
    grind
   have hnt:nw=true:=hnw.resolve_right fun e=>by grind
   have hp2:=hp
   rw[axf] at hp2
   have hk:S.ro+p<(S.objs a).length:=by grind
   have hpost:(S.post a)[S.ro+p]?=some o0:=by
    rw[aiM,if_neg (by omega),show S.ro+p-min S.ro (S.objs a).length=p by omega];exact h0
   have hrep:=h'.ob (S.ro+p) o0 (by grind [gy])
   have hhd:∀k,k<js.length→E'.hd k=(js[k]?).bind E.hd:=fun k hk=>h'.hd0 k (by show k<(S.objs a).length;omega)
   have hhk:E'.hd (S.ro+p)=E.hd j:=by grind
   cases hrep with
   | cells b T vs cs hh hw hl h1' he=>
    exact .cells b T vs _ (hhk.symm.trans hh) hw (by grind [uq]) h1' fun k u s hu hs=>by
     rw[aaA] at hs
     cases hc:cs[k]? with
     | none=>grind
     | some c=>simp[hc] at hs;subst hs;exact as0 (hb0 hnt) h'.base hhd (hmem hlf) (he k u c hu hc)
   | row T sz n f v xs u hh hw hmax hl hc he=>
    exact .row T sz n f v xs u (hhk.symm.trans hh) hw hmax hl hc fun j k s hj hs=>(he j k s hj hs).mono (hmem hlf)
   | arr b T vs n f u hh hw hs hc he=>exact .arr b T vs n f u (hhk.symm.trans hh) hw hs hc fun k hk=>(he k hk).mono (hmem hlf)
   | map r es clock kt n get hh hw h1 h2 h3 h4=>exact .map r es clock kt n get (hhk.symm.trans hh) hw h1 h2 h3 (h4.mono (hmem hlf))
 ·obtain ⟨o1,h1⟩:=was i o ho
  obtain ⟨o2,h2⟩:=was j o' ho'
  exact h.sep i j o1 o2 b h1 h2 hb hb'
 ·obtain ⟨o1,h1⟩:=was j o ho
  obtain ⟨g1,g2⟩:=h.own j o1 b h1 hb
  refine ⟨?_,g2⟩
  simp only[gY,g1]
  rw[if_neg]
  have:=(h.ob j o1 h1).iZ hb
  omega
 ·simp only[gY] at hb
  cases hm:E.mem b with
  | some c=>
   rw[hm] at hb;cases hb
   obtain ⟨T,fr,hw⟩:=h.mem b _ hm
   grind
  | none=>
   rw[hm] at hb
   simp only at hb
   split at hb
   ·exact h'.mem b cs hb
   ·cases hb
 ·simp only[gY] at hb
  cases hm:E.mem b with
  | some c=>rw[hm] at hb;cases hb;exact h.memnew b _ hm
  | none=>
   rw[hm] at hb
   simp only at hb
   split at hb
   ·right;have:=h.fr.bsz;have:=h.fr.wsz;exact ⟨by omega,.inl (by show E.ws.heap.size≤b;omega)⟩
   ·cases hb
 ·refine ⟨h'.fr.os.trans h.fr.os,h'.fr.tape.trans h.fr.tape,h'.fr.output.trans h.fr.output,h.fr.bsz,aiT h.fr.wsz hsize,h.fr.wos,h.fr.isz,fun k hk hbor=>?_,h.fr.sync⟩
  have hkw:k<w.heap.size:=alk hk h.fr.wsz
  rcases keep k hkw with h1 | ⟨p,j,o,hp,h2,h3⟩
  ·rw[h1];exact h.fr.block k hk hbor
  ·have hj:=qV _ hge p j hp
   rcases (h.own j o k h2 h3).2.2 with (h4 | h4) | h4
   ·have hk2:k<E.ws.heap.size:=hk;omega
   ·exact absurd h4 hbor
   ·omega
 ·cases hf:S.fresh with
  | true=>
   rw[hf] at hp
   cases hn:nw with
   | true=>exact hp.mono (hnew hn)
   | false=>exact hp.mono fun b cs hb=>(hnew0 b cs hb).2
  | false=>
   rw[hf] at hp
   have hlf:lend=false:=by
    grind
   exact hp.mono (hmem hlf)
theorem ahu {E E':Env}:∀(cs cs':List SV) (vs vs':List Value),abG cs cs'→vs.length=cs.length→vs'.length=cs'.length →
  (∀(k:Nat) (u:Value) (s:SV),vs[k]?=some u→cs[k]?=some s→aL E u s)→(∀(k:Nat) (u:Value) (s:SV),vs'[k]?=some u→cs'[k]?=some s→aL E' u s)→vs=vs'
 | [],[],[],[],_,_,_,_,_=>rfl
 | .p f (.val a) :: l,.p g (.val b) :: l',v :: vs,v' :: vs',h,h1,h2,h3,h4=>by
  obtain ⟨rfl,h⟩:=h
  have e1:=h3 0 v _ rfl rfl
  have e2:=h4 0 v' _ rfl rfl
  have e:v=v':=by cases e1 with | p _ _ _ h=>cases h;cases e2 with | p _ _ _ h=>cases h;rfl
  rw[e,ahu l l' vs vs' h (by simpa using h1) (by simpa using h2) (fun k u s a b=>h3 (k+1) u s (by simpa using a) (by simpa using b)) (fun k u s a b=>h4 (k+1) u s (by simpa using a) (by simpa using b))]
theorem afE {st:St}:∀(js:List Nat) (os:List Ob),acZ st js os→∀(k j:Nat),js[k]?=some j→∃o,os[k]?=some o∧aiw st j o
 | [],_,_,k,j,hk=>by simp at hk
 | i :: js,[],h,_,_,_=>by grind [acZ]
 | i :: js,o :: os,h,k,j,hk=>by
  cases k with
  | zero=>simp at hk;subst hk;exact ⟨o,rfl,h.1⟩
  | succ k=>exact afE js os h.2 k j (by simpa using hk)
theorem ala {E E':Env} {st:St} {w w':World} {j:Nat} {o o':Ob} (h:aiw st j o) (hh:∀b,E.hd j=b→E'.hd j=b) (h1:∀o,st.obj j=some o→dP E w j o)
  (h2:dP E' w' j o') (h3:∀T cs cs',o=.cells T cs→abG cs cs'→∃ds,o'=.cells T ds∧abG ds cs') {b:Nat} (hb:E.blk j=some b):w'.heap[b]?=w.heap[b]?:=by
 unfold aiw at h
 split at h
 ·rename_i T cs
  split at h
  ·rename_i T' cs' hst
   obtain ⟨rfl,hs⟩:=h
   obtain ⟨ds,rfl,hds⟩:=h3 T cs cs' rfl hs
   have r1:=h1 _ hst
   cases r1 with
   | cells b1 _ vs1 _ hh1 hw1 hl1 _ he1=>
    cases h2 with
    | cells b2 _ vs2 _ hh2 hw2 hl2 _ he2=>
     have e:=hh _ hh1
     rw[hh2] at e;cases e
     have e2:b1=b:=by grind [Env.blk,aM]
     subst e2
     have:=ahu ds cs' vs2.toList vs1.toList hds (by omega) (by omega) (fun k u s a b=>he2 k u s (by simpa using a) b) (fun k u s a b=>he1 k u s (by simpa using a) b)
     simp_all
  grind
 grind
theorem ahS (js:List Nat):∀(cs cs':List SV),abG cs cs'→abG (rC js cs) cs'
 | [],[],_=>trivial
 | .p _ (.val _) :: l,.p _ (.val _) :: l',h=>⟨h.1,ahS js l l' h.2⟩
theorem oN {P:Program} {f:Nat} {fn:Func} (hf:P.funcs[f]?=some fn) (hb:fn.body.isSome=true) (hn:(fn.name=="runtime.NumGoroutine")=false) (args:Array Value) (w:World):(callFunc f args).run P w=.ok (.enter f args) w:=by
 have hb':¬fn.body=none:=by grind
 simp_all [callFunc]
theorem acT {C:Ctx} {E:Env} {st:St} {a:Act} {w:World} (h:av C E st a w) {X:aY} (hnt:C.nt=X.nt) (hro:C.ro=X.ro) {d:Option Nat} (hd:bY X.nt d=true)
  {f:Nat} {args:List SV} {vs:Array Value} (hsz:vs.size=args.length) (hvs:∀(k:Nat) (u:Value) (s:SV),vs[k]?=some u→args[k]?=some s→aL E u s) {K:St→Prop} {gr:Bool} (hgl:∀p∈X.gl,C.mem0 p.1=some p.2) (htr:X.nw=true→∀b,C.base≤b→C.tm b) (hk:afj X gr f args d st K) {next:Act→World→Prop}
  (hn:∀st' E' a' w',K st'→av C E' st' a' w'→(gr=true→Grow w w')→next a' w') :
  (∃fn,X.P.funcs[f]?=some fn∧fn.body.isSome=true∧(fn.name=="runtime.NumGoroutine")=false)∧Calls X.P f vs w fun e w'=>∃v,e=.returned v∧next (a.put d v) w':=by
 obtain ⟨S,⟨hfn,hS⟩,a0,js,⟨hdist,hge0,hjl,hl',hgr,hlend,hgls⟩,hargs,hobs,hpre,hk⟩:=hk
 obtain ⟨hnw0,hge⟩:=Bool.and_eq_true_iff.1 hge0
 have hnw:X.nw=true∨dH S.ro js=[]:=(Bool.or_eq_true_iff.1 hnw0).imp id fun e=>by
  cases hj:dH S.ro js with
  | nil=>rfl
  | cons x l=>rw[hj] at e;cases e
 refine ⟨hfn,?_⟩
 obtain ⟨lend,hlb⟩:∃b,b=(jO args (S.args a0)).or (kP st js (S.objs a0)):=⟨_,rfl⟩
 rw[←hlb] at hlend
 obtain ⟨hal,hag⟩:=qC st js _ _ hargs
 have hheap:bg (lM w (aN E st w js lend (S.objs a0) S.ro fun b=>w.heap.size≤b) (S.objs a0) S.ro) _ _ _:=pO h.heap hdist (lend:=lend) (ro:=S.ro) (t:=fun b=>w.heap.size≤b) hobs (fun h1=>by grind)
 have hA:l8 (aN E st w js lend (S.objs a0) S.ro fun b=>w.heap.size≤b) vs (S.args a0):=by
  refine ⟨by omega,fun k u c hu hc=>?_⟩
  have hka:k<args.length:=by grind
  have hs:args[k]?=some args[k]:=aav hka
  obtain ⟨l1,l2⟩:=lZ args (S.args a0) k
  exact qF h.heap (hag k _ c hs hc) (fun hl=>by grind)
   (fun f l f' m e1 e2 e3=>by grind) (hvs k u _ hu hs)
 refine (hS a0 hpre _ vs w (fun p hp=>fM (h.heap.mem0 _ _ (hgl p (hgls.elim (fun e=>by grind) (fun e=>e▸hp))))) hheap hA).mono fun e w' ⟨v,E',he,hv,hh⟩=>⟨v,he,?_⟩
 obtain ⟨g1,g2,g3⟩:=anx h.heap hdist hobs (by grind) hl' hlend htr hnw hh
 obtain ⟨_,hI',hws'⟩:E'.k=none∧E'.I=nZ (aN E st w js lend (S.objs a0) S.ro fun b=>w.heap.size≤b).hd (S.objs a0) S.ro∧E'.ws=w:=hh.fr.sync
 have hblock:∀b,b<w.heap.size→¬nZ (aN E st w js lend (S.objs a0) S.ro fun b=>w.heap.size≤b).hd (S.objs a0) S.ro b→w'.heap[b]?=w.heap[b]?:=fun b hb hn=>by
  have:=hh.fr.block b (by grind) (by simp_all)
  grind
 have hwsz:w.heap.size≤w'.heap.size:=by have:=hh.fr.wsz;grind
 have hnc:jm w w':=by
  intro D o ho hc
  have hD:=(acG.1 ho).1
  have:=hblock D hD (by
   rintro ⟨k,o1,hk1,hk2,hk3⟩
   have hr:=hheap.ob k o1 (by grind [gy])
   cases hr with
   | cells b T vs cs hh2 hw2 _ _ _=>
    simp[Env.blk,hh2,aM] at hk3;subst hk3;rw[hw2] at ho;cases ho;cases hc
   | row T sz n f v xs u hh2 hw2 _ _ _ _=>
    rcases hw2.2 with ⟨rfl,_⟩ | ⟨g,cap,cur,rfl,_,hg,_⟩
    ·grind [aM]
    ·simp[Env.blk,hh2,aM] at hk3;subst hk3;rw[hg] at ho;cases ho;cases hc
   | arr b T vs n f u hh2 hw2 _ _ _=>simp[Env.blk,hh2,aM] at hk3;subst hk3;rw[hw2] at ho;cases ho;cases hc
   | map r es clock kt n get hh2 hw2 _ _ _ _=>simp[Env.blk,hh2,aM] at hk3;subst hk3;rw[hw2] at ho;cases ho;cases hc)
  grind
 refine dY (h.fE (st':={ st with ob:=mh js (dH S.ro js) (S.objs' a0) st.ob }) g2 rfl g1 ⟨rfl,rfl⟩ hnc) hnt hd hk (.p _ _ _ (g3 v _ hv)) fun st' E2 a' w2 hk' h' hw=>hn st' E2 a' w2 hk' h' fun hg=>?_
 subst hw
 obtain ⟨hol,_⟩:=qD st js js _ hobs
 rw[vB] at hgr
 refine ⟨hwsz,fun b hb=>?_⟩
 by_cases hbor:nZ (aN E st w js lend (S.objs a0) S.ro fun b=>w.heap.size≤b).hd (S.objs a0) S.ro b
 ·obtain ⟨k,o,hk1,hk2,hk3⟩:=hbor
  have h1:k<js.length:=by grind
  rcases hgr hg with hemp | hsame
  ·grind [List.length_drop]
  ·have hjk:js[k]?=some js[k]:=aav h1
   have hjd:(js.drop S.ro)[k-S.ro]?=some js[k]:=by grind
   obtain ⟨o1,ho1,hso⟩:=afE _ _ hsame _ _ hjd
   have hbl:E.blk js[k]=some b:=by
    have e:(aN E st w js lend (S.objs a0) S.ro fun b=>w.heap.size≤b).hd k=E.hd js[k]:=by grind [aN]
    rw[e] at hk3;exact hk3
   have hob:St.obj { st with ob:=mh js (dH S.ro js) (S.objs' a0) st.ob } js[k]=some (xO js o1):=by
    rw[vB] at hl' ⊢
    obtain ⟨q,_⟩:=vY js (js.drop S.ro) (S.objs' a0) st.ob (wV js hdist _) hl'.symm js[k]
    grind [St.obj]
   refine ala (E:=E) (E':=gY E E' w) (o':=xO js o1) hso (fun _ e=>e) (fun o e=>h.heap.ob _ o e) (g1.ob _ _ hob) (fun T cs cs' e hs=>?_) hbl
   subst e;exact ⟨_,rfl,ahS js _ _ hs⟩
 grind
theorem anq {C:Ctx} {E:Env} {st:St} {a:Act} {w:World} (h:av C E st a w) {X:aY} (hnt:C.nt=X.nt) {d:Option Nat} (hd:bY X.nt d=true)
  {f:Nat} {args:List SV} {vs:Array Value} (hsz:vs.size=args.length) (hvs:∀(k:Nat) (u:Value) (s:SV),vs[k]?=some u→args[k]?=some s→aL E u s) {K:St→Prop} {gr:Bool} (hk:atU X f args d st K) {next:Act→World→Prop}
  (hn:∀st' E' a' w',K st'→av C E' st' a' w'→(gr=true→Grow w w')→next a' w') :
  (∃fn,X.P.funcs[f]?=some fn∧fn.body.isSome=true∧(fn.name=="runtime.NumGoroutine")=false)∧Calls X.P f vs w fun e w'=>∃v,e=.returned v∧next (a.put d v) w':=by
 obtain ⟨S,hS,a0,hargs,hpre,h1,hk⟩:=hk
 obtain ⟨lend,hl⟩:∃b,b=jO args (S.args a0):=⟨_,rfl⟩
 refine ⟨hS.1,?_⟩
 have hh:=h.heap
 have hheap:bg (lM w (aN E st w [] lend [] 0 fun b=>w.heap.size≤b) [] 0) _ _ _:=pO hh (js:=[]) rfl (lend:=lend) (os:=[]) (ro:=0) (t:=fun b=>w.heap.size≤b) trivial (fun h=>by cases h)
 obtain ⟨hal,hag⟩:=qC st [] _ _ hargs
 have hA2:l8 (aN E st w [] lend [] 0 fun b=>w.heap.size≤b) vs (S.args a0):=by
  refine ⟨by omega,fun k u c hu hc=>?_⟩
  have hka:k<args.length:=by grind
  have hs:args[k]?=some args[k]:=aav hka
  obtain ⟨l1,l2⟩:=lZ args (S.args a0) k
  grind [qF]
 refine (hS.2 a0 hpre _ vs w hheap hA2).mono ?_
 rintro e w' ⟨v,rfl,hsl,hb,hw,hmax⟩
 have hw0:w'.ownsRow 0 S.T 1 v (S.vals a0).length (S.vals a0):=by
  refine ⟨hw.1,?_⟩
  rcases hw.2 with h2 | ⟨g,cap,cur,h2,_,rest⟩
  all_goals grind
 have hh2:bg C (E.add st.no v) ⟨st.fr,(st.no,some (.row S.T 1 (S.vals a0).length (fO (S.vals a0)))) :: st.ob,st.no+1,st.k⟩ w':=by
  refine hh.step (i:=st.no) (o:=.row S.T 1 (S.vals a0).length (fO (S.vals a0))) (abm _) (Nat.lt_succ_self _) rfl ?_ (fun k o' hk ho=>?_) ?_ hb.os hb.tape hb.output hb.size (fun k hk=>.inl (hb.block k hk)) (fun b hbv=>.inl ?_)
  ·have:=mq st.fr st.ob st.no (st.no+1) (c:=st.k) (c':=st.k) st.no (some (.row S.T 1 (S.vals a0).length (fO (S.vals a0)))) st.no
   grind
  ·have:=mq st.fr st.ob st.no (st.no+1) (c:=st.k) (c':=st.k) st.no (some (.row S.T 1 (S.vals a0).length (fO (S.vals a0)))) k
   rw[if_neg (fun e=>hk e.symm)] at this
   simp_all
  ·refine .row S.T 1 _ _ v (S.vals a0) (fun j _=>(S.vals a0).getD j undef) (Env.kX _ _ _) hw0 hmax (fun j _=>rfl) (fun j k s hj hs=>?_) (fun j k s hj hs=>?_)
   ·simp_all [arx,fO]
   ·have hk:k=0:=by
     grind [fO]
    subst hk
    simp only[fO,axo,Option.some.injEq] at hs
    subst hs
    exact .val _
  ·rcases hw.2 with ⟨rfl,_⟩ | ⟨g,cap,cur,rfl,hg,_⟩
   all_goals grind [aM]
 refine ⟨v,rfl,?_⟩
 refine dY (h.fE (st':=⟨st.fr,(st.no,some (.row S.T 1 (S.vals a0).length (fO (S.vals a0)))) :: st.ob,st.no+1,st.k⟩) (Env.uL (hh.new st.no (abm _))) rfl hh2 ⟨rfl,rfl⟩ (fun D o hD _=>(hb.block D (acG.1 hD).1).trans hD)) hnt hd hk (.row _ _ (Env.kX _ _ _) hsl) fun st' E2 a' w2 hk' h' hw2=>hn st' E2 a' w2 hk' h' fun _=>?_
 subst hw2
 exact ⟨hb.size,fun b hbb=>hb.block b hbb⟩
theorem ael {C:Ctx} {E:Env} {st:St} {a:Act} {w:World} (h:av C E st a w) {X:aY} (hnt:C.nt=X.nt) (hro:C.ro=X.ro) {d:Option Nat} (hd:bY X.nt d=true)
  {f:Nat} {args:List SV} {vs:Array Value} (hsz:vs.size=args.length) (hvs:∀(k:Nat) (u:Value) (s:SV),vs[k]?=some u→args[k]?=some s→aL E u s) {K:St→Prop} {gr:Bool} (hgl:∀p∈X.gl,C.mem0 p.1=some p.2) (htr:X.nw=true→∀b,C.base≤b→C.tm b) (hk:aaB X gr f args d st K) {next:Act→World→Prop}
  (hn:∀st' E' a' w',K st'→av C E' st' a' w'→(gr=true→Grow w w')→next a' w') :
  (∃fn,X.P.funcs[f]?=some fn∧fn.body.isSome=true∧(fn.name=="runtime.NumGoroutine")=false)∧Calls X.P f vs w fun e w'=>∃v,e=.returned v∧next (a.put d v) w':=by
 unfold aaB at hk
 split at hk
 ·split at hk
  ·exact anq h hnt hd hsz hvs hk hn
  ·exact acT h hnt hro hd hsz hvs hgl htr hk hn
 ·exact acT h hnt hro hd hsz hvs hgl htr hk hn
structure nC (W W':World):Prop where
 size:W.heap.size≤W'.heap.size
 same:∀(k:Nat) (o:Obj),W.heap[k]?=some o→stC o=false→W'.heap[k]?=some o
theorem nC.refl (W:World):nC W W:=⟨abm _,fun _ _ h _=>h⟩
theorem nC.trans {A B C:World} (h:nC A B) (k:nC B C):nC A C:=
 ⟨aiT h.size k.size,fun i o hi ho=>k.same i o (h.same i o hi ho) ho⟩
theorem iY.refl (I:Nat→Prop) (μ:Nat→Option (Array Value)) (W:World):iY I μ W W:=⟨rfl,rfl,rfl,abm _,fun _ _=>rfl,fun _ _ _ h=>h⟩
theorem iY.trans {I:Nat→Prop} {μ:Nat→Option (Array Value)} {A B C:World} (h:iY I μ A B) (k:iY I μ B C):iY I μ A C:=
 ⟨k.os.trans h.os,k.tape.trans h.tape,k.output.trans h.output,aiT h.size k.size,fun b hb=>(k.own b hb).trans (h.own b hb),fun b cs hm ha=>k.mem b cs hm (h.mem b cs hm ha)⟩
theorem iY.putObj {I:Nat→Prop} {μ:Nat→Option (Array Value)} {W:World} {l:Nat} {o:Obj} (o':Obj) (hl:W.heap[l]?=some o) (ho:stC o=false) (hI:¬I l):iY I μ W (W.putObj l o'):=
 ⟨rfl,rfl,rfl,by simp,fun b hb=>World.putObj_heap_other (fun e=>hI (e▸hb)),fun b cs _ ⟨T,fr,ha⟩=>⟨T,fr,by
  rw[World.putObj_heap_other (fun e=>by subst e;rw[hl] at ha;cases ha;cases ho)];exact ha⟩⟩
def ac3 (B:Nat) (K:(Nat→Prop)→World→Prop):Prop:=∀(I I':Nat→Prop) (W W':World),K I W→(∀b,I b→I' b)→(∀b,I' b→I b∨W.heap.size≤b)→(∀b,I' b→b<W'.heap.size) →
 W'.os=W.os→W'.tape=W.tape→W'.output=W.output→W.heap.size≤W'.heap.size→(∀b o,W.heap[b]?=some o→¬I b→(b<B∨stC o=true)→W'.heap[b]?=some o)→K I' W'
theorem ac3.mono {B B':Nat} {K:(Nat→Prop)→World→Prop} (h:ac3 B K) (hB:B≤B'):ac3 B' K:=
 fun I I' W W' k h1 h2 h2' h3 h4 h5 h6 h7=>h I I' W W' k h1 h2 h2' h3 h4 h5 h6 fun b o hb hI hc=>h7 b o hb hI (hc.imp (fun x=>by omega) id)
theorem ac3.put {B:Nat} {K:(Nat→Prop)→World→Prop} (h:ac3 B K) {I:Nat→Prop} {W:World} (hK:K I W) (hI:∀b,I b→b<W.heap.size) {l:Nat} {o:Obj} (o':Obj) (hB:B≤l) (hl:W.heap[l]?=some o) (ho:stC o=false):K I (W.putObj l o'):=
 h I I W _ hK (fun _ h=>h) (fun _ h=>.inl h) (fun b hb=>by simp_all) rfl rfl rfl (by simp) fun b o2 hb _ hc=>by
  rw[World.putObj_heap_other]
  all_goals grind
def ald (P:Program) (g:Nat) (lb:Array Value) (μ:Nat→Option (Array Value)) (xs:List (List PV)):Prop:=
 ∀(l:Nat) (J:Option Nat→(Nat→Prop)→World→Prop) (W:World),agq J →
  (∀(k:Nat) (x:List PV) (us:Array Value) (I:Nat→Prop) (W1:World),xs[k]?=some x→ag1 μ us x→J (some k) I W1→YieldAt Fence.wide 9 P l us W1 fun e W'=>
   iY I μ W1 W'∧((e=.returned (.bool true)∧J (some (k+1)) I W')∨(e=.returned (.bool false)∧J none I W'))) →
  J (some 0) (fun _=>False) W→aiB μ W →
  CallsIn Fence.wide 9 P g (#[.func (.yield l) #[] #[]]++lb) W fun e W'=>(∃v,e=.returned v)∧∃I k,J k I W'∧(k=some xs.length∨k=none)
def roundEnd (μ:Nat→Option (Array Value)) (K:Nat→(Nat→Prop)→World→Prop) (Kx:Code→(Nat→Prop)→World→Prop) (k:Nat) (I:Nat→Prop) (W:World):Exit→Act→World→Prop
 | .normal,_,W'=>nC W W'∧iY I μ W W'∧K (k+1) I W'
 | .ret,_,W'=>nC W W'∧iY I μ W W'∧Kx .ret I W'
 | .exit id,_,W'=>nC W W'∧iY I μ W W'∧Kx (.exit id) I W'
 | _,_,_=>False
theorem abg {n m:Nat} {P:Program} {f:FuncId} {args:Array Value} {w:World} {R:Ending→World→Prop}
  (h:CallsIn Fence.wide n P f args w R):CallsIn Fence.wide m P f args w R:=callsIn_wide.2 (callsIn_wide.1 h)
theorem aq7 {P:Program} {g:Operand} {ps:Array Tmp} {assign body:Code} {Q:Exit→Act→World→Prop} {a:Act} {w:World}
  {gf:Nat} {lb:Array Value} (hg:a.eval g=.func (.func gf) #[] lb) (eg:∀args w,(callFunc gf args).run P w=.ok (.enter gf args) w)
  {μ:Nat→Option (Array Value)} {xs:List (List PV)} (hseq:ald P gf lb μ xs) (hμ:aiB μ w) (hps:∀x∈xs,x.length=ps.size)
  (K:Nat→(Nat→Prop)→World→Prop) (Kx:Code→(Nat→Prop)→World→Prop) (hK:∀k,ac3 w.heap.size (K k)) (hKx:∀c,ac3 w.heap.size (Kx c)) (h0:K 0 (fun _=>False) w)
  (Ax:Nat→Array Value→(Nat→Prop)→Act→World→Prop) (hAx:∀k x a',ac3 w.heap.size (fun I W=>Ax k x I a' W))
  (hassign:∀(l k:Nat) (x:List PV) (us:Array Value) (I:Nat→Prop) (W:World),xs[k]?=some x→ag1 μ us x→K k I W→(∀b,I b→w.heap.size≤b∧b<W.heap.size) →
   assign.wpIn (Fence.wide.inRound l) 9 P (Exit.then (fun a' W'=>nC W W'∧iY I μ W W'∧Ax k us I a' W') (fun _ _ _=>False))
    { tmps:=(ps.zip us).foldl (fun t (p,v)=>t.setIfInBounds p v) a.tmps,defers:=[] } W)
  (hbody:∀(l k:Nat) (x:List PV) (us:Array Value) (I:Nat→Prop) (a':Act) (W:World),xs[k]?=some x→ag1 μ us x→Ax k us I a' W→(∀b,I b→w.heap.size≤b∧b<W.heap.size)→body.wpIn (Fence.wide.inRound l) 9 P (roundEnd μ K Kx k I W) a' W)
  (hdone:∀(D:Nat) (I:Nat→Prop) (W:World),w.heap.size≤D→K xs.length I W→W.heap[D]?=some (.deferred (some []))→Q .normal { a with defers:={ target:=.collected D,args:=#[] } :: a.defers } W)
  (hstop:∀(D:Nat) (c:Code) (I:Nat→Prop) (W:World),w.heap.size≤D→Kx c I W→W.heap[D]?=some (.deferred (some []))→c.wpIn Fence.wide 9 P Q { a with defers:={ target:=.collected D,args:=#[] } :: a.defers } W) :
  (Code.rangeFunc g ps assign body).wpIn Fence.wide 9 P Q a w:=by
 refine wpIn_rangeFunc ?_
 intro fn _
 obtain ⟨rec,hrec⟩:∃rec:LoopState→Option Code→Loop,rec=fun st pe=>{ state:=st,pending:=pe,fn,tmps:=a.tmps,params:=ps,assign,body,defers:=w.heap.size }:=⟨_,rfl⟩
 obtain ⟨W1,hW1⟩:∃W1,(w.alloc (.deferred (some []))).alloc (.loop (rec .ready none))=W1:=⟨_,rfl⟩
 have hL1:W1.heap[w.heap.size+1]?=some (.loop (rec .ready none)):=by
  grind [World.alloc_heap_new,World.size_alloc]
 have hK1:W1.heap[w.heap.size]?=some (.deferred (some [])):=by
  grind [RowKit.Below.heap_alloc,World.alloc_heap_new]
 have hold:∀b,b<w.heap.size→W1.heap[b]?=w.heap[b]?:=fun b hb=>by
  grind [RowKit.Below.heap_alloc]
 have hs1:W1.heap.size=w.heap.size+2:=by rw[←hW1];simp
 have hos:W1.os=w.os∧W1.tape=w.tape∧W1.output=w.output:=by rw[←hW1];exact ⟨rfl,rfl,rfl⟩
 have hI1:K 0 (fun _=>False) W1:=hK 0 _ _ _ _ h0 (fun _ h=>h) (fun _ h=>.inl h) (fun _ h=>h.elim) hos.1 hos.2.1 hos.2.2 (by omega) fun b o hb _ _=>by
  grind
 have hμ1:aiB μ W1:=fun b cs hb=>by
  obtain ⟨T,fr,h⟩:=hμ b cs hb
  exact ⟨T,fr,by grind⟩
 refine ⟨w.heap.size+1,[{ target:=.collected w.heap.size,args:=#[] }],W1,{ target:=.fn (.func gf) lb,args:=#[.func (.yield (w.heap.size+1)) #[] #[]] },W1,gf,
  #[.func (.yield (w.heap.size+1)) #[] #[]]++lb,W1,?_,?_,?_,?_,by omega,?_⟩
 ·simp_all [run_enterLoop_outer]
 ·simp only[resolve,hg]
  simp[go_sem]
 ·intro f' _;trivial
 ·grind [invoke]
 ·-- the loop's own objects
  have keepO:∀{A B:World} {I:Nat→Prop} (b:Nat) (o:Obj),b<w.heap.size+2→(∀b,I b→w.heap.size+2≤b∧b<A.heap.size)→(∀b,b<A.heap.size→¬I b→B.heap[b]?=A.heap[b]?)→A.heap[b]?=some o→B.heap[b]?=some o:=
   fun b o hb hI hs h=>by grind
  have grow:∀{A:World} {I I':Nat→Prop},A.heap.size≥w.heap.size+2→(∀b,I b→w.heap.size+2≤b∧b<A.heap.size)→(∀b,I' b→I b∨A.heap.size≤b)→∀b,I' b→w.heap.size+2≤b:=fun hA hI hI' b hb=>by
   grind
  refine (abg (hseq (w.heap.size+1)
   (fun k I W=>(∀b,I b→w.heap.size+2≤b∧b<W.heap.size)∧w.heap.size+2≤W.heap.size∧W.heap[w.heap.size]?=some (.deferred (some []))∧match k with
    | some k=>K k I W∧W.heap[w.heap.size+1]?=some (.loop (rec .ready none))
    | none=>∃c,Kx c I W∧W.heap[w.heap.size+1]?=some (.loop (rec .done (some c))))
   W1
   (fun k I I' A B hj h1 h2 h2' h3 h4 h5 h6 h7=>by
    obtain ⟨j1,j2,j3,j4⟩:=hj
    refine ⟨fun b hb=>⟨grow j2 j1 h2 b hb,h2' b hb⟩,by omega,keepO _ _ (by omega) j1 h7 j3,?_⟩
    cases k with
    | some k=>exact ⟨hK k I I' A B j4.1 h1 h2 h2' h3 h4 h5 h6 (fun b o hb hI _=>by grind),keepO _ _ (by omega) j1 h7 j4.2⟩
    | none=>
     obtain ⟨c,c1,c2⟩:=j4
     exact ⟨c,hKx c I I' A B c1 h1 h2 h2' h3 h4 h5 h6 (fun b o hb hI _=>by grind),keepO _ _ (by omega) j1 h7 c2⟩)
   ?_ ⟨fun _ h=>h.elim,by omega,hK1,hI1,hL1⟩ hμ1)).mono ?_
  ·-- one round
   rintro k x us I W hx hus ⟨hIb,hsz,hd,hi,hl⟩
   have hI0:∀b,I b→w.heap.size≤b∧b<W.heap.size:=fun b hb=>by grind
   have hnI:¬I (w.heap.size+1):=fun h=>by grind
   have hy:=run_yield (P:=P) (args:=us) hl (by rw[hrec,hus.1];grind)
   rw[hrec] at hy
   refine ⟨fn,_,assign,body,hy,roundIn_of_wpIn trivial (wpIn_mono (hassign _ k x us I W hx hus hi hI0) ?_)⟩
   rintro e a' Wa hp
   cases e with
   | normal=>
    obtain ⟨hka,hkpa,hax⟩:=hp
    have hla:=hka.same _ _ hl rfl
    have hda:=hka.same _ _ hd rfl
    have hlta:w.heap.size+1<Wa.heap.size:=(acG.1 hla).1
    refine ⟨_,run_beginRound hla (by rw[hrec]),?_⟩
    have hl2:(Wa.putObj (w.heap.size+1) (.loop { rec .ready none with state:=.busy })).heap[w.heap.size+1]?=some (.loop { rec .ready none with state:=.busy }):=World.putObj_heap_same hlta
    have hd2:(Wa.putObj (w.heap.size+1) (.loop { rec .ready none with state:=.busy })).heap[w.heap.size]?=some (.deferred (some [])):=(World.putObj_heap_other (by omega)).trans hda
    have hkp2:iY I μ Wa (Wa.putObj (w.heap.size+1) (.loop { rec .ready none with state:=.busy })):=iY.putObj _ hla rfl hnI
    have hIa:∀b,I b→b<Wa.heap.size:=fun b hb=>alk (hI0 b hb).2 hka.size
    have hax2:=(hAx k us a').put hax hIa (.loop { rec .ready none with state:=.busy }) (by omega) hla rfl
    refine wpIn_mono (hbody _ k x us I a' _ hx hus hax2 fun b hb=>⟨(hI0 b hb).1,by simp_all⟩) ?_
    have fin:∀(jump:Option Code) (W3:World),nC (Wa.putObj (w.heap.size+1) (.loop { rec .ready none with state:=.busy })) W3→iY I μ (Wa.putObj (w.heap.size+1) (.loop { rec .ready none with state:=.busy })) W3 →
      (Instr.endRound (w.heap.size+1) jump).run P W3=.ok (.bool jump.isNone) (W3.putObj (w.heap.size+1) (.loop (rec (if jump.isNone then .ready else .done) jump))) ∧
      W3.heap[w.heap.size+1]?=some (.loop { rec .ready none with state:=.busy }) ∧
      (W3.putObj (w.heap.size+1) (.loop (rec (if jump.isNone then .ready else .done) jump))).heap[w.heap.size+1]?=some (.loop (rec (if jump.isNone then .ready else .done) jump)) ∧
      (W3.putObj (w.heap.size+1) (.loop (rec (if jump.isNone then .ready else .done) jump))).heap[w.heap.size]?=some (.deferred (some []))∧w.heap.size+2≤W3.heap.size ∧
      iY I μ W (W3.putObj (w.heap.size+1) (.loop (rec (if jump.isNone then .ready else .done) jump))):=fun jump W3 hk3 hp3=>by
     have hl3:=hk3.same _ _ hl2 rfl
     have:=run_endRound (P:=P) jump hl3
     rw[hrec] at this
     refine ⟨by grind,hl3,World.putObj_heap_same (acG.1 hl3).1,(World.putObj_heap_other (by omega)).trans (hk3.same _ _ hd2 rfl),?_,hkpa.trans ((hkp2.trans hp3).trans (iY.putObj _ hl3 rfl hnI))⟩
     grind
    have hI3:∀{W3:World},nC (Wa.putObj (w.heap.size+1) (.loop { rec .ready none with state:=.busy })) W3→∀b,I b→b<W3.heap.size:=fun hk3 b hb=>alk (by simp_all) hk3.size
    have hIn:∀{W3:World} {o:Obj},nC (Wa.putObj (w.heap.size+1) (.loop { rec .ready none with state:=.busy })) W3→∀b,I b→w.heap.size+2≤b∧b<(W3.putObj (w.heap.size+1) o).heap.size:=fun hk3 b hb=>⟨(hIb b hb).1,by simp_all⟩
    rintro e a3 W3 hp
    cases e with
    | normal=>
     obtain ⟨hk3,hp3,hi3⟩:=hp
     obtain ⟨hr,hl3,hl4,hd4,hs4,hkk⟩:=fin none W3 hk3 hp3
     exact ⟨_,_,hr,hkk,.inl ⟨rfl,hIn hk3,by grind,hd4,(hK _).put hi3 (hI3 hk3) _ (by omega) hl3 rfl,hl4⟩⟩
    | ret=>
     obtain ⟨hk3,hp3,hi3⟩:=hp
     obtain ⟨hr,hl3,hl4,hd4,hs4,hkk⟩:=fin (some .ret) W3 hk3 hp3
     exact ⟨_,_,hr,hkk,.inr ⟨rfl,hIn hk3,by grind,hd4,.ret,(hKx _).put hi3 (hI3 hk3) _ (by omega) hl3 rfl,hl4⟩⟩
    | exit id=>
     obtain ⟨hk3,hp3,hi3⟩:=hp
     obtain ⟨hr,hl3,hl4,hd4,hs4,hkk⟩:=fin (some (.exit id)) W3 hk3 hp3
     exact ⟨_,_,hr,hkk,.inr ⟨rfl,hIn hk3,by grind,hd4,.exit id,(hKx _).put hi3 (hI3 hk3) _ (by omega) hl3 rfl,hl4⟩⟩
    | _=>exact hp.elim
   | _=>exact hp.elim
  ·-- behind the iterator
   rintro e W2 ⟨⟨v,rfl⟩,I,k,⟨hIb,hsz,hd,hj⟩,hk⟩
   rcases hk with rfl | rfl
   ·obtain ⟨hi,hl⟩:=hj
    exact ⟨none,_,by have:=run_endLoop (P:=P) hl (by grind);rw[hrec] at this;exact this,hdone _ _ _ (abm _) ((hK _).put hi (fun b hb=>(hIb b hb).2) _ (by omega) hl rfl) ((World.putObj_heap_other (by omega)).trans hd)⟩
   ·obtain ⟨c,hi,hl⟩:=hj
    exact ⟨some c,_,by have:=run_endLoop (P:=P) hl (by grind);rw[hrec] at this;exact this,
     hstop _ c _ _ (abm _) ((hKx c).put hi (fun b hb=>(hIb b hb).2) _ (by omega) hl rfl) ((World.putObj_heap_other (by omega)).trans hd)⟩
structure Yields (C:Ctx) (P:Program) (l:Nat) (xs:List (List PV)):Prop where
 at_:∀(k:Nat) (x:List PV) (us:Array Value) (I:Nat→Prop) (W1:World),xs[k]?=some x→ag1 C.agI us x→C.J (some k) I W1→YieldAt Fence.wide 9 P l us W1 fun e W'=>
   (iY I C.mem0 W1 W'∧∀i b,i<C.m→(C.hd0 i).bind aM=some b→W'.heap[b]?=W1.heap[b]?)∧((e=.returned (.bool true)∧C.J (some (k+1)) I W')∨(e=.returned (.bool false)∧C.J none I W'))
 ae9:agq C.J
 wk:C.wk.heap=#[]
 tm:∀b,C.tm b→∃cs,C.mem0 b=some cs
structure CX (C:Ctx) (X:aY) (F:Fence):Prop where
 m:C.m=X.m
 y:∀l xs,X.yl=some (l,xs)→Yields C X.P l xs∧F=Fence.wide
 f:X.rnd=false→F=Fence.wide∧C.nm=false
 lent:∀i b,i<C.m→(C.hd0 i).bind aM=some b→b<C.base
 rm:C.ro≤C.m
 gl:∀p∈X.gl,C.mem0 p.1=some p.2
 nw:X.nw=true→∀b,C.base≤b→C.tm b
theorem acF {gr:Bool} {C:Ctx} {E:Env} {st:St} {a:Act} {w:World} (h:av C E st a w) {X:aY} (hnt:C.nt=X.nt) (hro:C.ro=X.ro) (hgl:∀p∈X.gl,C.mem0 p.1=some p.2) (htr:X.nw=true→∀b,C.base≤b→C.tm b) {o:Oper} (hd:bY X.nt o.dst=true) {f:Operand} {args:Array Operand} {ts:Array TypeId} (ho:o.op=.call ⟨.value f,args,ts⟩)
  {F:Fence} (hF:jq F) {K:St→Prop} {k:Nat} {capt:List SV} {cvs:Array Value} (hfe:a.eval f=.func (.func k) #[] cvs) (hcl:cvs.size=capt.length) (hce:∀(q:Nat) (u:Value) (s:SV),cvs[q]?=some u→capt[q]?=some s→aL E u s)
  (hk:aaB X gr k (evs st args.toList++capt) o.dst st K) {next:Act→World→Prop} {Q:Exit→Act→World→Prop}
  (hn:∀st' E' a' w',K st'→av C E' st' a' w'→(gr=true→jL o.op=true→Grow w w')→next a' w'):o.wpIn F 9 X.P a w next Q:=by
 have hnd:∀c',o.op≠.defer c':=by simp[ho]
 obtain ⟨e1,e2⟩:=pI h args.toList
 have hsz:(args.map a.eval++cvs).size=(evs st args.toList++capt).length:=by simp[e1,hcl]
 have hvs:∀(q:Nat) (u:Value) (s:SV),(args.map a.eval++cvs)[q]?=some u→(evs st args.toList++capt)[q]?=some s→aL E u s:=by
  grind
 obtain ⟨⟨fn,hfn,hb,hnm⟩,hcalls⟩:=ael h hnt hro hd hsz hvs hgl htr hk fun st' E' a' w' hk' h' hg=>hn st' E' a' w' hk' h' fun g1 _=>hg g1
 refine ⟨fun g _=>hF.fn g,?_⟩
 have hrun:(execOp a.eval o).run X.P w=.ok (.enter k (args.map a.eval++cvs)) w:=by
  grind [execOp,resolve,Deferred.ofValue,invoke,oN]
 rw[Oper.semAt_plain F _ _ hnd,hrun]
 rw[Oper.uponIn_enter]
 refine ⟨fun hdep=>(by omega),hF.calls (hcalls.mono ?_)⟩
 grind
theorem acM {gr:Bool} {C:Ctx} {E:Env} {st:St} {a:Act} {w:World} (h:av C E st a w) {X:aY} (hnt:C.nt=X.nt) (hro:C.ro=X.ro) (hgl:∀p∈X.gl,C.mem0 p.1=some p.2) (htr:X.nw=true→∀b,C.base≤b→C.tm b) {o:Oper} (hd:bY X.nt o.dst=true) {f:Operand} {args:Array Operand} {ts:Array TypeId} (ho:o.op=.call ⟨.value f,args,ts⟩)
  {F:Fence} (hF:jq F) {K:St→Prop} {k:Nat} {capt:List SV} {cvs:Array Value} (hfe:a.eval f=.func (.func k) cvs #[]) (hcl:cvs.size=capt.length) (hce:∀(q:Nat) (u:Value) (s:SV),cvs[q]?=some u→capt[q]?=some s→aL E u s)
  (hk:aaB X gr k (capt++evs st args.toList) o.dst st K) {next:Act→World→Prop} {Q:Exit→Act→World→Prop}
  (hn:∀st' E' a' w',K st'→av C E' st' a' w'→(gr=true→jL o.op=true→Grow w w')→next a' w'):o.wpIn F 9 X.P a w next Q:=by
 have hnd:∀c',o.op≠.defer c':=by simp[ho]
 obtain ⟨e1,e2⟩:=pI h args.toList
 have hsz:(cvs++args.map a.eval).size=(capt++evs st args.toList).length:=by grind
 have hvs:∀(q:Nat) (u:Value) (s:SV),(cvs++args.map a.eval)[q]?=some u→(capt++evs st args.toList)[q]?=some s→aL E u s:=by
  grind
 obtain ⟨⟨fn,hfn,hb,hnm⟩,hcalls⟩:=ael h hnt hro hd hsz hvs hgl htr hk fun st' E' a' w' hk' h' hg=>hn st' E' a' w' hk' h' fun g1 _=>hg g1
 refine ⟨fun g _=>hF.fn g,?_⟩
 have hrun:(execOp a.eval o).run X.P w=.ok (.enter k (cvs++args.map a.eval)) w:=by
  grind [execOp,resolve,Deferred.ofValue,invoke,oN]
 rw[Oper.semAt_plain F _ _ hnd,hrun]
 rw[Oper.uponIn_enter]
 refine ⟨fun hdep=>(by omega),hF.calls (hcalls.mono ?_)⟩
 grind
theorem bg.freeze {C:Ctx} {E:Env} {st:St} {w:World} (h:bg C E st w) {i:Nat} {T:TypeId} {sz n:Nat} {f:Nat→List PV} (hob:st.obj i=some (.row T sz n f)) (hm:C.m≤i) :
  ∃E',E.Le E'∧(E'.ws=E.ws∧E'.I=E.I)∧bg C E' (st.eX i none) w∧∀v,aL E v (.row i)→aS E'.mem v (.seq n f):=by
 have hset:∀k,(st.eX i none).obj k=if i=k then none else st.obj k:=fun k=>mq st.fr st.ob st.no _ _ _ _
 have hold:∀k o,(st.eX i none).obj k=some o→st.obj k=some o∧i≠k:=fun k o ho=>by
  grind
 obtain ⟨v0,xs,u,hh,hw,hmax,hl,hc,he⟩:=l7 (h.ob _ _ hob)
 rcases hw.2 with ⟨e0,rfl⟩ | ⟨g,cap,cur,e0,_⟩
 ·subst e0
  refine ⟨E,Env.Le.refl E,⟨rfl,rfl⟩,⟨fun k o ho=>h.ob k o (hold k o ho).1,fun a b o o' bl ho ho'=>h.sep a b o o' bl (hold a o ho).1 (hold b o' ho').1,fun k o b ho=>h.own k o b (hold k o ho).1,h.mem,h.mem0,h.memnew,h.new,h.base,h.fr,h.hd0,h.mno,h.mkh,h.kk⟩,fun v hv=>?_⟩
  cases hv with
  | row _ _ hh2 _=>rw[hh] at hh2;cases hh2;exact .nil _
 ·subst e0
  obtain ⟨_,cur,u,hR⟩:=(h.ob _ _ hob).pG hh
  have hbk:E.blk i=some g:=by grind [Env.blk,aM]
  obtain ⟨hg0,hg1,hg2⟩:=h.own i _ g hob hbk
  have hgb:C.base≤g:=hg1.resolve_right (fun x=>by omega)
  have hgm:E.mine g:=hg2.resolve_right (fun x=>by omega)
  have hle:E.Le (E.ig g cur):=⟨fun _ _ x=>x,fun b c hc=>by
   simp only[Env.ig]
   grind,rfl⟩
  have new:∀{b c},(E.ig g cur).mem b=some c→(b=g∧c=cur)∨E.mem b=some c:=by
   intro b c hc
   simp only[Env.ig] at hc
   grind
  refine ⟨E.ig g cur,hle,⟨rfl,rfl⟩,⟨fun k o ho=>(h.ob k o (hold k o ho).1).mono hle,fun a b o o' bl ho ho'=>h.sep a b o o' bl (hold a o ho).1 (hold b o' ho').1,fun k o b ho hb=>?_,fun b c hc=>?_,fun b c hc=>hle.mem b c (h.mem0 b c hc),fun b c hc=>?_,h.new,h.base,⟨h.fr.os,h.fr.tape,h.fr.output,h.fr.bsz,h.fr.wsz,h.fr.wos,h.fr.isz,h.fr.block,h.fr.sync⟩,h.hd0,h.mno,h.mkh,h.kk⟩,fun v hv=>?_⟩
  ·obtain ⟨ho,hik⟩:=hold k o ho
   obtain ⟨q1,q2⟩:=h.own k o b ho hb
   refine ⟨?_,q2⟩
   simp only[Env.ig]
   rw[if_neg (fun e=>hik (h.sep i k _ _ g hob ho hbk (by subst e;exact hb)))];exact q1
  ·rcases new hc with ⟨rfl,rfl⟩ | h1
   ·exact ⟨_,_,hR.heap⟩
   ·exact h.mem b c h1
  ·rcases new hc with ⟨rfl,rfl⟩ | h1
   ·exact .inr ⟨hgb,hgm⟩
   ·exact h.memnew b c h1
  ·cases hv with
   | row _ _ hh2 _=>
    rw[hh] at hh2;cases hh2
    exact .seq g 0 n cap sz f cur u (by simp[Env.ig]) hR.hn hR.hmax hR.hl (fun j k s hj hs=>by rw[ajv];exact hR.hc j k s hj hs) (fun j k s hj hs=>(hR.he j k s hj hs).mono hle.mem)
theorem nN:∀(G:List Nat) (l:List (Nat×Option Ob)) (i:Nat),look (jM G l) i=if i∈G then some none else look l i
 | [],l,i=>by simp[jM]
 | j :: G,l,i=>by
  simp only[jM,bq,nN G l i,ahy]
  grind
noncomputable def Env.jG (E : Env) (st : St) (w : World) (js : List Nat) : Env :=
  { E with mem := fun b => match E.mem b with
      | some cs => some cs
      | none => open Classical in if ∃ j o, j ∈ js ∧ st.obj j = some o ∧ E.blk j = some b then (match w.heap[b]? with | some (.cells cs _ _) => some cs | _ => none) else none }
theorem am5 {E:Env} {st:St} {w:World} {js:List Nat} {b:Nat} {cs:Array Value} (h:E.mem b=some cs):(E.jG st w js).mem b=some cs:=by simp[Env.jG,h]
theorem tV (E:Env) (st:St) (w:World) (js:List Nat):E.Le (E.jG st w js):=⟨fun _ _ h=>h,fun _ _ h=>am5 h,rfl⟩
theorem afT {E:Env} {st:St} {w:World} {js:List Nat} {b:Nat} {cs:Array Value} (h:(E.jG st w js).mem b=some cs) :
  E.mem b=some cs∨(E.mem b=none∧(∃j o,j∈js∧st.obj j=some o∧E.blk j=some b)∧∃T fr,w.heap[b]?=some (.cells cs T fr)):=by
 simp only[Env.jG] at h
 cases hm:E.mem b with
 | some c=>grind
 | none=>
  rw[hm] at h
  simp only at h
  split at h
  all_goals grind
theorem bg.ah4 {C:Ctx} {E:Env} {st:St} {w:World} (h:bg C E st w) {js:List Nat} (hm:∀j∈js,C.m≤j):bg C (E.jG st w js) { st with ob:=jM js st.ob } w:=by
 have hle:=tV E st w js
 have hold:∀k o,St.obj { st with ob:=jM js st.ob } k=some o→st.obj k=some o∧k∉js:=fun k o ho=>by
  unfold St.obj at ho ⊢
  simp only[nN] at ho
  grind
 refine ⟨fun k o ho=>(h.ob k o (hold k o ho).1).mono hle,fun a b o o' bl ho ho'=>h.sep a b o o' bl (hold a o ho).1 (hold b o' ho').1,fun k o b ho hb=>?_,fun b c hc=>?_,fun b c hc=>hle.mem b c (h.mem0 b c hc),fun b c hc=>?_,h.new,h.base,⟨h.fr.os,h.fr.tape,h.fr.output,h.fr.bsz,h.fr.wsz,h.fr.wos,h.fr.isz,h.fr.block,h.fr.sync⟩,h.hd0,h.mno,h.mkh,h.kk⟩
 ·obtain ⟨ho,hk⟩:=hold k o ho
  obtain ⟨q1,q2⟩:=h.own k o b ho hb
  refine ⟨?_,q2⟩
  simp only[Env.jG,q1]
  rw[if_neg]
  rintro ⟨j,o',hj,ho',hb'⟩
  obtain rfl:=h.sep k j o o' b ho ho' hb hb'
  exact hk hj
 ·rcases afT hc with h1 | ⟨_,_,T,fr,hw⟩
  ·exact h.mem b c h1
  grind
 ·rcases afT hc with h1 | ⟨_,⟨j,o,hj,ho,hb⟩,_⟩
  ·exact h.memnew b c h1
  ·obtain ⟨_,q2,q3⟩:=h.own j o b ho hb
   have:=hm j hj
   exact .inr ⟨q2.resolve_right (fun x=>by omega),q3.resolve_right (fun x=>by omega)⟩
theorem ajJ:∀(l:List (Option PV)) (ds:List PV),y7 l=some ds→l.length=ds.length∧∀(k:Nat) d,ds[k]?=some d→l[k]?=some (some d)
 | [],ds,h=>by grind [y7]
 | none :: l,ds,h=>by grind [y7]
 | some d0 :: l,ds,h=>by
  simp only[y7] at h
  cases hr:y7 l with
  | none=>simp[hr] at h
  | some r=>
   simp only[hr,Option.some.injEq] at h
   subst h
   obtain ⟨h1,h2⟩:=ajJ l r hr
   refine ⟨by simpa using h1,fun k d hd=>?_⟩
   cases k with
   | zero=>simpa using hd
   | succ k=>simpa using h2 k d (by simpa using hd)
theorem aeQ {C:Ctx} {E:Env} {st:St} {w:World} (h:bg C E st w) {js:List Nat}:∀(n:Nat) (s:SV) (d:PV) (v:Value),mH st js n s=some d→aL E v s→aS (E.jG st w js).mem v d:=by
 have hle:=tV E st w js
 have iV:∀i o bl cs T fr,iK i js=true→st.obj i=some o→E.blk i=some bl→w.heap[bl]?=some (.cells cs T fr)→(E.jG st w js).mem bl=some cs:=by
  intro i o bl cs T fr hi ho hb hw
  obtain ⟨g1,g2⟩:=h.own i o bl ho hb
  simp only[Env.jG,g1]
  rw[if_pos ⟨i,o,(fU i js).1 hi,ho,hb⟩,hw]
 have base:∀(b:Bool) (d:PV) (v:Value),aL E v (.p b d)→aS (E.jG st w js).mem v d:=by
  intro b d v hv
  cases hv with
  | p _ _ _ hp=>exact (hp.mono (E.fC b)).mono hle.mem
 have rowc:∀(i:Nat) (T:TypeId) (sz n:Nat) (f:Nat→List PV) (v:Value),iK i js=true→st.obj i=some (.row T sz n f)→aL E v (.row i)→aS (E.jG st w js).mem v (.seq n f):=by
  intro i T sz n f v hi hob hv
  obtain ⟨v0,xs,u,hh,hw,hmax,hl,hc,he⟩:=l7 (h.ob _ _ hob)
  cases hv with
  | row _ _ hh2 hsl=>
   rw[hh] at hh2;cases hh2
   rcases hw.2 with ⟨rfl,rfl⟩ | ⟨g,cap,cur,rfl,_,hg,hnc,hcm,hcs,htake⟩
   ·exact .nil _
   ·have hblk:E.blk i=some g:=by grind [Env.blk,aM]
    refine .seq g 0 n cap sz f cur u (iV i _ g cur T _ hi hob hblk hg) hnc hmax hl (fun j k s hj hs=>?_) (fun j k s hj hs=>(he j k s hj hs).mono hle.mem)
    grind
 have subc:∀(i sz lo n m:Nat) (T:TypeId) (f:Nat→List PV) (v:Value),iK i js=true→st.obj i=some (.row T sz m f)→aL E v (.sub i sz lo n)→aS (E.jG st w js).mem v (.seq n (fun k=>f (lo+k))):=by
  intro i sz lo n m T f v hi hob hv
  cases hv with
  | sub _ _ _ _ bl n' cap c a hh hle2 hc hr ha=>
   obtain ⟨rfl,cur,u,hR⟩:=(h.ob _ _ hob).pG hh
   rcases atL n with rfl | hn
   ·exact .emp _ _ _
   ·obtain rfl:=ha (by omega)
    have hblk:E.blk i=some bl:=by grind [Env.blk,aM]
    refine .seq bl (lo*sz) n c sz _ cur (fun j k=>u (lo+j) k) (iV i _ bl cur T _ hi hob hblk hR.heap) hc (by have:=hR.hmax;omega) (fun j hj=>hR.hl _ (by omega)) (fun j k s hj hs=>?_) (fun j k s hj hs=>(hR.he (lo+j) k s (by omega) hs).mono hle.mem)
    have:=hR.hc (lo+j) k s (by omega) hs
    grind
 have aslc:∀n0 i N lo n d v,mH st js n0 (.asl i N lo n)=some d→aL E v (.asl i N lo n)→aS (E.jG st w js).mem v d:=by
  intro n0 i N lo n d v hp hv
  have go:∀(T:TypeId) (f:Nat→PV),iK i js=true→st.obj i=some (.arr T N f)→aS (E.jG st w js).mem v (.seq n (fun k=>[f (lo+k)])):=by
   intro T f hi hob
   cases hv with
   | asl _ _ _ _ b c a hh hle2 hc ha=>
    obtain ⟨b',vs,hh2,hw,hs,hvc⟩:=(h.ob _ _ hob).iD
    rw[hh] at hh2;cases hh2
    rcases atL n with rfl | hn
    ·exact .emp _ _ _
    ·obtain rfl:=ha (by omega)
     have hmm:=iV i _ b vs T _ hi hob (by grind [Env.blk,aM]) hw
     refine .seq b lo n c 1 _ vs (fun j _=>vs.getD (lo+j) undef) hmm hc (by grind [maxLen]) (fun j hj=>rfl) (fun j k s hj hs'=>?_) (fun j k s hj hs'=>?_)
     ·have hk0:k=0:=by grind
      subst hk0
      obtain ⟨u,u1,u2,u3⟩:=hvc (lo+j) (by omega)
      simp_all
     ·have hk0:k=0:=by grind
      subst hk0
      simp at hs';subst hs'
      obtain ⟨u,u1,u2,u3⟩:=hvc (lo+j) (by omega)
      rw[ac9,u1]
      exact u3.mono hle.mem
  cases n0<;>simp only[mH] at hp
  all_goals grind [Nat.eq_of_beq_eq_true]
 have rows:∀n0 i d v,mH st js n0 (.row i)=some d→aL E v (.row i)→aS (E.jG st w js).mem v d:=by
  grind [mH]
 have subs:∀n0 i sz lo n d v,mH st js n0 (.sub i sz lo n)=some d→aL E v (.sub i sz lo n)→aS (E.jG st w js).mem v d:=by
  grind [mH,Nat.eq_of_beq_eq_true]
 intro n
 induction n with
 | zero=>
  intro s d v hp hv
  cases s with
  | p b d0=>grind [mH]
  | row i=>grind
  | sub i sz lo n=>grind
  | asl i N lo n=>grind
  | _=>simp[mH] at hp
 | succ n ih=>
  intro s d v hp hv
  -- lists
  have get:∀(l:List SV) (vs:Array Value) (ds:List PV),y7 (l.map (mH st js n))=some ds→vs.size=l.length→(∀(k:Nat) (u:Value) (s:SV),vs[k]?=some u→l[k]?=some s→aL E u s) →
    ds.length=l.length∧∀(k:Nat) (u:Value) (s:PV),vs[k]?=some u→ds[k]?=some s→aS (E.jG st w js).mem u s:=by
   intro l vs ds ha hl he
   obtain ⟨g1,g2⟩:=ajJ _ _ ha
   refine ⟨by grind,fun k u s hu hs=>?_⟩
   grind
  cases s with
  | p b d0=>grind [mH]
  | row i=>grind
  | sub i sz lo m=>grind
  | asl i N lo m=>grind
  | own i off=>
   simp only[mH] at hp
   split at hp
   ·rename_i T cs hi hob
    split at hp
    ·rename_i ds hall
     cases hp
     obtain ⟨bl,hh,rfl⟩:=ji hv
     obtain ⟨bl',vs,hh',hw,hA⟩:=(h.ob _ _ hob).l6
     rw[hh] at hh';cases hh'
     obtain ⟨g1,g2⟩:=get cs vs ds hall hA.size hA.rep
     have hmm:=iV i _ bl vs T _ hi hob (by grind [Env.blk,aM]) hw
     have e0:(Value.pointer (some ⟨bl,off,none⟩))=.pointer (some ⟨bl,0+off,none⟩):=by grind
     rw[e0]
     have at_:∀(k:Nat) (s:PV),ds[k]?=some s→vs[k]?=some (vs.getD k undef):=fun k s hs=>by
      have hk:k<vs.size:=by rw[hA.size,←g1];grind
      simp_all
     refine .pt bl 0 off ds vs (fun k=>vs.getD k undef) hmm (fun k s hs=>?_) (fun k s hs=>g2 k _ s (at_ k s hs) hs)
     rw[ajv]
     exact ⟨at_ k s hs,hA.one k _ (at_ k s hs)⟩
    ·cases hp
   ·rename_i T m f hi hob
    cases hp
    obtain ⟨bl,hh,rfl⟩:=ji hv
    obtain ⟨bl',vs,hh',hw,hs0,hvc⟩:=(h.ob _ _ hob).iD
    rw[hh] at hh';cases hh'
    have hmm:=iV i _ bl vs T _ hi hob (by grind [Env.blk,aM]) hw
    have e0:(Value.pointer (some ⟨bl,off,none⟩))=.pointer (some ⟨bl,0+off,none⟩):=by grind
    rw[e0]
    have lt:∀(k:Nat) (s:PV),(iJ m f)[k]?=some s→k<m∧s=f k:=fun k s hs=>by
     rw[nY] at hs
     grind
    refine .pt bl 0 off _ vs (fun k=>vs.getD k undef) hmm (fun k s hs=>?_) (fun k s hs=>?_)
    ·simp_all
    ·obtain ⟨hk,rfl⟩:=lt k s hs
     obtain ⟨u,u1,u2,u3⟩:=hvc k hk
     rw[ac9,u1];exact u3.mono hle.mem
   ·cases hp
  | agg l=>
   simp only[mH] at hp
   split at hp
   ·rename_i ds hall
    cases hp
    cases hv with
    | agg vs _ hl h1 he=>
     obtain ⟨g1,g2⟩:=get l vs ds hall hl he
     exact .agg vs ds (by omega) h1 g2
   ·cases hp
  | tup l=>
   simp only[mH] at hp
   split at hp
   ·rename_i ds hall
    cases hp
    cases hv with
    | tup vs _ hl he=>
     obtain ⟨g1,g2⟩:=get l vs ds hall hl he
     exact .tup vs ds (by omega) g2
   ·cases hp
  | fn f l=>
   simp only[mH] at hp
   split at hp
   ·rename_i ds hall
    cases hp
    cases hv with
    | fn _ vs _ hl he=>
     obtain ⟨g1,g2⟩:=get l vs ds hall hl he
     exact .fn f vs ds (by omega) g2
   ·cases hp
  | _=>simp[mH] at hp
theorem uw {C:Ctx} {E:Env} {st:St} {a:Act} {w:World} (h:av C E st a w) {X:aY} (hnt:C.nt=X.nt) (hcm:C.m=X.m) {d:Option Nat} (hd:bY X.nt d=true) {s:SV} {v:Value} (hv:aL E v s)
  {K:St→Prop} {js:List Nat} (hk:ae5 X s d st K js) {next:Act→World→Prop} (hn:∀st' E' a' w',K st'→av C E' st' a' w'→next a' w'):next (a.put d v) w:=by
 unfold ae5 at hk
 split at hk
 ·rename_i d' hge hp
  have hh:=h.heap.ah4 (js:=js) (fun j hj=>by
   obtain ⟨k,hk⟩:=auF hj
   rw[hcm];exact qV js hge k j hk)
  exact aD (h.fE (st':={ st with ob:=jM js st.ob }) (tV E st w js) rfl hh ⟨rfl,rfl⟩ (jm.refl w)) hnt hd hk (.p false _ _ (aeQ h.heap 5 s d' v hp hv)) hn
 grind
theorem xK {C:Ctx} {E:Env} {st:St} {a:Act} {w:World} (h:av C E st a w) {X:aY} (hnt:C.nt=X.nt) (hcm:C.m=X.m) {d:Option Nat} (hd:bY X.nt d=true) {s:SV} {v:Value} (hv:aL E v s)
  {K:St→Prop} (hk:ajO X s d st K) {next:Act→World→Prop} (hn:∀st' E' a' w',K st'→av C E' st' a' w'→next a' w'):next (a.put d v) w:=by
 unfold ajO at hk
 split at hk
 ·rename_i i
  split at hk
  ·rename_i _ _ n f hb hob
   obtain ⟨E',hle,hs,hh,hv'⟩:=h.heap.freeze hob (by simp_all)
   exact aD (h.fE (st':=st.eX i none) hle rfl hh hs (jm.refl w)) hnt hd hk (.p false _ _ (hv' _ hv)) hn
  grind
 ·rename_i i sz lo n
  split at hk
  ·rename_i _ sz' m f hb hob
   cases hbq:sz.beq sz' with
   | false=>grind
   | true=>
    simp only[hbq] at hk
    obtain rfl:=acD hbq
    obtain ⟨E',hle,hs,hh,hv'⟩:=h.heap.freeze hob (by simp_all)
    refine aD (h.fE (st':=st.eX i none) hle rfl hh hs (jm.refl w)) hnt hd hk (.p false _ _ ?_) hn
    cases hv with
    | sub _ _ _ _ b n' cap c ad hh2 hle2 hc hr ha=>
     obtain ⟨rfl,cur,u,hR⟩:=(h.heap.ob i _ hob).pG hh2
     rcases atL n with rfl | hn0
     ·exact .emp _ _ _
     ·obtain rfl:=ha (by omega)
      have hp:=hv' _ (.row i _ hh2 rfl)
      cases hp with
      | emp=>omega
      | seq _ _ _ _ sz2 _ cs u2 hm hcap hmax hl2 hc2 he2=>
       have e:sz2=sz:=by rw[←hl2 0 (by omega),hR.hl 0 (by omega)]
       subst e
       refine .seq b (lo*sz2) n c sz2 _ cs (fun j k=>u2 (lo+j) k) hm hc (by omega) (fun j hj=>hl2 _ (by omega)) (fun j k s hj hs=>?_) (fun j k s hj hs=>he2 _ _ _ (by omega) hs)
       grind
  grind
 ·exact uw h hnt hcm hd hv hk hn
 ·exact uw h hnt hcm hd hv hk hn
 ·exact uw h hnt hcm hd hv hk hn
 ·exact uw h hnt hcm hd hv hk hn
 ·exact uw h hnt hcm hd hv hk hn
 ·exact aD h hnt hd hk hv hn
theorem ajH {C:Ctx} {E:Env} {st:St} {a:Act} {w:World} (h:av C E st a w) {X:aY} (hnt:C.nt=X.nt) (hro:C.ro=X.ro) {F:Fence} (hcm:CX C X F) {o:Oper} (hd:bY X.nt o.dst=true) {f:Operand} {args:Array Operand} {ts:Array TypeId} (ho:o.op=.call ⟨.value f,args,ts⟩)
  (hF:jq F) {K:St→Prop} {k:Nat} {capt:List SV} {cvs:Array Value} (hfe:a.eval f=.func (.func k) #[] cvs) (hcl:cvs.size=capt.length) (hce:∀(q:Nat) (u:Value) (s:SV),cvs[q]?=some u→capt[q]?=some s→aL E u s)
  (hk:aau X k (evs st args.toList++capt) st (adX X st.fr o.dst K)) {next:Act→World→Prop} {Q:Exit→Act→World→Prop}
  (hn:∀st' E' a' w',K st'→av C E' st' a' w'→next a' w'):o.wpIn F 9 X.P a w next Q:=by
 have hnd:∀c',o.op≠.defer c':=by simp[ho]
 obtain ⟨e1,e2⟩:=pI h args.toList
 have hsz:(args.map a.eval++cvs).size=(evs st args.toList++capt).length:=by simp[e1,hcl]
 have hvs:∀(q:Nat) (u:Value) (s:SV),(args.map a.eval++cvs)[q]?=some u→(evs st args.toList++capt)[q]?=some s→aL E u s:=by
  grind
 obtain ⟨⟨fn,hfn,hb,hnm⟩,hcalls⟩:=hk
 refine ⟨fun g _=>hF.fn g,?_⟩
 have hrun:(execOp a.eval o).run X.P w=.ok (.enter k (args.map a.eval++cvs)) w:=by
  grind [execOp,resolve,Deferred.ofValue,invoke,oN]
 rw[Oper.semAt_plain F _ _ hnd,hrun]
 rw[Oper.uponIn_enter]
 refine ⟨fun hdep=>(by omega),hF.calls ((hcalls C E _ w hcm.m hro hcm.rm hcm.lent hcm.gl hcm.nw h.heap ⟨hsz,hvs⟩).mono ?_)⟩
 rintro e w' ⟨v,E',s,st',rfl,hv,⟨hle,hws,hI⟩,hh,hnc,hK⟩
 cases st' with
 | mk fr' ob' no' k'=>
  have hM:=h.fE (st':=⟨st.fr,ob',no',k'⟩) hle rfl (hh.alB st.fr) ⟨hws,hI⟩ hnc
  unfold adX at hK
  cases hfz:frz X o.dst with
  | true=>simp only[hfz] at hK;exact xK hM hnt hcm.m hd hv hK hn
  | false=>simp only[hfz] at hK;exact aD hM hnt hd hK hv hn
theorem aks {C:Ctx} {E:Env} {st:St} {a:Act} {w:World} (h:av C E st a w) {X:aY} (hnt:C.nt=X.nt) (hro:C.ro=X.ro) {F:Fence} (hcm:CX C X F) {o:Oper} (hd:bY X.nt o.dst=true) {f:Operand} {args:Array Operand} {ts:Array TypeId} (ho:o.op=.call ⟨.value f,args,ts⟩)
  (hF:jq F) {K:St→Prop} {k:Nat} {capt:List SV} {cvs:Array Value} (hfe:a.eval f=.func (.func k) cvs #[]) (hcl:cvs.size=capt.length) (hce:∀(q:Nat) (u:Value) (s:SV),cvs[q]?=some u→capt[q]?=some s→aL E u s)
  (hk:aau X k (capt++evs st args.toList) st (adX X st.fr o.dst K)) {next:Act→World→Prop} {Q:Exit→Act→World→Prop}
  (hn:∀st' E' a' w',K st'→av C E' st' a' w'→next a' w'):o.wpIn F 9 X.P a w next Q:=by
 have hnd:∀c',o.op≠.defer c':=by simp[ho]
 obtain ⟨e1,e2⟩:=pI h args.toList
 have hsz:(cvs++args.map a.eval).size=(capt++evs st args.toList).length:=by grind
 have hvs:∀(q:Nat) (u:Value) (s:SV),(cvs++args.map a.eval)[q]?=some u→(capt++evs st args.toList)[q]?=some s→aL E u s:=by
  grind
 obtain ⟨⟨fn,hfn,hb,hnm⟩,hcalls⟩:=hk
 refine ⟨fun g _=>hF.fn g,?_⟩
 have hrun:(execOp a.eval o).run X.P w=.ok (.enter k (cvs++args.map a.eval)) w:=by
  grind [execOp,resolve,Deferred.ofValue,invoke,oN]
 rw[Oper.semAt_plain F _ _ hnd,hrun]
 rw[Oper.uponIn_enter]
 refine ⟨fun hdep=>(by omega),hF.calls ((hcalls C E _ w hcm.m hro hcm.rm hcm.lent hcm.gl hcm.nw h.heap ⟨hsz,hvs⟩).mono ?_)⟩
 rintro e w' ⟨v,E',s,st',rfl,hv,⟨hle,hws,hI⟩,hh,hnc,hK⟩
 cases st' with
 | mk fr' ob' no' k'=>
  have hM:=h.fE (st':=⟨st.fr,ob',no',k'⟩) hle rfl (hh.alB st.fr) ⟨hws,hI⟩ hnc
  unfold adX at hK
  cases hfz:frz X o.dst with
  | true=>simp only[hfz] at hK;exact xK hM hnt hcm.m hd hv hK hn
  | false=>simp only[hfz] at hK;exact aD hM hnt hd hK hv hn
theorem akM {C:Ctx} {E:Env} {st:St} {a:Act} {w:World} (h:av C E st a w) {X:aY} (hTb:X.Tb.Ok X.P) (hnt:C.nt=X.nt) (hro:C.ro=X.ro) {d:Option Nat} (hd:bY X.nt d=true) {t:Nat} {v:Value} {s:SV} {K:St→Prop}
  (hk:match look X.Tb t with
  | some ⟨.slice e,_,_,_⟩=>match look X.Tb e with
   | some ⟨_,sz+1,_,z⟩=>match s with
    | .sub i sz' lo n=>match (sz'.beq (sz+1)).and (X.ro.ble i),st.obj i with
     | true,some (.row T' sz'' m f)=>match sz''.beq (sz+1) with
      | true=>aP (st.eX i (some (.row T' (sz+1) m (wW f lo n (vals z))))) d .any K
      | false=>False
     | _,_=>False
    | _=>False
   | _=>False
  | _=>False) (hv:aL E v s) {next:Act→World→Prop} (hn:∀st' E' a' w',K st'→av C E' st' a' w'→next a' w') (ty:TypeId) :
  ∃w',(Builtin.clear_ #[t] ty #[v]).run X.P w=.ok (.tuple #[]) w'∧next (a.put d (.tuple #[])) w':=by
 split at hk
 ·rename_i e _ _ _ hi
  have hu:X.P.underlying t=some (.slice e):=(hTb _ _ hi).desc
  split at hk
  ·rename_i _ sz by_ z hie
   split at hk
   ·rename_i i sz' lo n
    split at hk
    ·rename_i T' sz'' m f hble hob
     cases hbq:sz''.beq (sz+1) with
     | false=>grind
     | true=>
      simp only[hbq] at hk
      simp only[abj] at hble
      obtain ⟨hb1,hb2⟩:=hble
      obtain rfl:=acD hb1
      obtain rfl:=acD hbq
      have hri:C.ro≤i:=by simp_all
      cases hv with
      | sub _ _ _ _ b n' cap c ad hh hle hc hr ha=>
       obtain ⟨rfl,vs,u,hR⟩:=(h.heap.ob i _ hob).pG hh
       rcases atL n with rfl | hn0
       ·refine ⟨w,?_,aD (h.fE (st':=st.eX i (some (.row T' (sz+1) n' (wW f lo 0 (vals z))))) (Env.Le.refl E) rfl ?_ ⟨rfl,rfl⟩ (jm.refl w)) hnt hd hk (.any _) hn⟩
        ·simp[Builtin.clear_,run_underlying hu]
        ·have e:∀j,wW f lo 0 (vals z) j=f j:=fun j=>by simp_all [wW,if_neg]
         have e2:wW f lo 0 (vals z)=f:=funext e
         rw[e2]
         exact h.heap.write hob (b:=b) (by grind [Env.blk,aM]) hri (w':=w) (h.heap.ob i _ hob) rfl rfl rfl rfl (fun _ _=>rfl)
       ·obtain rfl:=ha (by omega)
        obtain ⟨I,hI,hIs,hIb,zv,hz,hzz,hone,hzc⟩:=(hTb _ _ hie).info
        simp only at hzz hzc
        have hzrun:∀w,(zeroValue e).run X.P w=.ok zv w:=fun w=>by simp_all [zeroValue,typeInfo]
        obtain ⟨L,hL⟩:∃L,L=(Builtin.zeroCells zv.cells n).toList:=⟨_,rfl⟩
        have hLl:L.length=n*(sz+1):=by grind [Builtin.zeroCells]
        have hLg:∀j k,j<n→k<sz+1→L[j*(sz+1)+k]?=zv.cells[k]?:=by
         grind [rE,Nat.add_mul_mod_self_right,Nat.mod_eq_of_lt,Builtin.zeroCells]
        have hLone:∀v∈L,v.oneCell'=true:=by
         intro v hv
         obtain ⟨q,hq⟩:=auF hv
         have hql:q<n*(sz+1):=by grind
         obtain ⟨d1,d2,d3⟩:=abH hql
         grind
        have hfit:lo*(sz+1)+n*(sz+1)≤vs.size:=by
         rw[hR.size,←axv];exact ajG _ (by have:=hR.hn;omega)
        have hst:=run_storeCells_at X.P b (lo*(sz+1)) T' L 0 vs w hR.heap (by omega) hLone
        simp only[axc] at hst
        generalize hcs':(vs.toList.take (lo*(sz+1))++L++vs.toList.drop (lo*(sz+1)+L.length)).toArray=vs' at hst
        have hvs':vs'.size=vs.size:=by
         grind
        have hat:∀q,vs'[q]?=if lo*(sz+1)≤q∧q<lo*(sz+1)+n*(sz+1) then L[q-lo*(sz+1)]? else vs[q]?:=by
         intro q
         have hl1:(vs.toList.take (lo*(sz+1))).length=lo*(sz+1):=by grind
         rw[←hcs']
         simp only[axg]
         by_cases hin:lo*(sz+1)≤q∧q<lo*(sz+1)+n*(sz+1)
         ·grind
         ·rw[if_neg hin]
          by_cases hlt:q<lo*(sz+1)
          ·grind
          ·rw[aex (by grind),aas,hl1,hLl,axf,show lo*(sz+1)+n*(sz+1)+(q-(lo*(sz+1)+n*(sz+1)))=q by omega,aer]
        have flen:∀j',j'<n'→(wW f lo n (vals z) j').length=sz+1:=by
         intro j' hj'
         unfold wW
         split
         ·grind [wB]
         ·exact hR.hl j' hj'
        have cellOf:∀j' k s,j'<n'→(wW f lo n (vals z) j')[k]?=some s→∃v,vs'[j'*(sz+1)+k]?=some v∧v.oneCell'=true∧aS E.mem v s:=by
         intro j' k s hj' hs
         have hks:k<sz+1:=by grind
         unfold wW at hs
         rw[hat]
         by_cases hin:lo≤j'∧j'<lo+n
         ·rw[if_pos hin,sZ,←hzz,aer] at hs
          obtain ⟨q,rfl⟩:∃q,j'=lo+q:=⟨j' - lo,by omega⟩
          have hq:=rE (show q<n by omega) hks
          have e3:(lo+q)*(sz+1)+k=lo*(sz+1)+(q*(sz+1)+k):=by grind
          rw[e3,if_pos (by omega),awq,hLg q k (by omega) hks]
          cases hq2:zv.cells[k]? with
          | none=>grind
          | some x=>
           rw[hq2] at hs;simp only[apr,Option.some.injEq] at hs;subst hs
           exact ⟨x,rfl,hone _ _ hq2,.val x⟩
         ·rw[if_neg hin] at hs
          have hout:¬(lo*(sz+1)≤j'*(sz+1)+k∧j'*(sz+1)+k<lo*(sz+1)+n*(sz+1)):=by
           rintro ⟨h1,h2⟩
           apply hin
           rw[←axv] at h2
           constructor
           ·exact Classical.byContradiction fun hh=>by
             grind [rE]
           ·exact Classical.byContradiction fun hh=>by
             have:=ajG (sz+1) (Nat.le_of_not_lt hh);omega
          rw[if_neg hout]
          obtain ⟨h1,h2⟩:=hR.hc j' k s hj' hs
          exact ⟨_,h1,h2,hR.he j' k s hj' hs⟩
        have hh2:=h.heap.write (o':=.row T' (sz+1) n' (wW f lo n (vals z))) hob (b:=b) (by grind [Env.blk,aM]) hri (w':=w.setRow b vs')
         (.row T' (sz+1) n' _ _ (vs'.toList.take (n'*(sz+1))) (fun j' k=>vs'.getD (j'*(sz+1)+k) undef) hh
          ⟨by rw[arI,Array.length_toList,hvs',hR.size];have:=ajG (sz+1) hR.hn;omega,.inr ⟨b,cap,vs',rfl,akx _,setRow_heap w b vs vs' T' (0,0) hR.heap,hR.hn,hR.hcap,by rw[hvs'];exact hR.size,rfl⟩⟩ hR.hmax
          flen
          (fun j' k s hj' hs=>by
           obtain ⟨v,h1,h2,h3⟩:=cellOf j' k s hj' hs
           have hks:k<sz+1:=by grind
           simp_all [rE])
          (fun j' k s hj' hs=>by
           obtain ⟨v,h1,h2,h3⟩:=cellOf j' k s hj' hs
           simp_all)) rfl rfl rfl (by simp) (fun k hk=>setRow_other w b k vs' hk)
        refine ⟨w.setRow b vs',?_,aD (h.fE (st':=st.eX i (some (.row T' (sz+1) n' (wW f lo n (vals z))))) (Env.Le.refl E) rfl hh2 ⟨rfl,rfl⟩ (ru hR.heap fun k hk=>setRow_other w b k vs' hk)) hnt hd hk (.any _) hn⟩
        obtain ⟨n1,rfl⟩:∃n1,n=n1+1:=⟨n-1,by omega⟩
        simp_all [Builtin.clear_,run_underlying]
    grind
   grind
  grind
 grind
theorem amP {C:Ctx} {E:Env} {st:St} {a:Act} {w:World} (h:av C E st a w) {X:aY} (hTb:X.Tb.Ok X.P) (hnt:C.nt=X.nt) (hro:C.ro=X.ro) {d:Option Nat} (hd:bY X.nt d=true) {t t':Nat} {x y:SV} {vx vy:Value} {K:St→Prop}
  (hk:am3 X t x y d st K) (hx:aL E vx x) (hy:aL E vy y) {next:Act→World→Prop} (hn:∀st' E' a' w',K st'→av C E' st' a' w'→next a' w') (ty:TypeId) :
  ∃v w',(Builtin.copy_ #[t,t'] ty #[vx,vy]).run X.P w=.ok v w'∧next (a.put d v) w':=by
 unfold am3 at hk
 split at hk
 case h_2=>exact hk.elim
 rename_i e _ _ _ hi
 have hu:X.P.underlying t=some (.slice e):=(hTb _ _ hi).desc
 split at hk
 case h_2=>exact hk.elim
 rename_i _ _ _ hie
 split at hk
 case h_2=>exact hk.elim
 rename_i i N lo n
 split at hk
 case h_2=>exact hk.elim
 rename_i T N' f hble hob
 split at hk
 case h_2=>exact hk.elim
 rename_i b m g
 obtain ⟨⟨rfl,hg1⟩,hk⟩:=hk
 have hri:C.ro≤i:=by simp_all
 obtain ⟨b',vs,hh,hw,hs,hvc⟩:=(h.heap.ob i _ hob).iD
 obtain ⟨I,hI,hIs,_⟩:=(hTb _ _ hie).info
 have hIs:I.size=1:=hIs
 cases hx with
 | asl _ _ _ _ bb c ad hh2 hle hc ha=>
  rw[hh] at hh2;cases hh2
  have hpy:aS (E.m b) vy (.seq m g):=by cases hy with | p _ _ _ hp=>exact hp
  have zero:Nat.min m n=0→(Builtin.copy_ #[t,t'] ty #[.slice (some ad) n c,vy]).run X.P w=.ok (goInt 0) w→∃v w',(Builtin.copy_ #[t,t'] ty #[.slice (some ad) n c,vy]).run X.P w=.ok v w'∧next (a.put d v) w':=by
   intro h0 hr
   refine ⟨_,w,hr,?_⟩
   rw[h0] at hk
   have e:adZ f lo 0 g=f:=by funext k;simp_all [adZ,if_neg]
   rw[e] at hk
   have hh3:=h.heap.write (o':=.arr T N' f) hob (b:=b') (by grind [Env.blk,aM]) hri (w':=w) (h.heap.ob i _ hob) rfl rfl rfl rfl (fun _ _=>rfl)
   exact aD (h.fE (st':=st.eX i (some (.arr T N' f))) (Env.Le.refl E) rfl hh3 ⟨rfl,rfl⟩ (jm.refl w)) hnt hd hk (.val _ _) hn
  rcases atL (Nat.min m n) with h0 | h0
  ·refine zero h0 ?_
   have h0':min m n=0:=h0
   cases hpy with
   | nil=>simp_all [Builtin.copy_,run_underlying,Builtin.lenOf,Builtin.firstCells,sizeOf,typeInfo,storeCells]
   | emp a0=>
    have hl0:=run_loadCells_list (P:=X.P) w a0 [] (by simp)
    simp_all [Builtin.copy_,run_underlying,Builtin.lenOf,Builtin.firstCells,sizeOf,typeInfo,storeCells]
   | seq b2 o2=>
    have hl0:=run_loadCells_list (P:=X.P) w ⟨b2,o2,none⟩ [] (by simp)
    simp only[axJ] at hl0
    simp[Builtin.copy_,run_underlying hu,Builtin.lenOf,Builtin.firstCells,sizeOf,typeInfo,hI,hIs,h0',storeCells,hl0]
  ·have hmp:0<m∧0<n:=by grind
   obtain rfl:=ha (by omega)
   cases hpy with
   | nil=>omega
   | emp=>omega
   | seq b2 o2 _ cap sz _ cs u hm hcap hmax hl hc2 he=>
    have hsz:sz=1:=by grind
    subst hsz
    obtain ⟨T2,fr2,hw2⟩:=h.heap.mem b2 cs (E.fC b _ _ hm)
    obtain ⟨q,hq⟩:∃q,q=Nat.min m n:=⟨_,rfl⟩
    have hqm:q≤m∧q≤n:=by grind
    have at_:∀j,j<q→∃s,(g j)[0]?=some s∧nH (g j) 0=s:=fun j hj=>by
     have:=hg1 j (by omega)
     cases hgj:g j with
     | nil=>grind
     | cons s l=>exact ⟨s,rfl,rfl⟩
    obtain ⟨L,hL⟩:∃L:List Value,L=(List.range q).map (fun j=>u j 0):=⟨_,rfl⟩
    have hLl:L.length=q:=by rw[hL];simp
    have hLg:∀j,j<q→L[j]?=some (u j 0):=fun j hj=>by grind
    have hcell:∀j,j<q→cs[o2+j]?=some (u j 0)∧(u j 0).oneCell'=true∧aS (E.m b) (u j 0) (nH (g j) 0):=fun j hj=>by
     grind
    have hrun:=run_copy_row (P:=X.P) w t t' ty e b' lo n c ⟨b2,o2,none⟩ m cap vs T L hu (by grind) hw (by rw[hLl,hq]) (fun j v hj=>by
      grind [Addr.add_lit,World.cell?]) (by omega) (fun v hv=>by
      grind)
    generalize hvs':(vs.toList.take lo++L++vs.toList.drop (lo+L.length)).toArray=vs' at hrun
    refine ⟨_,_,hrun,?_⟩
    have hsz':vs'.size=vs.size:=by
     grind
    have hat:∀k,vs'[k]?=if lo≤k∧k<lo+q then L[k-lo]? else vs[k]?:=by
     intro k
     have hl1:(vs.toList.take lo).length=lo:=by grind
     rw[←hvs']
     simp only[axg]
     by_cases hin:lo≤k∧k<lo+q
     ·grind
     ·rw[if_neg hin]
      by_cases hlt:k<lo
      ·grind
      ·rw[aex (by grind),aas,hl1,hLl,axf,show lo+q+(k-(lo+q))=k by omega,aer]
    rw[←hq] at hk
    refine aeY h hnt hd hob hri hh hw ⟨by omega,hs.2⟩ (fun k hk2=>?_) (.val _ _) (by rw[hLl];exact hk) hn
    rw[hat k]
    unfold adZ
    by_cases hin:lo≤k∧k<lo+q
    ·rw[if_pos hin,if_pos hin,hLg _ (by omega)]
     obtain ⟨c1,c2,c3⟩:=hcell (k-lo) (by omega)
     exact ⟨_,rfl,c2,c3.mono (E.fC b)⟩
    grind
theorem arp {μ:Nat→Option (Array Value)} {u v:Value} (h:aS μ u (adD v)):u=v:=by
 cases v with
 | agg cs=>
  obtain ⟨vs,rfl,hl,h1,he⟩:=h.mX
  have hsz:vs.size=cs.size:=by simpa using hl
  congr 1
  apply axe
  intro k
  rcases axd k vs.size with hk | hk
  ·have h2:=he k vs[k] (.val cs[k]) (acC hk) (by grind)
   rw[acC hk,h2.aO,acC (by omega)]
  grind
 | _=>exact h.aO
theorem aaz:∀{l:List PV},iy l=true→∀(k:Nat) s,l[k]?=some s→∃v,s=.val v
 | [],_,k,s,h=>by simp at h
 | .val v :: l,ha,k,s,h=>by
  cases k with
  | zero=>simp at h;exact ⟨v,h.symm⟩
  | succ k=>exact aaz (l:=l) ha k s (by simpa using h)
 | .seq _ _ :: l,ha,k,s,h=>by grind [iy]
 | .pt _ _ :: l,ha,k,s,h=>by grind [iy]
 | .agg _ :: l,ha,k,s,h=>by grind [iy]
 | .tup _ :: l,ha,k,s,h=>by grind [iy]
 | .fn _ _ :: l,ha,k,s,h=>by grind [iy]
theorem ahR {μ μ':Nat→Option (Array Value)} {n:Nat} {f:Nat→PV} {v:Value} (h:∀k,k<n→iy [f k]=true) (hv:aS μ v (.arr n f)):aS μ' v (.arr n f):=by
 obtain ⟨vs,rfl,hs,hc⟩:=hv.iD
 refine aS.wz hs fun k hk=>?_
 obtain ⟨u,h1,h2,h3⟩:=hc k hk
 obtain ⟨x,hx⟩:=aaz (h k hk) 0 (f k) rfl
 refine ⟨u,h1,h2,?_⟩
 rw[hx] at h3 ⊢
 rw[h3.aO];exact .val _
theorem anh {E:Env} {b:Bool} {d:PV} {v:Value} (h:aa6 b d) (hv:aS (E.m b) v d):aS (E.m true) v d:=by
 cases b with
 | true=>exact hv
 | false=>
  cases d with
  | val u=>obtain rfl:=hv.aO;exact .val _
  | agg l=>
   simp only[aa6] at h
   split at h
   ·rename_i ha
    obtain ⟨vs,rfl,hl,h1,he⟩:=hv.mX
    refine .agg vs l hl h1 fun k u s hu hs=>?_
    obtain ⟨w,rfl⟩:=aaz ha k s hs
    obtain rfl:=(he k u _ hu hs).aO
    exact .val _
   ·exact h.elim
  | arr n f=>exact ahR h hv
  | _=>exact h.elim
theorem acJ {E:Env}:∀(ss:List SV) (x:List PV),qU ss x→ss.length=x.length∧∀(k:Nat) s d u,ss[k]?=some s→x[k]?=some d→aL E u s→aS (E.m true) u d
 | [],[],_=>by simp
 | [],_ :: _,h=>by grind [qU]
 | s :: ss,[],h=>by cases s<;>simp[qU] at h
 | s :: ss,v :: vs,h=>by
  have one:∀{b:Bool} {d x:PV} {u:Value},abV b d x→aL E u (.p b d)→aS (E.m true) u x:=fun h1 h2=>by
   cases h2 with | p _ _ _ hp=>exact rH h1.2 (anh h1.1 hp)
  have h':(∃b d,s=.p b d∧abV b d v)∧(qU ss vs):=by
   cases s with
   | p b d=>
    cases ss with
    | nil=>cases vs with
     | nil=>exact ⟨⟨b,d,rfl,h⟩,trivial⟩
     | cons _ _=>exact ⟨⟨b,d,rfl,h.1⟩,h.2⟩
    | cons _ _=>exact ⟨⟨b,d,rfl,h.1⟩,h.2⟩
   | _=>simp[qU] at h
  obtain ⟨⟨b,d,rfl,hd⟩,hr⟩:=h'
  obtain ⟨h1,h2⟩:=acJ (E:=E) ss vs hr
  grind
theorem handed {C:Ctx} {E:Env} {st:St} {w:World} (h:bg C E st w) (htm:∀b,C.tm b→∃cs,C.mem0 b=some cs):∀b cs,E.m true b=some cs→C.agI b=some cs:=by
 intro b cs hb
 simp only[Env.m] at hb
 split at hb
 ·rename_i ht
  rw[h.base] at ht
  obtain ⟨c,hc⟩:=htm b ht
  have:=h.mem0 b c hc
  simp_all [Ctx.agI]
 ·cases hb
theorem av.yielded {C:Ctx} {E:Env} {st:St} {a:Act} {w:World} (h:av C E st a w) (hwk:C.wk.heap=#[]) {w':World} {k':Option Nat} {I1:Nat→Prop}
  (hI1:∀b,(E.I b∨(E.ws.heap.size≤b∧b<w.heap.size))→I1 b) (hI2:∀b,I1 b→b<w'.heap.size)
  (hk:iY (fun b=>E.I b∨(E.ws.heap.size≤b∧b<w.heap.size)) C.mem0 w w') (hkl:∀i b,i<C.m→(C.hd0 i).bind aM=some b→w'.heap[b]?=w.heap[b]?) (hj:C.J k' I1 w') :
  av C { E with ws:=w',I:=I1,k:=k' } { st with k:=k' } a w':=by
 have hmine:∀b,E.mine b→b<w.heap.size→(E.I b∨(E.ws.heap.size≤b∧b<w.heap.size)):=fun b hb hlt=>hb.elim (fun x=>.inr ⟨x,hlt⟩) .inl
 have hle:E.Le { E with ws:=w',I:=I1,k:=k' }:=⟨fun _ _ h=>h,fun _ _ h=>h,rfl⟩
 have hlt:∀i b,i<C.m→E.blk i=some b→w'.heap[b]?=w.heap[b]?:=fun i b hi hb=>hkl i b hi (by
  have:=h.heap.mkh
  rw[←h.heap.hd0 i (by omega)];exact hb)
 refine ⟨h.size,fun t=>(h.slot t).mono hle,⟨fun i o ho=>?_,h.heap.sep,fun i o b ho hb=>?_,fun b cs hb=>?_,h.heap.mem0,fun b cs hb=>?_,h.heap.new,h.heap.base,⟨?_,?_,?_,?_,abm _,?_,hI2,fun _ _ _=>rfl,hj⟩,h.heap.hd0,h.heap.mno,h.heap.mkh,rfl⟩,?_⟩
 ·refine ((h.heap.ob i o ho).mono hle).world fun b hb=>?_
  have hb':E.blk i=some b:=hb
  rcases (h.heap.own i o b ho hb').2.2 with this | this
  ·exact hk.own b (hmine b this ((h.heap.ob i o ho).iZ hb'))
  grind
 ·obtain ⟨g1,g2,g3⟩:=h.heap.own i o b ho hb
  exact ⟨g1,g2,g3.imp (fun x=>.inr (hI1 b (hmine b x ((h.heap.ob i o ho).iZ hb)))) id⟩
 ·rcases h.heap.memnew b cs hb with h1 | h1
  ·exact hk.mem b cs h1 (h.heap.mem b cs hb)
  ·obtain ⟨T,fr,hw⟩:=h.heap.mem b cs hb
   exact ⟨T,fr,by rw[hk.own b (hmine b h1.2 (h.heap.sM hb))];exact hw⟩
 ·rcases h.heap.memnew b cs hb with h1 | h1
  ·exact .inl h1
  ·exact .inr ⟨h1.1,.inr (hI1 b (hmine b h1.2 (h.heap.sM hb)))⟩
 ·exact hk.os.trans h.heap.fr.os
 ·exact hk.tape.trans h.heap.fr.tape
 ·exact hk.output.trans h.heap.fr.output
 ·exact aiT (aiT h.heap.fr.bsz h.heap.fr.wsz) hk.size
 ·exact ⟨hk.os.trans h.heap.fr.os,hk.tape.trans h.heap.fr.tape,hk.output.trans h.heap.fr.output⟩
 ·obtain ⟨_,l,l0,l1,l2,l3⟩:=h.marks
  refine ⟨fun D o hD _=>by grind,l,l0,l1,l2,fun D hD=>?_⟩
  obtain ⟨⟨d1,d2⟩,d3⟩:=l3 D hD
  have:=hmine D d2 (acG.1 d3).1
  exact ⟨⟨d1,.inr (hI1 D this)⟩,by rw[hk.own D this];exact d3⟩
theorem av.sync {C:Ctx} {E:Env} {st:St} {a:Act} {w:World} (h:av C E st a w) (hs:agq C.J):C.J E.k (fun b=>E.I b∨(E.ws.heap.size≤b∧b<w.heap.size)) w:=
 hs _ _ _ _ _ h.heap.fr.sync (fun b hb=>.inl hb) (fun b hb=>hb.imp id (fun x=>x.1)) (fun b hb=>hb.elim (fun x=>alk (h.heap.fr.isz b x) h.heap.fr.wsz) (fun x=>x.2)) (h.heap.fr.os.trans h.heap.fr.wos.1.symm) (h.heap.fr.tape.trans h.heap.fr.wos.2.1.symm) (h.heap.fr.output.trans h.heap.fr.wos.2.2.symm) h.heap.fr.wsz h.heap.fr.block
theorem ak3 {C:Ctx} {E:Env} {st:St} {a:Act} {w:World} (h:av C E st a w) {X:aY} (hnt:C.nt=X.nt) {F:Fence} (hcm:CX C X F) {o:Oper} (hd:bY X.nt o.dst=true) {f:Operand} {args:Array Operand} {ts:Array TypeId} (ho:o.op=.call ⟨.value f,args,ts⟩)
  {K:St→Prop} {l:Nat} (hfe:a.eval f=.func (.yield l) #[] #[]) (hk:aiL X l (evs st args.toList) o.dst st K) {next:Act→World→Prop} {Q:Exit→Act→World→Prop}
  (hn:∀st' E' a' w',K st'→av C E' st' a' w'→next a' w'):o.wpIn F 9 X.P a w next Q:=by
 have hnd:∀c',o.op≠.defer c':=by simp[ho]
 unfold aiL at hk
 split at hk
 ·rename_i l' xs fr ob no k hyl
  obtain ⟨rfl,vs,hvs,hargs,hk1,hk2⟩:=hk
  obtain ⟨Y,hF⟩:=hcm.y _ _ hyl
  subst hF
  obtain ⟨e1,e2⟩:=pI h args.toList
  obtain ⟨g1,g2⟩:=acJ (E:=E) _ _ hargs
  have hav:ag1 C.agI (args.map a.eval) vs:=by
   refine ⟨by grind,fun q u s hu hs=>?_⟩
   have hq:q<args.size:=by grind
   have hq2:q<(evs ⟨fr,ob,no,some k⟩ args.toList).length:=by grind
   exact (g2 q _ s u (aav hq2) hs (e2 q _ _ (by simpa using hu) (aav hq2))).mono (handed h.heap Y.tm)
  have hkE:E.k=some k:=h.heap.kk
  have hsync:=h.heap.fr.sync
  rw[hkE] at hsync
  have hJ:C.J (some k) (fun b=>E.I b∨(E.ws.heap.size≤b∧b<w.heap.size)) w:=
   Y.ae9 _ _ _ _ _ hsync (fun b hb=>.inl hb) (fun b hb=>hb.imp id (fun x=>x.1)) (fun b hb=>hb.elim (fun x=>alk (h.heap.fr.isz b x) h.heap.fr.wsz) (fun x=>x.2)) (h.heap.fr.os.trans h.heap.fr.wos.1.symm) (h.heap.fr.tape.trans h.heap.fr.wos.2.1.symm) (h.heap.fr.output.trans h.heap.fr.wos.2.2.symm) h.heap.fr.wsz h.heap.fr.block
  obtain ⟨fn,tmps,assign,body,hy,hround⟩:=Y.at_ k vs (args.map a.eval) _ w hvs hav hJ
  refine ⟨fun g _=>trivial,?_⟩
  have hrun:(execOp a.eval o).run X.P w=.ok (.round l fn tmps assign body) w:=by
   grind [execOp,resolve,Deferred.ofValue,invoke]
  rw[Oper.semAt_plain Fence.wide _ _ hnd,hrun]
  rw[Oper.uponIn_round]
  refine ⟨fun hdep=>(by omega),?_⟩
  have hround':RoundIn Fence.wide 8 X.P l fn tmps assign body w _:=⟨trivial,fun c cs _=>hround.2 c cs (room_wide _)⟩
  refine hround'.mono ?_
  have hlt:∀w':World,w.heap.size≤w'.heap.size→∀b,(E.I b∨(E.ws.heap.size≤b∧b<w.heap.size))→b<w'.heap.size:=fun w' hs b hb=>hb.elim (fun x=>alk (h.heap.fr.isz b x) (aiT h.heap.fr.wsz hs)) (fun x=>alk x.2 hs)
  rintro e w' ⟨⟨hk,hkl⟩,⟨rfl,hj⟩ | ⟨rfl,hj⟩⟩
  ·exact aD (h.yielded Y.wk (fun _ x=>x) (hlt w' hk.size) hk hkl hj) hnt hd hk1 (.val _ _) hn
  ·exact aD (h.yielded Y.wk (fun _ x=>x) (hlt w' hk.size) hk hkl hj) hnt hd hk2 (.val _ _) hn
 grind
theorem aic {C:Ctx} {E:Env} {st:St} {a:Act} {w:World} (h:av C E st a w) {X:aY} (hnt:C.nt=X.nt) (hro:C.ro=X.ro) {F:Fence} (hcm:CX C X F) {o:Oper} (hd:bY X.nt o.dst=true) {f:Operand} {args:Array Operand} {ts:Array TypeId} (ho:o.op=.call ⟨.value f,args,ts⟩)
  (hF:jq F) {K:St→Prop} {g:Nat} {capt:List SV} {cvs:Array Value} (hfe:a.eval f=.func (.func g) #[] cvs) (hcl:cvs.size=capt.length) (hce:∀(q:Nat) (u:Value) (s:SV),cvs[q]?=some u→capt[q]?=some s→aL E u s)
  (hk:ajC X g (evs st args.toList++capt) o.dst st K) {next:Act→World→Prop} {Q:Exit→Act→World→Prop}
  (hn:∀st' E' a' w',K st'→av C E' st' a' w'→next a' w'):o.wpIn F 9 X.P a w next Q:=by
 have hnd:∀c',o.op≠.defer c':=by simp[ho]
 obtain ⟨e1,e2⟩:=pI h args.toList
 have hsz:(args.map a.eval++cvs).size=(evs st args.toList++capt).length:=by simp[e1,hcl]
 have hvs:∀(q:Nat) (u:Value) (s:SV),(args.map a.eval++cvs)[q]?=some u→(evs st args.toList++capt)[q]?=some s→aL E u s:=by
  grind
 unfold ajC at hk
 split at hk
 ·rename_i l xs fr ob no k hyl
  obtain ⟨S,⟨⟨fn,hfn,hb,hnm⟩,hS⟩,a0,js,⟨hdist,hjl,hlend⟩,hargs,hobs,hpre,hys,hk1,hk2⟩:=hk
  obtain ⟨Y,hFw⟩:=hcm.y _ _ hyl
  subst hFw
  obtain ⟨hal,hag⟩:=afN ⟨fr,ob,no,some k⟩ js _ _ hargs
  obtain ⟨hl1,hl2⟩:=avj.1 hlend
  have hheap:=pO h.heap hdist (lend:=false) (ro:=(S.objs l a0).length) (t:=E.tm) hobs (fun h1=>by grind)
  have hA:l8 (aN E ⟨fr,ob,no,some k⟩ w js false (S.objs l a0) (S.objs l a0).length E.tm) (args.map a.eval++cvs) (S.args l a0):=by
   refine ⟨by omega,fun q u c hu hc=>?_⟩
   have hka:q<(evs ⟨fr,ob,no,some k⟩ args.toList++capt).length:=by grind
   have hs:=aav hka
   obtain ⟨l1,l2⟩:=lZ (evs ⟨fr,ob,no,some k⟩ args.toList++capt) (S.args l a0) q
   exact apG h.heap (hag q _ c hs hc) (fun hl=>by grind)
    (fun f l' f' m e1 e2 e3=>by grind) (hvs q u _ hu hs)
  obtain ⟨I0,hI0⟩:∃I0:Nat→Prop,I0=fun b=>E.I b∨(E.ws.heap.size≤b∧b<w.heap.size):=⟨_,rfl⟩
  have hI0lt:∀b,I0 b→b<w.heap.size:=fun b hb=>by rw[hI0] at hb;exact hb.elim (fun x=>alk (h.heap.fr.isz b x) h.heap.fr.wsz) (fun x=>x.2)
  have hmine:∀b,E.mine b→b<w.heap.size→I0 b:=fun b hb hlt=>by rw[hI0];exact hb.elim (fun x=>.inr ⟨x,hlt⟩) .inl
  obtain ⟨CL,hCL⟩:∃CL:Nat→Prop,CL=fun b=>∃i,i<C.m∧(C.hd0 i).bind aM=some b:=⟨_,rfl⟩
  have hCLlt:∀b,CL b→b<w.heap.size:=fun b hb=>by
   rw[hCL] at hb
   obtain ⟨i,hi,hb⟩:=hb
   have:=hcm.lent i b hi hb
   exact alk this (aiT h.heap.fr.bsz h.heap.fr.wsz)
  have hkE:E.k=some k:=h.heap.kk
  have hsync:=h.sync Y.ae9
  rw[hkE,←hI0] at hsync
  obtain ⟨J',hJ'⟩:∃J':Option Nat→(Nat→Prop)→World→Prop,J'=fun q I W=>C.J (q.map (k+·)) (fun b=>I b∨I0 b) W∧(∀b,I b→w.heap.size≤b)∧(∀b,I0 b∨CL b→W.heap[b]?=w.heap[b]?)∧aiB E.mem W∧w.heap.size≤W.heap.size∧(W.os=w.os∧W.tape=w.tape∧W.output=w.output):=⟨_,rfl⟩
  have hst:agq J':=by
   rw[hJ']
   intro q I I' W W' ⟨j1,j2,j3,j4,j5,j6⟩ i1 i2 i3 o1 o2 o3 s1 b1
   have hlow:∀b,b<w.heap.size→W'.heap[b]?=W.heap[b]?:=fun b hb=>b1 b (by omega) fun hh=>by grind
   refine ⟨Y.ae9 _ _ _ _ _ j1 (fun b hb=>hb.imp (i1 b) id) (fun b hb=>hb.elim (fun x=>(i2 b x).imp .inl id) (fun x=>.inl (.inr x))) (fun b hb=>hb.elim (i3 b) fun x=>by grind) o1 o2 o3 s1 (fun b hb hn=>b1 b hb fun x=>hn (.inl x)),fun b hb=>(i2 b hb).elim (j2 b) (fun x=>by omega),fun b hb=>?_,fun b cs hb=>?_,by omega,o1.trans j6.1,o2.trans j6.2.1,o3.trans j6.2.2⟩
   ·grind
   ·obtain ⟨T,f2,hw⟩:=j4 b cs hb
    exact ⟨T,f2,by rw[hlow b (h.heap.sM hb)];exact hw⟩
  have hJ0:J' (some 0) (fun _=>False) w:=by
   rw[hJ']
   refine ⟨?_,fun b hb=>hb.elim,fun _ _=>rfl,h.heap.mem,abm _,rfl,rfl,rfl⟩
   grind
  have hcmem:∀b cs,(aN E ⟨fr,ob,no,some k⟩ w js false (S.objs l a0) (S.objs l a0).length E.tm).mem b=some cs→E.mem b=some cs:=fun b cs hb=>o8 hb
  have hlb:∀i b,i<(S.objs l a0).length→((aN E ⟨fr,ob,no,some k⟩ w js false (S.objs l a0) (S.objs l a0).length E.tm).hd i).bind aM=some b→I0 b∨CL b:=fun i b hi hb=>by
   have hj:js[i]?=some js[i]:=aav (by omega)
   have hb:E.blk js[i]=some b:=by grind [aN,Env.blk]
   obtain ⟨_,hget⟩:=qD ⟨fr,ob,no,some k⟩ js js _ hobs
   have hM:=hget i js[i] _ hj (aav hi)
   obtain ⟨o',ho'⟩:∃o',St.obj ⟨fr,ob,no,some k⟩ js[i]=some o':=by
    unfold obM at hM
    grind
   rcases (h.heap.own _ _ _ ho' hb).2.2 with hm | hm
   ·exact .inl (hmine b hm ((h.heap.ob _ _ ho').iZ hb))
   ·refine .inr ?_
    rw[hCL]
    have:=h.heap.mkh
    exact ⟨js[i],hm.1,by rw[←h.heap.hd0 _ (by omega)];exact hb⟩
  have hcalls:=hS a0 hpre l J' _ (args.map a.eval++cvs) w hst (fun b hb=>by
   have hb:E.tm b:=hb
   rw[h.heap.base] at hb
   obtain ⟨cs,hc⟩:=Y.tm b hb
   exact ⟨cs,fM (h.heap.mem0 _ _ hc)⟩) (fun i x us I W1 hx hus hJ1=>by
   rw[hJ'] at hJ1
   obtain ⟨j1,j2,j3,j4,j5,j6⟩:=hJ1
   obtain ⟨fn1,t1,as1,bd1,hy1,hr1⟩:=Y.at_ (k+i) x us _ W1 (hys i x hx) ⟨hus.1,fun q u s hu hs=>(hus.2 q u s hu hs).mono fun b cs hb=>handed h.heap Y.tm b cs (by
    simp only[Env.m] at hb ⊢
    split at hb
    ·rename_i ht
     rw[if_pos (show E.tm b from ht)]
     grind
    ·cases hb)⟩ j1
   refine ⟨fn1,t1,as1,bd1,hy1,hr1.mono ?_⟩
   rintro e W' ⟨⟨kk,kl⟩,hj⟩
   have hkeep:∀b,I0 b∨CL b→W'.heap[b]?=W1.heap[b]?:=fun b hb=>hb.elim (fun x=>kk.own b (.inr x)) fun x=>by
    grind
   have hmem:∀b cs,E.mem b=some cs→afc W1 b cs→afc W' b cs:=fun b cs hb ha=>by
    rcases h.heap.memnew b cs hb with h1 | h1
    ·exact kk.mem b cs h1 ha
    ·obtain ⟨T,f2,hw⟩:=ha
     exact ⟨T,f2,by rw[hkeep b (.inl (hmine b h1.2 (h.heap.sM hb)))];exact hw⟩
   have hJn:∀q,C.J (q.map (k+·)) (fun b=>I b∨I0 b) W'→J' q I W':=fun q hq=>by
    rw[hJ']
    exact ⟨hq,j2,fun b hb=>(hkeep b hb).trans (j3 b hb),fun b cs hb=>hmem b cs hb (j4 b cs hb),aiT j5 kk.size,kk.os.trans j6.1,kk.tape.trans j6.2.1,kk.output.trans j6.2.2⟩
   refine ⟨⟨⟨kk.os,kk.tape,kk.output,kk.size,fun b hb=>kk.own b (.inl hb),fun b cs hb ha=>hmem b cs (hcmem b cs hb) ha⟩,fun i b hi hb=>hkeep b (hlb i b hi hb)⟩,?_⟩
   grind) hJ0 hheap hA
  refine ⟨fun g _=>trivial,?_⟩
  have hrun:(execOp a.eval o).run X.P w=.ok (.enter g (args.map a.eval++cvs)) w:=by
   grind [execOp,resolve,Deferred.ofValue,invoke,oN]
  rw[Oper.semAt_plain Fence.wide _ _ hnd,hrun]
  rw[Oper.uponIn_enter]
  refine ⟨fun hdep=>(by omega),(abg hcalls).mono ?_⟩
  rintro e W' ⟨I,hIlt,hj⟩
  have hfin:∀q,J' q I W'→av C { E with ws:=W',I:=fun b=>I b∨I0 b,k:=q.map (k+·) } ⟨fr,ob,no,q.map (k+·)⟩ a W':=fun q hq=>by
   rw[hJ'] at hq
   obtain ⟨j1,j2,j3,j4,j5,j6⟩:=hq
   refine h.yielded (I1:=fun b=>I b∨I0 b) Y.wk (fun b hb=>.inr (by grind)) (fun b hb=>hb.elim (hIlt b) fun x=>by grind)
    ⟨j6.1,j6.2.1,j6.2.2,j5,fun b hb=>j3 b (.inl (by grind)),fun b cs hb _=>j4 b cs (h.heap.mem0 b cs hb)⟩ (fun i b hi hb=>j3 b (.inr (by grind))) j1
  rcases hj with ⟨rfl,hj⟩ | ⟨rfl,hj⟩
  ·exact aD (hfin _ hj) hnt hd hk1 (.val _ _) hn
  ·exact aD (hfin _ hj) hnt hd hk2 (.val _ _) hn
 grind
theorem agT {gr:Bool} {C:Ctx} {E:Env} {st:St} {a:Act} {w:World} (h:av C E st a w) {X:aY} (hTb:X.Tb.Ok X.P) (hnt:C.nt=X.nt) (hro:C.ro=X.ro) {F:Fence} (hcm:CX C X F) {o:Oper} (hd:bY X.nt o.dst=true) {c:Call} (ho:o.op=.call c)
  (hF:jq F) {K:St→Prop} (hk:acf X gr c o st K) {next:Act→World→Prop} {Q:Exit→Act→World→Prop}
  (hn:∀st' E' a' w',K st'→av C E' st' a' w'→(gr=true→jL o.op=true→Grow w w')→next a' w'):o.wpIn F 9 X.P a w next Q:=by
 have hnd:∀c',o.op≠.defer c':=by simp[ho]
 unfold acf at hk
 split at hk
 ·rename_i f args _
  split at hk
  ·rename_i k capt hf
   have hfv:=aI h f
   rw[hf] at hfv
   generalize hfe:a.eval f=v at hfv
   cases hfv with
   | fn _ cvs _ hcl hce=>
    split at hk
    ·grind [aic]
    ·exact hk.elim
    ·split at hk
     ·exact acF h hnt hro hcm.gl hcm.nw hd ho hF hfe hcl hce hk hn
     all_goals grind [ajH]
  ·rename_i k l hf
   have hfv:=aI h f
   rw[hf] at hfv
   generalize hfe:a.eval f=v at hfv
   cases hfv with
   | bnd _ cvs _ hcl hce=>
    split at hk
    ·exact acM h hnt hro hcm.gl hcm.nw hd ho hF hfe hcl hce hk hn
    all_goals grind [aks]
  ·rename_i b k capt hf
   have hfv:=aI h f
   rw[hf] at hfv
   generalize hfe:a.eval f=v at hfv
   cases hfv with
   | p _ _ _ hp=>cases hp with
    | fn _ cvs _ hcl hce=>
     refine acF h hnt hro hcm.gl hcm.nw hd ho hF hfe (by grind [pQ]) (fun q u s hu hs=>?_) hk hn
     rw[jW] at hs
     cases hd':capt[q]? with
     | none=>grind
     | some d=>simp[hd'] at hs;subst hs;exact .p _ _ _ (hce q u d hu hd')
  ·rename_i b k l hf
   have hfv:=aI h f
   rw[hf] at hfv
   generalize hfe:a.eval f=v at hfv
   cases hfv with
   | p _ _ _ hp=>cases hp with
    | bnd _ cvs _ hcl hce=>
     refine acM h hnt hro hcm.gl hcm.nw hd ho hF hfe (by grind [pQ]) (fun q u s hu hs=>?_) hk hn
     rw[jW] at hs
     cases hd':l[q]? with
     | none=>grind
     | some d=>simp[hd'] at hs;subst hs;exact .p _ _ _ (hce q u d hu hd')
  ·rename_i b l hf
   have hfv:=aI h f
   rw[hf] at hfv
   cases gr with
   | true=>exact hk.elim
   | false=>exact ak3 h hnt hcm hd ho hfv.aO hk fun st' E' a' w' hk' h'=>hn st' E' a' w' hk' h' (by simp)
  grind
 ·rename_i s x t t'
  cases htt:t.beq t' with
  | false=>
   simp only[htt] at hk
   obtain ⟨v',w',hr,hnx⟩:=acA h hTb hnt hcm.m hd (aI h s) (aI h x) hk (fun st' E' a' w' hk' h' _=>hn st' E' a' w' hk' h' (by simp[jL,ho])) o.type
   refine eG hF hnd (v:=v') (w':=w') ?_ hnx
   simp_all [execOp,resolve,invoke,builtin]
  | true=>
   obtain rfl:=acD htt
   simp only[htt] at hk
   obtain ⟨v',w',hr,hnx⟩:=acL h hTb hnt hro hcm.m hd (aI h s) (aI h x) hk (fun st' E' a' w' hk' h' _=>hn st' E' a' w' hk' h' (by simp[jL,ho])) o.type
   refine eG hF hnd (v:=v') (w':=w') ?_ hnx
   simp_all [execOp,resolve,invoke,builtin]
 ·rename_i x y _
  split at hk
  ·rename_i _ k a0 _ k' b0 hx hy
   have hxv:=aI h x
   have hyv:=aI h y
   rw[hx] at hxv
   rw[hy] at hyv
   have hxe:=hxv.aO
   have hye:=hyv.aO
   refine eG hF hnd (v:=.int k (if b0<a0 then b0 else a0)) (w':=w) ?_ (dY h hnt hd hk (.val _ _) fun st' E' a' w' hk' h' hw=>hn st' E' a' w' hk' h' fun _ _=>hw▸Grow.refl w)
   simp_all [execOp,resolve,invoke,builtin,Builtin.min_,Builtin.min2]
  grind
 ·rename_i x y _
  split at hk
  ·rename_i _ k a0 _ k' b0 hx hy
   have hxv:=aI h x
   have hyv:=aI h y
   rw[hx] at hxv
   rw[hy] at hyv
   have hxe:=hxv.aO
   have hye:=hyv.aO
   refine eG hF hnd (v:=.int k (if b0>a0 then b0 else a0)) (w':=w) ?_ (dY h hnt hd hk (.val _ _) fun st' E' a' w' hk' h' hw=>hn st' E' a' w' hk' h' fun _ _=>hw▸Grow.refl w)
   simp_all [execOp,resolve,invoke,builtin,Builtin.max_,Builtin.max2]
  grind
 ·rename_i x y t t'
  obtain ⟨v,w',hr,hnx⟩:=amP (t':=t') h hTb hnt hro hd hk (aI h x) (aI h y) (fun st' E' a' w' hk' h'=>hn st' E' a' w' hk' h' (by simp[jL,ho])) o.type
  refine eG hF hnd (v:=v) (w':=w') ?_ hnx
  simp_all [execOp,resolve,invoke,builtin]
 ·rename_i x t
  obtain ⟨w',hr,hnx⟩:=akM h hTb hnt hro hd hk (aI h x) (fun st' E' a' w' hk' h'=>hn st' E' a' w' hk' h' (by simp[jL,ho])) o.type
  refine eG hF hnd (v:=.tuple #[]) (w':=w') ?_ hnx
  simp_all [execOp,resolve,invoke,builtin]
 grind
theorem aie {C:Ctx} {E:Env} {st:St} {a:Act} {w:World} {R:World→Prop} (h:av C E st a w) {X:aY} (hTb:X.Tb.Ok X.P) (hnt:C.nt=X.nt) {o:Oper} (hR:∀w1,R w1→gX o.op=true→Grow w w1) (hd:bY X.nt o.dst=true) {c:Call} (ho:o.op=.call c)
  {K:St→Prop} (hk:ags X c o st K) {next:Act→World→Prop}
  (hn:∀st' E' a' w',K st'→av C E' st' a' w'→next a' w'):aV R X.P o a w next:=by
 unfold ags at hk
 split at hk
 ·rename_i x t
  split at hk
  ·rename_i hi
   have hu:X.P.underlying t=some .string:=(hTb _ _ hi).desc
   split at hk
   ·rename_i _ s hx
    have hxv:=aI h x
    rw[hx] at hxv
    have hxe:=hxv.aO
    exact aV.mk' (v:=.int .i64 s.size) (fun w1 hg=>by simp_all [execOp,resolve,invoke,builtin,Builtin.len_,run_underlying,goInt]) (aD h hnt hd hk (.val _ _) hn)
   grind
  ·rename_i e _ _ _ hi
   have hu:X.P.underlying t=some (.slice e):=(hTb _ _ hi).desc
   have go:∀(n:Nat),(∃(ad:Option Addr) (c:Nat),a.eval x=.slice ad n c)→aP st o.dst (.p true (.val (.int .i64 n))) K→aV R X.P o a w next:=by
    rintro n ⟨ad,c,hx⟩ hk
    exact aV.mk' (v:=.int .i64 n) (fun w1 hg=>by simp_all [execOp,resolve,invoke,builtin,Builtin.len_,run_underlying,goInt]) (aD h hnt hd hk (.val _ _) hn)
   split at hk
   ·rename_i b n f hx
    have hxv:=aI h x
    rw[hx] at hxv
    refine go n ?_ hk
    generalize a.eval x=v at hxv
    cases hxv with
    | p _ _ _ hp=>
     cases hp with
     | nil=>grind
     | emp=>grind
     | seq=>grind
   ·rename_i b hx
    have hxv:=aI h x
    rw[hx] at hxv
    exact go 0 ⟨_,_,hxv.aO⟩ hk
   ·rename_i i hx
    split at hk
    ·rename_i T sz n f hob
     have hxv:=aI h x
     rw[hx] at hxv
     refine go n ?_ hk
     generalize a.eval x=v at hxv
     obtain ⟨v0,xs,u,hh,hw,_⟩:=l7 (h.heap.ob _ _ hob)
     cases hxv with
     | row _ _ hh2 _=>
      rw[hh] at hh2;cases hh2
      rcases hw.2 with ⟨rfl,rfl⟩ | ⟨g,cap,cur,rfl,_⟩
      all_goals grind
    grind
   ·rename_i i sz lo n hx
    have hxv:=aI h x
    rw[hx] at hxv
    refine go n ?_ hk
    generalize a.eval x=v at hxv
    cases hxv with
    | sub=>grind
   ·rename_i i N lo n hx
    have hxv:=aI h x
    rw[hx] at hxv
    refine go n ?_ hk
    generalize a.eval x=v at hxv
    cases hxv with
    | asl=>grind
   grind
  ·rename_i kT eT _ _ _ hi
   have hu:X.P.underlying t=some (.map kT eT):=(hTb _ _ hi).desc
   split at hk
   ·rename_i i hx
    split at hk
    ·rename_i kt n get hob
     have hxv:=aI h x
     rw[hx] at hxv
     obtain ⟨r,hh,hxe⟩:=akn hxv
     obtain ⟨r',es,clock,hh2,hw,hsz,_⟩:=(h.heap.ob i _ hob).xX
     rw[hh] at hh2;cases hh2
     have hrl:=(acG.1 hw).1
     refine aV.mk' (v:=.int .i64 n) (fun w1 hg=>?_) (aD h hnt hd hk (.val _ _) hn)
     have hw1:w1.heap[r]?=some (.map es clock):=by
      rw[(hR w1 hg (by simp[gX,ho])).2 r hrl];exact hw
     simp[execOp,ho,resolve,invoke,builtin,Builtin.len_,run_underlying hu,hxe,goInt,MapKept.run_getObj_map hw1,hsz]
    grind
   grind
  grind
 grind
theorem an9 {C:Ctx} {E:Env} {st:St} {a:Act} {w:World} {R:World→Prop} (h:av C E st a w) {X:aY} (hnt:C.nt=X.nt) (hcm:C.m=X.m) {o:Oper} (hd:bY X.nt o.dst=true) {x:Operand} (ho:o.op=.assign x)
  {K:St→Prop} (hk:auq X x o.dst st K) {next:Act→World→Prop} (hn:∀st' E' a' w',K st'→av C E' st' a' w'→next a' w'):aV R X.P o a w next:=
 aV.mk' (v:=a.eval x) (fun w1 hg=>by simp[execOp,ho]) (xK h hnt hcm hd (aI h x) hk hn)
theorem aed {C:Ctx} {E:Env} {st:St} {a:Act} {w:World} {R:World→Prop} (h:av C E st a w) {X:aY} (hTb:X.Tb.Ok X.P) (hnt:C.nt=X.nt) (hcm:C.m=X.m) {o:Oper} (hR:∀w1,R w1→gX o.op=true→Grow w w1) (hd:bY X.nt o.dst=true)
  {K:St→Prop} (hk:abM X o st K) {next:Act→World→Prop} (hn:∀st' E' a' w',K st'→av C E' st' a' w'→next a' w'):aV R X.P o a w next:=by
 grind [abM,aie,ag9,an9,agP]
theorem ak8 {gr:Bool} {C:Ctx} {E:Env} {st:St} {a:Act} {w:World} (h:av C E st a w) {X:aY} (hTb:X.Tb.Ok X.P) (hnt:C.nt=X.nt) (hro:C.ro=X.ro) {F:Fence} (hcm:CX C X F) {o:Oper} (hd:bY X.nt o.dst=true)
  (hF:jq F) {K:St→Prop} (hk:ait X gr o st K) {next:Act→World→Prop} {Q:Exit→Act→World→Prop}
  (hn:∀st' E' a' w',K st'→av C E' st' a' w'→(gr=true→jL o.op=true→Grow w w')→next a' w'):o.wpIn F 9 X.P a w next Q:=by
 grind [ait,agT,ahb,aif]
theorem aii (s:ByteArray) (cap j:Nat) (hj:j<s.size):(bytesRow s cap)[j]?=some (.int .u8 (s.data.getD j 0).toNat):=by
 simp_all [bytesRow_at]
theorem bg.apQ {C:Ctx} {E:Env} {st:St} {w w':World} (h:bg C E st w) {g:Nat} {cs:Array Value} {T:TypeId} {fr fr':Nat×Nat} (hg:E.mem g=some cs) (hm:E.mine g) (hw:w.heap[g]?=some (.cells cs T fr)) (hw':w'.heap[g]?=some (.cells cs T fr'))
  (hk:∀k,k≠g→w'.heap[k]?=w.heap[k]?) (hos:w'.os=w.os) (htape:w'.tape=w.tape) (hout:w'.output=w.output) (hsz:w'.heap.size=w.heap.size):bg C E st w':=by
 refine ⟨fun i o ho=>(h.ob i o ho).world fun b hb=>hk b fun e=>?_,h.sep,h.own,fun b cs' hb=>?_,h.mem0,h.memnew,h.new,h.base,⟨hos.trans h.fr.os,htape.trans h.fr.tape,hout.trans h.fr.output,h.fr.bsz,by rw[hsz];exact h.fr.wsz,h.fr.wos,h.fr.isz,fun k hk1 hI=>?_,h.fr.sync⟩,h.hd0,h.mno,h.mkh,h.kk⟩
 ·subst e
  have:=(h.own i o b ho hb).1
  grind
 ·by_cases e:b=g
  ·grind
  ·rw[hk b e];exact h.mem b cs' hb
 ·have e:k≠g:=fun e=>by
   subst e
   rcases hm with hx | hx
   all_goals grind
  rw[hk k e];exact h.fr.block k hk1 hI
theorem apn {P:Program} {w:World} {s e g:Nat} {n cap:Nat} {cs:Array Value} {T:TypeId} (hs:P.underlying s=some (.slice e)) (he:P.underlying e=some (.int .u8)) (hw:w.heap[g]?=some (.cells cs T (0,0))) :
  (convert s s (.slice (some ⟨g,0,none⟩) n cap)).run P w=.ok (.slice (some ⟨g,0,none⟩) n cap) (w.freeze ⟨g,cs.size,none⟩ 1):=by
 simp_all [World.shape?,convert,run_underlying,markStringish]
theorem akS {w:World} {g n:Nat} {cs:Array Value} {T:TypeId} (hw:w.heap[g]?=some (.cells cs T (0,0))):(w.freeze ⟨g,n,none⟩ 1).heap[g]?=some (.cells cs T (n,n+1)):=by
 have hg:=(acG.1 hw).1
 unfold World.freeze
 grind
theorem abh {w:World} {g n k:Nat} (hk:k≠g):(w.freeze ⟨g,n,none⟩ 1).heap[k]?=w.heap[k]?:=by
 unfold World.freeze
 grind
theorem agi {C:Ctx} {E:Env} {st:St} {a:Act} {w:World} (h:av C E st a w) {X:aY} (hTb:X.Tb.Ok X.P) (hnt:C.nt=X.nt) (hcm:C.m=X.m) (htr:X.nw=true→∀b,C.base≤b→C.tm b) {o:Oper} (hd:bY X.nt o.dst=true)
  {F:Fence} (hF:jq F) {K:St→Prop} (hk:aat X o st K) {next:Act→World→Prop} {Q:Exit→Act→World→Prop}
  (hn:∀st' E' a' w',K st'→av C E' st' a' w'→next a' w'):o.wpIn F 9 X.P a w next Q:=by
 unfold aat at hk
 split at hk
 ·rename_i s t x ho
  split at hk
  ·rename_i e _ _ _ hi1 hi2
   split at hk
   ·rename_i hie
    split at hk
    ·rename_i _ v hx
     obtain ⟨hmax,hk⟩:=hk
     have hxv:=aI h x
     rw[hx] at hxv
     have hxe:=hxv.aO
     have hs:X.P.underlying s=some .string:=(hTb _ _ hi1).desc
     have hd2:X.P.underlying t=some (.slice e):=(hTb _ _ hi2).desc
     have he8:X.P.underlying e=some (.int .u8):=(hTb _ _ hie).desc
     have hrun:=run_bytes_of_string (P:=X.P) w s t e v hs hd2 he8
     generalize hcap:grownCap w v.size 0 e=cap at hrun
     generalize hcs:bytesRow v cap=cs at hrun
     have hnew:(w.drew.alloc (.cells cs e (cs.size,cs.size+1))).heap[w.heap.size]?=some (.cells cs e (cs.size,cs.size+1)):=by
      show (w.heap.push _)[w.heap.size]?=_
      simp
     have hkeep:∀k,k<w.heap.size→(w.drew.alloc (.cells cs e (cs.size,cs.size+1))).heap[k]?=w.heap[k]?:=fun k hk=>RowKit.Below.heap_alloc w.drew _ k hk
     obtain ⟨hh,hle⟩:=h.heap.aft hnew rfl rfl rfl (by grind) hkeep
     have hM:=h.fE (st':=st) hle rfl hh ⟨rfl,rfl⟩ (jX w.drew _)
     have hb0:C.base≤w.heap.size:=aiT h.heap.fr.bsz h.heap.fr.wsz
     have hvle:v.size≤cap:=by
      grind [grownCap_ge]
     refine eG hF (by simp[ho]) (by simp_all [execOp]) (aD hM hnt hd hk (.p X.nw _ _ (.seq w.heap.size 0 v.size cap 1 _ cs (fun j _=>.int .u8 (v.data.getD j 0).toNat) ?_ hvle hmax (fun j hj=>rfl) (fun j k s hj hs=>?_) (fun j k s hj hs=>?_))) hn)
     ·have hmm:(E.ig w.heap.size cs).mem w.heap.size=some cs:=by simp[Env.ig]
      cases hnw:X.nw with
      | false=>exact hmm
      | true=>
       simp only[Env.m]
       rw[if_pos (show (E.ig w.heap.size cs).tm w.heap.size from by show E.tm w.heap.size;rw[h.heap.base];grind)]
       exact hmm
     ·cases k with
      | zero=>
       simp only[ajv,auY,axc]
       rw[←hcs,aii v cap j hj]
       exact ⟨rfl,rfl⟩
      | succ k=>grind [qo]
     ·cases k with
      | zero=>obtain rfl:=Option.some.inj hs;exact .val _
      | succ k=>grind [qo]
    grind
   grind
  ·rename_i e _ _ _ e' _ _ _ hi1 hi2
   split at hk
   ·rename_i hst hie
    obtain rfl:=acD hst
    split at hk
    ·rename_i i hx
     split at hk
     ·rename_i T sz n f hmi hob
      obtain ⟨hn0,hk⟩:=hk
      have hmi:=aoH hmi
      have hxv:=aI h x
      rw[hx] at hxv
      have hs:X.P.underlying s=some (.slice e):=(hTb _ _ hi1).desc
      have he8:X.P.underlying e=some (.int .u8):=(hTb _ _ hie).desc
      obtain ⟨v0,xs,u,hh,hw,hmax,hl,hc,he⟩:=l7 (h.heap.ob _ _ hob)
      have hv:a.eval x=v0:=by
       generalize hae:a.eval x=v at hxv
       cases hxv with | row _ _ hh2 _=>grind
      rcases hw.2 with ⟨_,hz⟩ | ⟨g,cap,cur,hv0,_,hgw,_⟩
      ·omega
      ·obtain ⟨E',hle,hsame,hH,hfz⟩:=h.heap.freeze hob (by omega)
       have hP:=hfz _ hxv
       rw[hv,hv0] at hP
       have hEg:E'.mem g=some cur:=by
        cases hP with
        | emp=>omega
        | seq b o n cap sz f cs u hm=>
         obtain ⟨T',fr',hw'⟩:=hH.mem _ _ hm
         grind
       have hbk:E.blk i=some g:=by grind [Env.blk,aM]
       obtain ⟨q1,q2,q3⟩:=h.heap.own i _ g hob hbk
       have hmine:E'.mine g:=by
        grind [Env.mine]
       have hH2:=hH.apQ (w':=w.freeze ⟨g,cur.size,none⟩ 1) hEg hmine hgw (akS hgw) (fun k hk=>abh hk) rfl rfl rfl (by simp_all [World.freeze])
       have hM:=h.fE (st':=st.eX i none) hle rfl hH2 hsame (ru hgw fun k hk=>abh hk)
       exact eG hF (by simp[ho]) (by simp[execOp,ho,hv,hv0,apn hs he8 hgw]) (aD hM hnt hd hk (.p false _ _ hP) hn)
     grind
    grind
   grind
  grind
 grind
theorem akQ {gr:Bool} {C:Ctx} {E:Env} {st:St} {a:Act} {w:World} (h:av C E st a w) {X:aY} (hTb:X.Tb.Ok X.P) (hnt:C.nt=X.nt) (hro:C.ro=X.ro) {F:Fence} (hcm:CX C X F) {o:Oper}
  (hF:jq F) {K:St→Prop} (hk:step0 X gr o st K) {next:Act→World→Prop} {Q:Exit→Act→World→Prop}
  (hn:∀st' E' a' w',K st'→av C E' st' a' w'→(gr=true→jL o.op=true→Grow w w')→next a' w'):o.wpIn F 9 X.P a w next Q:=by
 unfold step0 at hk
 split at hk
 ·rename_i hd hf
  have hk':abM X o st K∨(gr=false∧aat X o st K):=by
   grind
  clear hk
  rcases hk' with hk | ⟨hgr,hk⟩
  case inr=>exact agi h hTb hnt hcm.m hcm.nw hd hF hk fun st' E' a' w' hk' h'=>hn st' E' a' w' hk' h' fun hg _=>by grind
  by_cases hdef:∃c,o.op=.defer c
  ·grind [abM,yX]
  ·obtain ⟨v,hv,hnx⟩:=aed (R:=Grow w) (next:=fun a' w'=>w'=w→next a' w') h hTb hnt hcm.m (fun _ hg _=>hg) hd hk (fun st' E' a' w' hk' h' hw=>hn st' E' a' w' hk' h' fun _ _=>hw▸Grow.refl w)
   grind [eG,Grow.refl]
 all_goals grind [ak8]
theorem acS (a:Act) (t:Nat):a.put (some t) (a.tmps.getD t undef)=a:=by
 cases a with
 | mk tmps defers=>
  simp only[Act.put]
  congr 1
  apply axe
  intro k
  rw[Array.getElem?_setIfInBounds]
  by_cases e:t=k
  ·subst e
   rw[if_pos rfl]
   by_cases hk:t<tmps.size
   all_goals simp_all
  grind
theorem xD {st:St} {js:List Nat}:∀(n i:Nat) (o:Ob),St.obj { st with ob:=oH st js n } i=some o→st.obj i=some o∨∃T cs,st.obj i=some (.cells T cs)∧o=.cells T (cs.map (amO st js))
 | 0,i,o,h=>.inl h
 | n+1,i,o,h=>by
  simp only[oH] at h
  split at h
  ·rename_i T cs hob
   split at h
   ·have h2:=h
    unfold St.obj at h2
    simp only[bq] at h2
    by_cases e:n=i
    ·grind
    ·rw[if_neg e] at h2
     exact xD n i o h2
   ·exact xD n i o h
  ·exact xD n i o h
theorem bg.pub {C:Ctx} {E:Env} {st:St} {w:World} (h:bg C E st w) {js:List Nat} (hm:∀j∈js,C.m≤j) (n:Nat):bg C (E.jG st w js) { st with ob:=jM js (oH st js n) } w:=by
 have h1:=h.ah4 hm
 have hle:=tV E st w js
 have hold:∀k o,St.obj { st with ob:=jM js (oH st js n) } k=some o→k∉js∧(st.obj k=some o∨∃T cs,st.obj k=some (.cells T cs)∧o=.cells T (cs.map (amO st js))):=fun k o ho=>by
  unfold St.obj at ho
  simp only[nN] at ho
  by_cases e:k∈js
  ·rw[if_pos e] at ho;cases ho
  ·rw[if_neg e] at ho
   exact ⟨e,xD n k o ho⟩
 have hex:∀k o,St.obj { st with ob:=jM js (oH st js n) } k=some o→∃o',St.obj { st with ob:=jM js st.ob } k=some o'∧st.obj k=some o':=fun k o ho=>by
  obtain ⟨hk,h2⟩:=hold k o ho
  obtain ⟨o',ho'⟩:∃o',st.obj k=some o':=by
   rcases h2 with h2 | ⟨T,cs,h2,_⟩
   ·exact ⟨_,h2⟩
   ·exact ⟨_,h2⟩
  refine ⟨o',?_,ho'⟩
  unfold St.obj at ho' ⊢
  simp only[nN]
  rw[if_neg hk];exact ho'
 refine ⟨fun k o ho=>?_,fun a b o o' bl ho ho' hb hb'=>?_,fun k o b ho hb=>?_,h1.mem,h1.mem0,h1.memnew,h1.new,h1.base,h1.fr,h1.hd0,h1.mno,h1.mkh,h1.kk⟩
 ·obtain ⟨_,h2⟩:=hold k o ho
  rcases h2 with h2 | ⟨T,cs,h2,rfl⟩
  ·exact (h.ob k o h2).mono hle
  ·cases h.ob k _ h2 with
   | cells b _ vs _ hh hw hl h1 he=>
    refine .cells b T vs _ hh hw (by rw[ahn];exact hl) h1 fun q u s hu hs=>?_
    rw[alh] at hs
    obtain ⟨s0,hs0,rfl⟩:=axy.1 hs
    have hr:=he q u s0 hu hs0
    unfold amO
    split
    ·rename_i i
     split
     ·rename_i T' sz' n' f' hi hob
      exact .p false _ _ (aeQ h 1 (.row i) (.seq n' f') u (by simp only[mH,hi,hob]) hr)
     ·exact hr.mono hle
    ·exact hr.mono hle
 ·obtain ⟨q,_,hq⟩:=hex a o ho
  obtain ⟨q',_,hq'⟩:=hex b o' ho'
  exact h.sep a b q q' bl hq hq' hb hb'
 ·obtain ⟨q,hq,_⟩:=hex k o ho
  exact h1.own k q b hq hb
theorem anj {C:Ctx} {E:Env} {st:St} {a:Act} {w:World} (h:av C E st a w) {X:aY} (hnt:C.nt=X.nt) (hcm:C.m=X.m) {t:Nat} (hd:bY X.nt (some t)=true)
  {K:St→Prop} (hk:aqR X t st K) {next:Act→World→Prop} (hn:∀st' E' a' w',K st'→av C E' st' a' w'→w'=w→next a' w'):next a w:=by
 unfold aqR at hk
 have hv:=h.slot t
 have pub:∀js,lu X.m js=true→bg C (E.jG st w js) { st with ob:=jM js (oH st js st.no) } w:=fun js hge=>
  h.heap.pub (js:=js) (fun j hj=>by
   obtain ⟨k,hk⟩:=auF hj
   rw[hcm];exact qV _ hge k j hk) st.no
 split at hk
 ·rename_i l hg
  rw[hg] at hv
  split at hk
  ·rename_i d' hge hp
   have hh:=pub _ hge
   have:=aD (h.fE (st':={ st with ob:=jM (reach st 5 (.agg l) []) (oH st (reach st 5 (.agg l) []) st.no) }) (tV E st w _) rfl hh ⟨rfl,rfl⟩ (jm.refl w)) hnt hd hk (.p false _ _ (aeQ h.heap 5 _ d' _ hp hv)) (next:=fun a2 w2=>w2=w→next a2 w2) hn rfl
   rwa [acS] at this
  ·exact hk.elim
 ·rename_i i off hg
  split at hk
  ·rename_i T cs hob
   split at hk
   ·exact hn _ _ _ _ hk h rfl
   ·rename_i j js _
    split at hk
    ·rename_i hge
     exact hn _ _ _ _ hk (h.fE (st':={ st with ob:=jM (j :: js) (oH st (j :: js) st.no) }) (tV E st w _) rfl (pub _ hge) ⟨rfl,rfl⟩ (jm.refl w)) rfl
    ·exact hk.elim
  ·exact hk.elim
 ·exact hk.elim
theorem ach {C:Ctx} {E:Env} {st:St} {a:Act} {w:World} (h:av C E st a w) {X:aY} (hnt:C.nt=X.nt) (hcm:C.m=X.m) {d:Option Nat} (hd:bY X.nt d=true)
  {K:St→Prop} (hk:aiP X d st K) {next:Act→World→Prop} (hn:∀st' E' a' w',K st'→av C E' st' a' w'→w'=w→next a' w'):next a w:=by
 unfold aiP at hk
 split at hk
 ·rename_i t
  split at hk
  ·have:=xK h hnt hcm hd (h.slot t) hk (next:=fun a2 w2=>w2=w→next a2 w2) hn rfl
   rwa [acS] at this
  ·split at hk
   ·exact anj h hnt hcm hd hk hn
   ·exact hn _ _ _ _ hk h rfl
 ·exact hn _ _ _ _ hk h rfl
theorem adF {C:Ctx} {E:Env} {st:St} {a:Act} {w:World} {R:World→Prop} (h:av C E st a w) {X:aY} (hTb:X.Tb.Ok X.P) (hnt:C.nt=X.nt) (hcm:C.m=X.m) {o:Oper} (hR:∀w1,R w1→gX o.op=true→Grow w w1) (hd:bY X.nt o.dst=true)
  {K:St→Prop} (hk:abM X o st fun st'=>aiP X o.dst st' K) {next:Act→World→Prop} (hn:∀st' E' a' w',K st'→av C E' st' a' w'→next a' w'):aV R X.P o a w next:=
 aed h hTb hnt hcm hR hd hk fun _ _ _ _ hk' h'=>ach h' hnt hcm hd hk' fun st2 E2 a2 w2 hk2 h2 _=>hn st2 E2 a2 w2 hk2 h2
theorem af4 {gr:Bool} {C:Ctx} {E:Env} {st:St} {a:Act} {w:World} (h:av C E st a w) {X:aY} (hTb:X.Tb.Ok X.P) (hnt:C.nt=X.nt) (hro:C.ro=X.ro) {F:Fence} (hcm:CX C X F) {o:Oper}
  (hF:jq F) {K:St→Prop} (hk:step X gr o st K) {next:Act→World→Prop} {Q:Exit→Act→World→Prop}
  (hn:∀st' E' a' w',K st'→av C E' st' a' w'→(gr=true→jL o.op=true→Grow w w')→next a' w'):o.wpIn F 9 X.P a w next Q:=by
 unfold step at hk
 have hd:bY X.nt o.dst=true:=by
  cases hd:bY X.nt o.dst with
  | true=>rfl
  | false=>
   unfold step0 at hk
   rw[hd] at hk
   split at hk
   ·rename_i e _;cases e
   ·rename_i e _;cases e
   ·exact hk.elim
 refine akQ h hTb hnt hro hcm hF hk fun st' E' a' w' hk' h' hg=>?_
 exact ach h' hnt hcm.m hd hk' fun st2 E2 a2 w2 hk2 h2 hw=>hn st2 E2 a2 w2 hk2 h2 (by rw[hw];exact hg)
theorem as6 {want lit:Bool} {A B:Prop} (h:amN want lit A B):(lit=want∧A)∨(lit≠want∧B):=by
 cases want<;>cases lit<;>first | exact .inl ⟨rfl,h⟩ | exact .inr ⟨by simp,h⟩
theorem av.asD {C:Ctx} {E:Env} {st:St} {a:Act} {w:World} (h:av C E st a w) {d:Nat} {b:Bool} (hv:a.tmps.getD d undef=.bool b):av C E (st.put d (.p true (.val (.bool b)))) a w:=by
 refine ⟨h.size,fun t=>?_,⟨h.heap.ob,h.heap.sep,h.heap.own,h.heap.mem,h.heap.mem0,h.heap.memnew,h.heap.new,h.heap.base,h.heap.fr,h.heap.hd0,h.heap.mno,h.heap.mkh,h.heap.kk⟩,h.marks⟩
 rw[get_put]
 by_cases e:d=t
 ·subst e;rw[if_pos rfl,hv];exact .val _ _
 ·rw[if_neg e];exact h.slot t
theorem amw {C:Ctx} {E:Env} {st:St} {a:Act} {w:World} (h:av C E st a w) {all:Array Oper} {j d:Nat} {oj:Oper} {b t:Bool} (hoj:nth all.toList j=some oj) (hdj:oj.dst=some d) (hget:st.get d=.p b (.val (.bool t))) :
  a.tmps.getD d undef=.bool t∧yielded all a.tmps j=some t:=by
 have hv:a.tmps.getD d undef=.bool t:=by
  have:=h.slot d
  rw[hget] at this
  exact this.aO
 refine ⟨hv,?_⟩
 have hlt:d<a.tmps.size:=by
  rcases axd d a.tmps.size with h1 | h1
  ·exact h1
  ·rw[ac9,axz h1] at hv
   simp[undef] at hv
 rw[fT] at hoj
 have hoj':all[j]?=some oj:=by simpa using hoj
 rw[ac9] at hv
 have hv':a.tmps[d]?=some (.bool t):=by
  rw[acC hlt] at hv ⊢
  simpa using hv
 simp[yielded,hoj',hdj,hv']
theorem aaR {gr:Bool} {C:Ctx} {E:Env} {st:St} {a:Act} {w:World} (h:av C E st a w) {X:aY} {all:Array Oper} {o:Oper} {K:St→Prop} (hk:stepG X gr all.toList o st K) :
  (Region.wanted o (yielded all a.tmps)=true∧∃st1,av C E st1 a w∧step X gr o st1 K) ∨
  (Region.wanted o (yielded all a.tmps)=false∧bY X.nt o.dst=true∧∃st1,av C E st1 a w∧aP st1 o.dst skipped K):=by
 unfold stepG at hk
 split at hk
 ·rename_i hg
  exact .inl ⟨by simp[Region.wanted,hg],st,h,hk⟩
 ·rename_i j want hg
  split at hk
  ·rename_i oj hoj
   split at hk
   ·rename_i d hdj
    split at hk
    ·rename_i b t hget hdo
     obtain ⟨hv,hy⟩:=amw h hoj hdj hget
     have fin:∀(lit:Bool),t=lit→amN want lit (step X gr o (st.put d (.p true (.val (.bool lit)))) K) (aP (st.put d (.p true (.val (.bool lit)))) o.dst skipped K) →
       ((Region.wanted o (yielded all a.tmps)=true∧∃st1,av C E st1 a w∧step X gr o st1 K) ∨
       (Region.wanted o (yielded all a.tmps)=false∧bY X.nt o.dst=true∧∃st1,av C E st1 a w∧aP st1 o.dst skipped K)):=by
      intro lit hlit hsel
      subst hlit
      have hM:=h.asD hv
      rcases as6 hsel with ⟨h1,h2⟩ | ⟨h1,h2⟩
      ·exact .inl ⟨by simp[Region.wanted,hg,hy,h1],_,hM,h2⟩
      ·exact .inr ⟨by simp[Region.wanted,hg,hy,h1],hdo,_,hM,h2⟩
     rcases abS hk with ⟨h1,h2⟩ | ⟨h1,h2⟩
     ·rw[abb] at h2;exact fin true h1 h2
     ·rw[abb] at h2;exact fin false h1 h2
    ·rename_i b hget hdo
     have hk:aP st o.dst skipped K:=hk
     refine .inr ⟨?_,hdo,st,h,hk⟩
     have hv:a.tmps.getD d undef=undef:=by
      have:=h.slot d
      rw[hget] at this
      exact this.aO
     have hy:yielded all a.tmps j=none:=by
      rw[fT] at hoj
      have hoj':all[j]?=some oj:=by simpa using hoj
      rw[ac9] at hv
      simp only[yielded,hoj',Option.bind_some,hdj]
      cases hq:a.tmps[d]? with
      | none=>rfl
      | some q=>rw[hq] at hv;simp only[Option.getD_some] at hv;subst hv;rfl
     simp[Region.wanted,hg,hy]
    ·exact hk.elim
   ·exact hk.elim
  ·exact hk.elim
theorem aeg {C:Ctx} {X:aY} (hTb:X.Tb.Ok X.P) (hnt:C.nt=X.nt) (hro:C.ro=X.ro) {F:Fence} (hcm:CX C X F) (hF:jq F) (all:Array Oper) {K:St→Prop} {Q:Exit→Act→World→Prop}
  (hn:∀st' E' a' w',K st'→av C E' st' a' w'→Q .normal a' w'):∀(ops:List Oper) (st:St) (E:Env) (a:Act) (w:World),af5 X all.toList ops st K→av C E st a w→wpListIn F 9 X.P all Q ops a w
 | [],st,E,a,w,hk,h=>hn st E a w hk h
 | o :: rest,st,E,a,w,hk,h=>by
  rw[amv] at hk
  simp only[wpListIn]
  have ih:=aeg hTb hnt hro hcm hF all hn rest
  rcases aaR h hk with ⟨h1,st1,h2,h3⟩ | ⟨h1,hdo,st1,h2,h3⟩
  ·rw[if_pos h1]
   exact af4 h2 hTb hnt hro hcm hF h3 fun st' E' a' w' hk' h' _=>ih st' E' a' w' hk' h'
  ·rw[if_neg (by simp[h1])]
   exact ⟨fun f _=>hF.fn f,aD h2 hnt hdo h3 (.val true undef) fun st' E' a' w' hk' h'=>ih st' E' a' w' hk' h'⟩
section
variable {F : Fence} {n : Nat} {P : Program} {ops : Array Oper} {Q : Exit → Act → World → Prop} {md : Region.Mode}
def l9 (P:Program) (ops:Array Oper) (R:World→Prop) (o:Oper) (v:Value) (a:Act):Prop:=
 (Region.wanted o (yielded ops a.tmps)=true∧(∀c,o.op≠.defer c)∧∀w,R w→(execOp a.eval o).run P w=.ok (.value v) w) ∨
 (Region.wanted o (yielded ops a.tmps)=false∧v=undef)
theorem l9.same {R:World→Prop} {o:Oper} {v:Value} {a a':Act} (h:l9 P ops R o v a) (he:execOp a'.eval o=execOp a.eval o) (hw:Region.wanted o (yielded ops a'.tmps)=Region.wanted o (yielded ops a.tmps)):l9 P ops R o v a':=by
 grind [l9]
theorem l9.op (hF:jq F) {R:World→Prop} {w:World} {i:Nat} {o:Oper} {v:Value} {a:Act} (hi:ops[i]?=some o) (h:l9 P ops R o v a) (hg:R w) {K:Act→World→Prop} (hk:K (a.put o.dst v) w):wpOpIn F 9 P ops Q i K a w:=by
 unfold wpOpIn
 simp only[hi]
 rcases h with ⟨h1,h2,h3⟩ | ⟨h1,rfl⟩
 ·rw[if_pos h1];grind [eG]
 ·rw[if_neg (by simp[h1])];exact ⟨fun f _=>hF.fn f,hk⟩
theorem aqF (hF:jq F) {w0:World→Prop} {j:Nat} {oi oj:Oper} {v:Value} (hj:ops[j]?=some oj) (hap:oi.apart ops oj=true) (hsi:∀cs b,oi.op≠.select cs b) (hsj:∀cs b,oj.op≠.select cs b) (hdj:∀c,oj.op≠.defer c)
  (hQ:∀c a w,¬Q (.panic c) a w) {K:Act→World→Prop} {a:Act} {w:World} (hy:l9 P ops w0 oi v a) (h:wpOpIn F 9 P ops Q j K (a.put oi.dst v) w) :
  wpOpIn F 9 P ops Q j (fun a' w'=>l9 P ops w0 oi v a'∧K (a'.put oi.dst v) w') a w:=by
 obtain ⟨p1,p2,p3⟩:=Oper.apart_spec hap
 have keep:∀u,l9 P ops w0 oi v (a.put oj.dst u):=fun u=>hy.same (execOp_put oi hsi a oj.dst u p3) (wanted_put oi a oj.dst u p3)
 have swap:∀u w',K ((a.put oi.dst v).put oj.dst u) w'→l9 P ops w0 oi v (a.put oj.dst u)∧K ((a.put oj.dst u).put oi.dst v) w':=fun u w' hk=>⟨keep u,by grind [Act.put_comm]⟩
 unfold wpOpIn at *
 simp only[hj] at *
 rw[wanted_put oj a oi.dst v p1] at h
 by_cases hw:Region.wanted oj (yielded ops a.tmps)=true
 ·rw[if_pos hw] at h ⊢
  refine ⟨fun f _=>hF.fn f,?_⟩
  have h2:=h.2
  rw[Oper.semAt_plain F _ _ hdj] at h2 ⊢
  rw[execOp_put oj hsj a oi.dst v p1] at h2
  generalize (execOp a.eval oj).run P w=r at h2 ⊢
  cases r with
  | halt x w'=>cases x<;>simp only[Oper.uponIn] at h2 ⊢;grind
  | ok x w'=>
   cases x<;>simp only[Oper.uponIn] at h2 ⊢
   case value u=>grind
   case skip=>grind
   case defer d=>
    refine ⟨(keep undef).same (by cases oj.dst<;>rfl) (by cases oj.dst<;>rfl),?_⟩
    grind [Act.put_comm,Act.put_defers]
   all_goals grind [CallsIn.mono,RowsIn.mono,RoundIn.mono]
 ·rw[if_neg hw] at h ⊢
  exact ⟨fun f _=>hF.fn f,swap undef w h.2⟩
def pz (F:Fence) (P:Program) (md:Region.Mode) (ops:Array Oper) (Q:Exit→Act→World→Prop) (g:Nat→World→World→Prop):Nat→Array Bool→Act→World→Prop
 | 0,listed,a,w=>Region.ready md ops listed=[]∧Q .normal a w
 | fuel+1,listed,a,w=>
  (Region.ready md ops listed=[]→Q .normal a w) ∧
  ∀i∈Region.ready md ops listed,wpOpIn F 9 P ops Q i (fun a' w'=>g i w w'∧pz F P md ops Q g fuel (listed.setIfInBounds i true) a' w') a w
theorem aj6 {g:Nat→World→World→Prop}:∀(fuel:Nat) (listed:Array Bool) (a:Act) (w:World),pz F P md ops Q g fuel listed a w→wpAnyIn F 9 P md ops Q fuel listed a w
 | 0,_,_,_,h=>h
 | fuel+1,_,_,_,h=>⟨h.1,fun i hi=>wpOpIn_mono (fun a' w' h'=>aj6 fuel _ a' w' h'.2) (h.2 i hi)⟩
def kL (md:Region.Mode) (ops:Array Oper) (i:Nat):Nat→Nat
 | 0=>0
 | k+1=>match ops[k]? with
  | none=>kL md ops i k
  | some o=>bif o.after.toList.any (fun e=>Region.binds md e&&(Nat.beq e.on i||Nat.testBit (kL md ops i k) e.on)) then Nat.lor (kL md ops i k) (Nat.shiftLeft 1 k) else kL md ops i k
def waits (md:Region.Mode) (ops:Array Oper) (i j:Nat):Bool:=Nat.testBit (kL md ops i ops.size) j
theorem ak0 (a b i:Nat):Nat.testBit (Nat.lor a b) i=(Nat.testBit a i||Nat.testBit b i):=Nat.testBit_or a b i
theorem amU (k i:Nat):Nat.testBit (Nat.shiftLeft 1 k) i=decide (i=k):=by
 show Nat.testBit (1 <<< k) i=_
 rw[Nat.testBit_shiftLeft]
 by_cases h:i=k
 ·subst h;simp
 ·by_cases h2:k≤i
  ·rw[decide_eq_true h2,decide_eq_false h,acP]
   obtain ⟨d,hd⟩:∃d,i-k=d+1:=⟨i-k-1,by omega⟩
   grind
  grind
theorem aev {i k x:Nat} (h:Nat.testBit (kL md ops i k) x=true):Nat.testBit (kL md ops i (k+1)) x=true:=by
 rw[kL]
 split
 ·exact h
 ·cases (Array.toList _).any _ with
  | true=>simp_all
  | false=>exact h
theorem acV {i j k:Nat} (h:Nat.testBit (kL md ops i (k+1)) j=true):Nat.testBit (kL md ops i k) j=true∨∃o,ops[j]?=some o∧∃e∈o.after,Region.binds md e=true∧(e.on=i∨Nat.testBit (kL md ops i k) e.on=true):=by
 rw[kL] at h
 split at h
 ·exact .inl h
 ·rename_i o ho
  cases hc:o.after.toList.any (fun e=>Region.binds md e&&(Nat.beq e.on i||Nat.testBit (kL md ops i k) e.on)) with
  | false=>grind
  | true=>
   rw[hc] at h
   simp only[cond_true] at h
   rw[ak0,amU,aru,decide_eq_true_eq] at h
   rcases h with h | h
   ·exact .inl h
   ·subst h
    obtain ⟨e,he,h1⟩:=al0.1 hc
    simp only[abj,aru] at h1
    grind [Nat.eq_of_beq_eq_true]
theorem aeb {i j:Nat}:∀{k:Nat},Nat.testBit (kL md ops i k) j=true→∃o,ops[j]?=some o∧∃e∈o.after,Region.binds md e=true∧(e.on=i∨Nat.testBit (kL md ops i k) e.on=true)
 | 0,h=>by grind [kL]
 | k+1,h=>by
  rcases acV h with h | ⟨o,ho,e,he,hb,h1⟩
  ·obtain ⟨o,ho,e,he,hb,h1⟩:=aeb h
   exact ⟨o,ho,e,he,hb,h1.imp id aev⟩
  ·exact ⟨o,ho,e,he,hb,h1.imp id aev⟩
theorem agj {i j:Nat} (h:waits md ops i j=true):∃o,ops[j]?=some o∧∃e∈o.after,Region.binds md e=true∧(e.on=i∨waits md ops i e.on=true):=aeb h
def acr (md:Region.Mode) (ops:Array Oper) (g:Nat→Bool) (listed:Array Bool) (i:Nat):Bool:=
 match ops[i]? with
 | none=>false
 | some oi=>(List.range ops.size).all fun j=>j==i||match listed.getD j true with
  | true=>!waits md ops i j
  | false=>match ops[j]? with
   | some oj=>waits md ops i j||(oi.apart ops oj&&(g j||!gX oi.op))
   | none=>true
theorem acB {g:Nat→Bool} {i:Nat} {oi:Oper} {listed:Array Bool} (hi:ops[i]?=some oi) (h:acr md ops g listed i=true) :
  (∀j,j≠i→listed.getD j true=true→waits md ops i j=false) ∧
  ∀(j:Nat) (oj:Oper),ops[j]?=some oj→j≠i→listed.getD j true=false→waits md ops i j=false→oi.apart ops oj=true∧(g j||!gX oi.op)=true:=by
 simp only[acr,hi,aot,auh] at h
 constructor
 ·grind [agj]
 grind
theorem afx (hF:jq F) {g:Nat→World→World→Prop} (hgr:∀i w,g i w w) {i:Nat} {oi:Oper} {v:Value} {R:World→Prop} {ok:Nat→Bool} (hRs:∀(j:Nat) (w w':World),R w→g j w w'→ok j=true→R w')
  (hi:ops[i]?=some oi) (hsel:∀(j:Nat) (o:Oper),ops[j]?=some o→(∀cs b,o.op≠.select cs b)∧∀c,o.op≠.defer c) (hQ:∀c a w,¬Q (.panic c) a w) :
  ∀(fuel:Nat) (listed:Array Bool) (a:Act) (w:World),
   (∀j,j≠i→listed.getD j true=true→waits md ops i j=false) →
   (∀j oj,ops[j]?=some oj→j≠i→listed.getD j true=false→waits md ops i j=false→oi.apart ops oj=true∧ok j=true) →
   i∈Region.ready md ops listed→l9 P ops R oi v a→R w→pz F P md ops Q g fuel (listed.setIfInBounds i true) (a.put oi.dst v) w→pz F P md ops Q g (fuel+1) listed a w:=by
 intro fuel
 induction fuel with
 | zero=>
  intro listed a w _ _ hr hy hg H
  refine ⟨fun h=>(by grind),fun j hj=>?_⟩
  by_cases hji:j=i
  ·subst hji;exact hy.op hF hi hg ⟨hgr _ w,H⟩
  ·have:=ready_mono hj hji
   rw[H.1] at this
   cases this
 | succ fuel ih=>
  intro listed a w hdone hfree hr hy hg H
  refine ⟨fun h=>(by grind),fun j hj=>?_⟩
  by_cases hji:j=i
  ·subst hji;exact hy.op hF hi hg ⟨hgr _ w,H⟩
  ·have h1:=H.2 j (ready_mono hj hji)
   obtain ⟨hjun,oj,hoj,hall⟩:=mem_ready.1 hj
   have hnot:waits md ops i j=false:=by
    grind [agj,mem_ready]
   obtain ⟨hap,hgj⟩:=hfree j oj hoj hji hjun hnot
   have h2:=aqF hF hoj hap (hsel i oi hi).1 (hsel j oj hoj).1 (hsel j oj hoj).2 hQ hy h1
   refine wpOpIn_mono (fun a' w' ⟨h3,h4,h5⟩=>⟨h4,?_⟩) h2
   refine ih (listed.setIfInBounds j true) a' w' (fun k hki hk=>?_) (fun k ok hk hki hun hno=>?_) (ready_mono hr (Ne.symm hji)) h3 (hRs j w w' hg h4 hgj) ?_
   ·by_cases hjk:j=k
    all_goals simp_all
   ·refine hfree k ok hk hki ?_ hno
    by_cases hjk:j=k
    all_goals simp_all
   grind [Array.setIfInBounds_comm]
end
def adS (ops:Array Oper) (i:Nat):Bool:=match ops[i]? with | some o=>jL o.op | none=>true
def OT.heads:OT→List Nat
 | .alt i _ u=>i :: u.heads
 | .altw i _ u=>i :: u.heads
 | _=>[]
def OT.wrs:OT→List Nat
 | .nm t=>t.wrs
 | .lim l _=>l
 | .set _ t=>t.wrs
 | .rd _ _ t=>t.wrs
 | .one _ t=>t.wrs
 | .alt _ t u=>t.wrs++u.wrs
 | .altw i t u=>i :: (t.wrs++u.wrs)
 | .wr i t=>i :: t.wrs
 | _=>[]
def abP (ops:Array Oper) (l:List Nat) (i:Nat):Bool:=adS ops i&&!(iK i l)
def akb (ops:Array Oper) (i:Nat):Bool:=match ops[i]? with
 | some o=>agR o.op
 | none=>false
def isLoad:Op→Bool
 | .load _ _=>true
 | _=>false
def nk:List Nat→Bool
 | []=>true
 | d :: l=>!(iK d l)&&nk l
def asT (ops:Array Oper) (j:Nat):Bool:=match ops[j]? with
 | some o=>match o.dst with
  | some _=>true
  | none=>false
 | none=>false
def xE (ops:Array Oper) (j:Nat):List Nat:=match ops[j]? with
 | some o=>afZ o
 | none=>[]
def ae4 (ops:Array Oper):List Nat→Array Bool→Bool
 | [],_=>true
 | i :: l,listed=>(xE ops i).all (fun e=>listed.getD e false)&&ae4 ops l (listed.setIfInBounds i true)
def nE (l:List Nat) (listed:Array Bool):Array Bool:=l.foldl (fun a i=>a.setIfInBounds i true) listed
def aj7 (ops:Array Oper) (A:qd) (listed:Array Bool):Bool:=
 listed.size.beq ops.size&&(A.l.all (fun j=>j.blt ops.size&&(!(listed.getD j true)&&asT ops j))&&(nk A.l&&(nk (A.l.map (wo ops.toList))&&(A.own.all (fun q=>iK q A.l) &&
 (A.l.all (fun i=>(A.u i).all fun q=>iK q A.own&&((q.beq i)||(xE ops i).any fun k=>iK k A.l&&iK q (A.u k))) &&
 (ae4 ops A.l listed&&((List.range ops.size).all (fun j=>iK j A.l||(listed.getD j true||A.l.all fun i=>waits .any ops i j)) &&
 (List.range ops.size).all (fun k=>!(listed.getD k false)||(xE ops k).all fun e=>listed.getD e false))))))))
def gu (ops:Array Oper) (g:Nat→Bool):OT→Bool→Nat→Array Bool→Bool
 | .done,first,fuel,listed=>first&&(Nat.beq fuel 0&&(Region.ready .any ops listed).isEmpty)
 | .one i t,first,fuel+1,listed=>
  first&&((match ops[i]? with
  | some o=>match rM o.op with
   | true=>(Region.ready .any ops listed).contains i&&acr .any ops g listed i
   | false=>Region.ready .any ops listed==[i]
  | none=>false)&&gu ops g t true fuel (listed.setIfInBounds i true))
 | .wr i t,first,fuel+1,listed=>
  first&&((match ops[i]? with
  | some o=>match rM o.op with
   | true=>false
   | false=>Region.ready .any ops listed==[i]&&!(g i)
  | none=>false)&&gu ops g t true fuel (listed.setIfInBounds i true))
 | .alt i t u,first,fuel+1,listed=>
  (!first||Region.ready .any ops listed==i :: u.heads)&&(gu ops g t true fuel (listed.setIfInBounds i true)&&gu ops g u false (fuel+1) listed)
 | .altw i t u,first,fuel+1,listed=>
  (!first||Region.ready .any ops listed==i :: u.heads)&&((match ops[i]? with
  | some o=>!(rM o.op)&&!(g i)
  | none=>false)&&(gu ops g t true fuel (listed.setIfInBounds i true)&&gu ops g u false (fuel+1) listed))
 | .rd i l t,first,fuel+1,listed=>
  first&&(((match ops[i]? with
  | some o=>isLoad o.op&&((Region.ready .any ops listed).contains i&&acr .any ops (fun j=>g j||(akb ops j&&l.contains j)) listed i)
  | none=>false))&&gu ops g t true fuel (listed.setIfInBounds i true))
 | .nm t,first,fuel,listed=>first&&gu ops g t true fuel listed
 | .lim _ t,first,fuel,listed=>first&&gu ops g t true fuel listed
 | .set A t,first,fuel,listed=>first&&(aj7 ops A listed&&(Nat.ble A.l.length fuel&&gu ops g t true (fuel-A.l.length) (nE A.l listed)))
 | .stop,first,_,_=>!first
 | _,_,_,_=>false
def afn (ops:Array Oper) (ord:OT):Bool:=
 (ops.all fun o=>match o.op with | .select ..=>false | .defer _=>false | _=>true)&&gu ops (abP ops ord.wrs) ord true ops.size (Array.replicate ops.size false)
def nM (Ts:Nat→Bool) (w w':World):Prop:=w.heap.size≤w'.heap.size∧∀b,b<w.heap.size→(∀cs T fr,w.heap[b]?=some (.cells cs T fr)→Ts T=false)→w'.heap[b]?=w.heap[b]?
theorem nM.refl (Ts:Nat→Bool) (w:World):nM Ts w w:=⟨abm _,fun _ _ _=>rfl⟩
theorem nM.trans {Ts:Nat→Bool} {a b c:World} (h:nM Ts a b) (k:nM Ts b c):nM Ts a c:=
 ⟨aiT h.1 k.1,fun x hx hT=>(k.2 x (alk hx h.1) (fun cs T fr e=>hT cs T fr ((h.2 x hx hT).symm.trans e))).trans (h.2 x hx hT)⟩
theorem Grow.toT {Ts:Nat→Bool} {w w':World} (h:Grow w w'):nM Ts w w':=⟨h.1,fun b hb _=>h.2 b hb⟩
theorem sQ.toT {Ts:Nat→Bool} {e:Nat} {w w':World} (h:sQ e w w') (he:Ts e=true):nM Ts w w':=
 ⟨h.1,fun b hb hT=>h.2 b hb fun cs fr hc=>by grind⟩
def kG (Tb:Tab) (ops:Array Oper) (g:Nat→Bool) (i:Nat) (w w':World):Prop:=(g i=true→Grow w w')∧(∀o,ops[i]?=some o→agR o.op=true→nM (wE Tb [o]) w w')
theorem kG.refl {Tb:Tab} {ops:Array Oper} {g:Nat→Bool} (i:Nat) (w:World):kG Tb ops g i w w:=⟨fun _=>Grow.refl w,fun _ _ _=>nM.refl _ w⟩
theorem alf {Tb:Tab} {o:Oper} {s x:Operand} {t t':TypeId} {e:Nat} (ho:o.op=.call ⟨.builtin .append,⟨[s,x]⟩,⟨[t,t']⟩⟩) (he:elemOf Tb t=some e):∀{l:List Oper},o∈l→wE Tb l e=true
 | [],h=>by cases h
 | p :: l,h=>by
  unfold elemOf at he
  split at he
  case h_2=>cases he
  rename_i _ _ _ _ hl
  cases he
  rcases ahy.1 h with rfl | h
  ·simp_all [wE]
  ·have ih:=alf (Tb:=Tb) ho (e:=e) (by grind [elemOf]) h
   unfold wE
   grind
theorem ale {Tb:Tab} {o:Oper} {T:Nat} (h:wE Tb [o] T=true):∀{l:List Oper},o∈l→wE Tb l T=true
 | [],hm=>by cases hm
 | p :: l,hm=>by
  rcases ahy.1 hm with rfl | hm
  ·unfold wE at h ⊢
   split
   ·rename_i ho
    rw[ho] at h
    simp only at h
    split
    all_goals simp_all [wE]
   grind [wE]
  ·have ih:=ale h hm
   unfold wE
   grind
theorem nM.sub {Ts Us:Nat→Bool} {w w':World} (h:nM Ts w w') (hs:∀T,Ts T=true→Us T=true):nM Us w w':=
 ⟨h.1,fun b hb hT=>h.2 b hb fun cs T fr e=>by
  grind⟩
theorem ahY {all:List Oper} {j:Nat} {o:Oper} (ho:nth all j=some o):∀{l:List Nat},j∈l→o∈picks all l
 | [],h=>by cases h
 | i :: l,h=>by
  unfold picks
  rcases ahy.1 h with rfl | h
  ·rw[ho];exact auO ..
  ·have ih:=ahY ho h
   split
   ·exact arP _ ih
   ·exact ih
theorem akp {gr:Bool} {C:Ctx} {E:Env} {st:St} {a:Act} {w:World} (h:av C E st a w) {X:aY} (hTb:X.Tb.Ok X.P) (hnt:C.nt=X.nt) (hro:C.ro=X.ro) {F:Fence} (hcm:CX C X F) {o:Oper} (hap:agR o.op=true)
  {all:List Oper} (hmem:o∈all) (hF:jq F) {K:St→Prop} (hk:step X gr o st K) {next:Act→World→Prop} {Q:Exit→Act→World→Prop}
  (hn:∀st' E' a' w',K st'→av C E' st' a' w'→nM (wE X.Tb all) w w'→next a' w'):o.wpIn F 9 X.P a w next Q:=by
 unfold agR at hap
 split at hap
 case h_2=>cases hap
 rename_i s x t t' ho
 have hnd:∀c',o.op≠.defer c':=by simp[ho]
 have hfl:rM o.op=false:=by rw[ho];rfl
 unfold step step0 at hk
 rw[hfl] at hk
 cases hd:bY X.nt o.dst with
 | false=>grind
 | true=>
  simp only[hd,ait,ho,acf] at hk
  have hn2:∀st' E' a' w',aiP X o.dst st' K→av C E' st' a' w'→(∃e,elemOf X.Tb t=some e∧sQ e w w')→next a' w':=by
   intro st' E' a' w' hk' h' ⟨e,he,hg⟩
   exact ach h' hnt hcm.m hd hk' fun st2 E2 a2 w2 hk2 h2 hw=>hn st2 E2 a2 w2 hk2 h2 (by rw[hw];exact hg.toT (alf ho he hmem))
  cases htt:t.beq t' with
  | false=>
   simp only[htt] at hk
   obtain ⟨v',w',hr,hnx⟩:=acA h hTb hnt hcm.m hd (aI h s) (aI h x) hk hn2 o.type
   refine eG hF hnd (v:=v') (w':=w') ?_ hnx
   simp_all [execOp,resolve,invoke,builtin]
  | true=>
   obtain rfl:=acD htt
   simp only[htt] at hk
   obtain ⟨v',w',hr,hnx⟩:=acL h hTb hnt hro hcm.m hd (aI h s) (aI h x) hk hn2 o.type
   refine eG hF hnd (v:=v') (w':=w') ?_ hnx
   simp_all [execOp,resolve,invoke,builtin]
theorem ai9 {C:Ctx} {E:Env} {st:St} {a:Act} {w:World} (h:av C E st a w) {X:aY} (hTb:X.Tb.Ok X.P) (hnt:C.nt=X.nt) {o:Oper} {all:List Oper} {K:St→Prop} (hk:agf X all o st K) {next:Act→World→Prop}
  (hn:∀st' E' a' w',K st'→av C E' st' a' w'→next a' w'):o.guard=none∧aV (nM (wE X.Tb all) w) X.P o a w next:=by
 unfold agf at hk
 split at hk
 case h_2=>exact hk.elim
 rename_i T x hg ho hd
 refine ⟨hg,?_⟩
 split at hk
 case h_2=>exact hk.elim
 rename_i d size _ _ hi
 split at hk
 case h_2=>exact hk.elim
 rename_i i off hbig hx
 split at hk
 case h_2=>exact hk.elim
 rename_i T' cs hob
 split at hk
 case h_2=>exact hk.elim
 rename_i hap
 split at hk
 case h_2=>exact hk.elim
 rename_i s hr
 have hxv:=aI h x
 rw[hx] at hxv
 obtain ⟨b,hb,hxe⟩:=ji hxv
 obtain ⟨b',vs,hb',hw,hA⟩:=(h.heap.ob i _ hob).l6
 rw[hb] at hb';cases hb'
 have hc:pR E (fun k=>w.cell? ⟨b,0+k,none⟩) cs:=fun k s hs=>by
  obtain ⟨u,hu,h1,h2⟩:=hA.at k s hs
  grind [World.cell?]
 obtain ⟨v,hv,hs⟩:=yN (hTb _ _ hi) hc hr
 refine aV.mk' (v:=v) (fun w1 hg1=>?_) (aD h hnt hd hk hs hn)
 have hsame:w1.heap[b]?=w.heap[b]?:=hg1.2 b (acG.1 hw).1 fun cs2 T2 fr2 e2=>by grind
 simp_all [World.cell?,execOp,Instr.loadAt,Instr.sureAddr]
theorem av.weak {C:Ctx} {E:Env} {st st':St} {a:Act} {w:World} (h:av C E st a w) (hs:∀t,st'.get t=st.get t∨st'.get t=.any) (ho:st'.ob=st.ob) (hno:st'.no=st.no) (hk:st'.k=st.k):av C E st' a w:=by
 have ho:∀i,st'.obj i=st.obj i:=fun i=>by grind [St.obj]
 refine ⟨h.size,fun t=>?_,⟨fun i o hi=>h.heap.ob i o ((ho i).symm.trans hi),fun i j o o' b hi hj=>h.heap.sep i j o o' b ((ho i).symm.trans hi) ((ho j).symm.trans hj),fun i o b hi=>h.heap.own i o b ((ho i).symm.trans hi),h.heap.mem,h.heap.mem0,h.heap.memnew,by rw[hno];exact h.heap.new,h.heap.base,h.heap.fr,h.heap.hd0,by rw[hno];exact h.heap.mno,h.heap.mkh,by rw[hk];exact h.heap.kk⟩,h.marks⟩
 rcases hs t with e | e
 ·rw[e];exact h.slot t
 ·rw[e];exact .any _
theorem aeh {all:List Oper} {g g':Nat→SV} {fr:List (Nat×SV)} {i t:Nat} (ht:t≠wo all i):∀{l:List Nat},(∀j∈l,j≠i→g' j=g j)→look (qj all g' fr l) t=look (qj all g fr l) t
 | [],_=>rfl
 | j :: l,h=>by
  simp only[qj,bq]
  by_cases e:wo all j=t
  ·grind
  ·rw[if_neg e,if_neg e];exact aeh ht fun j hj=>h j (arP _ hj)
theorem aej {all:List Oper} {g:Nat→SV} {fr:List (Nat×SV)} {i:Nat}:∀{l:List Nat},i∈l→nk (l.map (wo all))=true→look (qj all g fr l) (wo all i)=some (g i)
 | j :: l,hi,ha=>by
  simp only[qj,bq]
  simp only[awv,nk,abj,aoF] at ha
  rcases ahy.1 hi with rfl | hi
  ·grind
  ·rw[if_neg,aej hi ha.2]
   grind [fU]
theorem ac1 {all:List Oper} {g:Nat→SV} {fr:List (Nat×SV)} {t:Nat}:∀{l:List Nat},(∀j∈l,g j=.any)→look (qj all g fr l) t=look fr t∨look (qj all g fr l) t=some .any
 | [],_=>.inl rfl
 | j :: l,h=>by
  simp only[qj,bq]
  by_cases e:wo all j=t
  all_goals simp_all [ac1]
theorem aaP {all:List Oper} {g g':Nat→SV} {fr:List (Nat×SV)}:∀{l:List Nat},(∀j∈l,g' j=g j)→qj all g' fr l=qj all g fr l
 | [],_=>rfl
 | j :: l,h=>by simp only[qj];rw[h j (auO ..),aaP fun j hj=>h j (arP _ hj)]
theorem acy {P:Nat→Prop}:∀{l:List Nat} {i:Nat},y8 P l→i∈l→P i
 | j :: l,i,h,hi=>by
  rcases ahy.1 hi with rfl | hi
  ·exact h.1
  ·exact acy h.2 hi
theorem ajV {p q:Nat}:∀{l:List Nat},q∈l→q≠p→q∈aeG p l
 | j :: l,hq,hne=>by
  unfold aeG
  cases hb:j.beq p with
  | true=>
   rcases ahy.1 hq with rfl | hq
   ·exact absurd (acD hb) hne
   ·exact hq
  | false=>
   rcases ahy.1 hq with rfl | hq
   ·exact auO ..
   ·exact arP _ (ajV hq hne)
theorem aec {p:Nat}:∀{l:List Nat},p∈l→(aeG p l).length+1=l.length
 | j :: l,hp=>by
  unfold aeG
  cases hb:j.beq p with
  | true=>rfl
  | false=>
   rcases ahy.1 hp with rfl | hp
   ·simp at hb
   ·simp only[apl,aec hp]
theorem afB {P:List Nat→Prop}:∀(n:Nat) (own σ ρ:List Nat),own.length=n→wU P n own ρ→σ.Nodup→(∀q∈σ,q∈own)→P (σ.reverse++ρ)
 | 0,own,σ,ρ,hl,h,hn,hs=>by
  cases σ with
  | nil=>exact h
  | cons p σ=>grind [List.mem_cons_self]
 | n+1,own,σ,ρ,hl,h,hn,hs=>by
  cases σ with
  | nil=>exact h.1
  | cons p σ=>
   have hp:=hs p (auO ..)
   rw[axw] at hn
   have:=afB n (aeG p own) σ (p :: ρ) (by have:=aec hp;omega) (acy h.2 hp) hn.2 fun q hq=>ajV (hs q (arP _ hq)) fun e=>hn.1 (e▸hq)
   simpa using this
theorem afd {P:List Nat→Prop} {own ρ:List Nat} (h:wU P own.length own []) (hn:ρ.Nodup) (hs:∀q∈ρ,q∈own):P ρ:=by
 have:=afB own.length own ρ.reverse [] rfl h (List.pairwise_reverse.2 (hn.imp Ne.symm)) fun q hq=>hs q (List.mem_reverse.1 hq)
 grind
theorem aoh {no i:Nat} {ρ us:List Nat} (hi:i∉ρ) (hu:∀q∈us,q∈ρ):nums no (i :: ρ) us=nums no ρ us:=by
 grind [nums,List.map_congr_left,Nat.eq_of_beq_eq_true,numOf]
def tO (ops:Array Oper) (listed:Array Bool):Prop:=∀k o,ops[k]?=some o→listed.getD k false=true→∀e∈o.after,Region.binds .any e=true→listed.getD e.on false=true
theorem tO.reach {ops:Array Oper} {listed:Array Bool} (h:tO ops listed) {i:Nat}:∀(k j:Nat),Nat.testBit (kL .any ops i k) j=true→(∀o,ops[j]?=some o→∀e∈o.after,Region.binds .any e=true→listed.getD e.on false=true)→listed.getD i false=true
 | 0,j,hw,_=>by grind [kL]
 | k+1,j,hw,hd=>by
  rcases acV hw with hw | ⟨o,ho,e,he,hb,h1⟩
  ·exact tO.reach h k j hw hd
  ·have h2:=hd o ho e he hb
   rcases h1 with h1 | h1
   ·rw[←h1];exact h2
   ·exact tO.reach h k e.on h1 fun o' ho' e' he' hb'=>h e.on o' ho' h2 e' he' hb'
theorem tO.waits {ops:Array Oper} {listed:Array Bool} (h:tO ops listed) {i:Nat} (j:Nat) (hw:waits .any ops i j=true) (hd:∀o,ops[j]?=some o→∀e∈o.after,Region.binds .any e=true→listed.getD e.on false=true):listed.getD i false=true:=h.reach _ j hw hd
theorem asn {l:Array Bool} {i:Nat} (h:l.getD i true=false):l.getD i false=false:=by
 grind
theorem atG {l:Array Bool} {i:Nat} (h:l.getD i false=true):l.getD i true=true:=by
 grind
theorem ap8 {l:Array Bool} {i:Nat} (h:l.getD i false=false) (hi:i<l.size):l.getD i true=false:=by
 grind
theorem aoB {l:Array Bool} {i:Nat} (h:l.getD i true=false):i<l.size:=by
 grind
theorem zl {l:Array Bool} {i j:Nat}:(l.setIfInBounds i true).getD j true=if i=j then true else l.getD j true:=by
 by_cases e:i=j
 all_goals simp_all
theorem agD {l:List Nat} {j:Nat}:∀{a:Array Bool},(nE l a).getD j true=if j∈l then true else a.getD j true:=by
 induction l with
 | nil=>grind [nE]
 | cons i l ih=>
  intro a
  have:nE (i :: l) a=nE l (a.setIfInBounds i true):=rfl
  rw[this,ih,zl]
  grind
theorem agW {l:List Nat}:∀{a:Array Bool},(nE l a).size=a.size:=by
 induction l with
 | nil=>intro a;rfl
 | cons i l ih=>intro a;exact (ih (a:=a.setIfInBounds i true)).trans (by simp)
theorem alC {listed:Array Bool} {i:Nat} (hu:listed.getD i true=false):∀{l:List Nat},nk l=true→i∈l→(l.filter fun j=>!(listed.setIfInBounds i true).getD j true).length+1=(l.filter fun j=>!listed.getD j true).length
 | j :: l,ha,hi=>by
  simp only[nk,abj,aoF] at ha
  by_cases e:i=j
  ·subst e
   rw[List.filter_cons_of_neg (by simp_all),List.filter_cons_of_pos (by rw[hu];rfl),apl]
   congr 2
   refine List.filter_congr fun k hk=>?_
   rw[zl,if_neg]
   grind [fU]
  ·have hi:=(ahy.1 hi).resolve_left e
   have ih:=alC hu ha.2 hi
   cases hj:listed.getD j true with
   | true=>simp_all
   | false=>simp_all
theorem abR {o:Oper} {k:Nat}:k∈afZ o↔∃e∈o.after,Region.binds .any e=true∧e.on=k:=by
 grind [afZ]
theorem afW {ops:Array Oper} {listed:Array Bool}:∀(l:List Nat) (lx:Array Bool),ae4 ops l lx=true→(∀k,lx.getD k false=true→listed.getD k false=true)→(∀j∈l,j<ops.size)→listed.size=ops.size→(∃j∈l,listed.getD j true=false)→Region.ready .any ops listed≠[]
 | [],_,_,_,_,_,⟨j,hj,_⟩=>by cases hj
 | i :: l,lx,ht,hx,hs,hz,⟨j,hj,hu⟩=>by
  simp only[ae4,abj,aot] at ht
  have hi:=hs i (auO ..)
  cases hl:listed.getD i true with
  | false=>
   intro h0
   have:i∈Region.ready .any ops listed:=mem_ready.2 ⟨hl,ops[i],acC hi,fun e he hb=>hx _ (ht.1 _ (by
    grind [xE,abR]))⟩
   grind
  | true=>
   refine afW l _ ht.2 (fun k hk=>?_) (fun j hj=>hs j (arP _ hj)) hz ⟨j,(ahy.1 hj).resolve_left (fun e=>by grind),hu⟩
   by_cases e:i=k
   all_goals simp_all
structure aw8 (ops:Array Oper) (A:qd) (listed0 listed:Array Bool) (ρ:List Nat):Prop where
 size:listed.size=ops.size
 out:∀j,j∉A.l→listed.getD j true=listed0.getD j true
 closed:tO ops listed
 nodup:ρ.Nodup
 own:∀q∈ρ,q∈A.own∧listed.getD q true=true
 all:∀q∈A.own,listed.getD q true=true→q∈ρ
 use:∀j∈A.l,listed.getD j true=true→∀q∈A.u j,q∈ρ
def vM (A:qd) (no:Nat) (ρ:List Nat) (listed:Array Bool) (j:Nat):SV:=bif listed.getD j true then A.f j (nums no ρ (A.u j)) else .any
structure auw (ops:Array Oper) (A:qd) (listed:Array Bool):Prop where
 size:listed.size=ops.size
 un:∀j∈A.l,j<ops.size∧listed.getD j true=false
 nd:nk A.l=true
 nd2:nk (A.l.map (wo ops.toList))=true
 own:∀q∈A.own,q∈A.l
 use:∀i∈A.l,∀q∈A.u i,q∈A.own∧(q=i∨∃k∈xE ops i,k∈A.l∧q∈A.u k)
 ae4:ae4 ops A.l listed=true
 others:∀j,j<ops.size→j∉A.l→listed.getD j true=false→∀i∈A.l,waits .any ops i j=true
 closed:tO ops listed
theorem akV {ops:Array Oper} {A:qd} {listed:Array Bool} (h:aj7 ops A listed=true):auw ops A listed:=by
 simp only[aj7,abj,aru,aot,al0,auh,aoF,fU,Nat.beq_eq_true_eq] at h
 obtain ⟨h1,h2,h3,h4,h5,h6,h7,h8,h9⟩:=h
 refine ⟨acD h1,fun j hj=>⟨by simp_all,(h2 j hj).2.1⟩,h3,h4,h5,fun i hi q hq=>⟨(h6 i hi q hq).1,(h6 i hi q hq).2.imp acD id⟩,h7,fun j hj hn hu i hi=>?_,fun k o ho hl e he hb=>?_⟩
 all_goals grind [xE,abR]
section
variable {C : Ctx} {X : aY} (hTb : X.Tb.Ok X.P) (hnt : C.nt = X.nt) (hro : C.ro = X.ro) {F : Fence} (hcm : CX C X F) (hF : jq F) (ops : Array Oper) (hsel : ∀ (j : Nat) (o : Oper), ops[j]? = some o → (∀ cs b, o.op ≠ .select cs b) ∧ ∀ c, o.op ≠ .defer c)
  {K:St→Prop} {Q:Exit→Act→World→Prop} (hQ:∀c a w,¬Q (.panic c) a w) {g:Nat→Bool} (hg0:∀i,g i=true→adS ops i=true)
include hTb hnt hro hcm hF hsel hQ hg0
theorem qX {gr:Bool} {i fuel:Nat} {o:Oper} (hgr:gr=true∨(g i=false∧rM o.op=false)) (hoi:ops[i]?=some o) {st:St} {E:Env} {a:Act} {w:World} {listed:Array Bool} {V:St→Prop}
  (ih:∀st' E' a' w',V st'→av C E' st' a' w'→pz F X.P .any ops Q (kG X.Tb ops g) fuel (listed.setIfInBounds i true) a' w')
  (hk:stepG X gr ops.toList o st V) (h:av C E st a w) :
  wpOpIn F 9 X.P ops Q i (fun a' w'=>kG X.Tb ops g i w w'∧pz F X.P .any ops Q (kG X.Tb ops g) fuel (listed.setIfInBounds i true) a' w') a w:=by
 rcases aaR h hk with ⟨h1,st1,h2,h3⟩ | ⟨h1,hdo,st1,h2,h3⟩
 ·cases hfl:rM o.op with
  | true=>
   obtain rfl:gr=true:=hgr.resolve_right (by simp[hfl])
   unfold step step0 at h3
   rw[hfl] at h3
   cases hd:bY X.nt o.dst with
   | false=>grind
   | true=>
    simp only[hd] at h3
    obtain ⟨v,hv,hnx⟩:=adF (R:=Grow w) (next:=fun a' w'=>pz F X.P .any ops Q (kG X.Tb ops g) fuel (listed.setIfInBounds i true) a' w') h2 hTb hnt hcm.m (fun _ hg _=>hg) hd h3 (fun st' E' a' w' hk' h'=>ih st' E' a' w' hk' h')
    exact l9.op hF hoi (.inl ⟨h1,(hsel i o hoi).2,hv⟩) (Grow.refl w) ⟨kG.refl i w,hnx⟩
  | false=>
   unfold wpOpIn
   simp only[hoi]
   rw[if_pos h1]
   cases hap:agR o.op with
   | true=>
    have hng:¬g i=true:=fun hgi=>by
     have:=hg0 i hgi
     simp only[adS,hoi] at this
     unfold agR at hap
     grind [jL]
    exact akp (all:=[o]) h2 hTb hnt hro hcm hap (auO ..) hF h3 fun st' E' a' w' hk' h' hT=>⟨⟨fun hgi=>absurd hgi hng,fun o2 ho2 _=>by grind⟩,ih st' E' a' w' hk' h'⟩
   | false=>
    exact af4 h2 hTb hnt hro hcm hF h3 fun st' E' a' w' hk' h' hg=>⟨⟨fun hgi=>hg (hgr.resolve_right (by simp[hgi])) (by grind [adS]),fun o2 ho2 hA=>by grind⟩,ih st' E' a' w' hk' h'⟩
 ·unfold wpOpIn
  simp only[hoi]
  rw[if_neg (by simp[h1])]
  exact ⟨fun f _=>hF.fn f,dY (next:=fun a' w'=>kG X.Tb ops g i w w'∧pz F X.P .any ops Q (kG X.Tb ops g) fuel (listed.setIfInBounds i true) a' w') h2 hnt hdo h3 (.val true undef) fun st' E' a' w' hk' h' hw=>⟨by grind [kG.refl],ih st' E' a' w' hk' h'⟩⟩
theorem ah2 {A:qd} {st0:St} {listed0:Array Bool} {fuel0:Nat} (hc:auw ops A listed0) (hgo:wU (fun ρ=>y8 (fun i=>yc X ops.toList A st0 ρ i) A.l) A.own.length A.own [])
  (hleaf:∀ρ E a w,ρ.Nodup→(∀q∈ρ,q∈A.own)→(∀q∈A.own,q∈ρ)→av C E (agY ops.toList A st0 ρ) a w→pz F X.P .any ops Q (kG X.Tb ops g) fuel0 (nE A.l listed0) a w) :
  ∀(n:Nat) (listed:Array Bool) (ρ:List Nat) (E:Env) (a:Act) (w:World),aw8 ops A listed0 listed ρ→(A.l.filter fun j=>!listed.getD j true).length=n →
   av C E (setSt ops.toList A st0 (vM A st0.no ρ listed) ρ) a w→pz F X.P .any ops Q (kG X.Tb ops g) (n+fuel0) listed a w
 | 0,listed,ρ,E,a,w,hi,hn,hM=>by
  have hall:∀j∈A.l,listed.getD j true=true:=fun j hj=>by
   simp_all
  have e:listed=nE A.l listed0:=by
   refine Array.ext (by rw[agW,hc.size,hi.size]) fun k h1 h2=>?_
   have h3:listed.getD k true=(nE A.l listed0).getD k true:=by
    rw[agD]
    by_cases hk:k∈A.l
    ·grind
    ·rw[if_neg hk,hi.out k hk]
   simp_all
  rw[ajv,e]
  refine hleaf ρ E a w hi.nodup (fun q hq=>(hi.own q hq).1) (fun q hq=>hi.all q hq (hall q (hc.own q hq))) ?_
  grind [setSt,vM,agY,aaP]
 | n+1,listed,ρ,E,a,w,hi,hn,hM=>by
  obtain ⟨i0,hi0,hu0⟩:∃j∈A.l,listed.getD j true=false:=by
   cases hf:A.l.filter fun j=>!listed.getD j true with
   | nil=>grind
   | cons j t=>
    grind [List.mem_cons_self]
  rw[Nat.succ_add]
  refine ⟨fun h0=>absurd h0 (afW A.l listed0 hc.ae4 (fun k hk=>?_) (fun j hj=>(hc.un j hj).1) hi.size ⟨i0,hi0,hu0⟩),fun i hr=>?_⟩
  ·have hkl:k∉A.l:=fun h=>by have:=asn (hc.un k h).2;grind
   have h1:=hi.out k hkl
   rw[atG hk] at h1
   cases h:listed.getD k false with
   | true=>rfl
   | false=>
    have hks:k<listed0.size:=by
     grind
    rw[ap8 h (by have:=hi.size;have:=hc.size;omega)] at h1;cases h1
  ·obtain ⟨hu,oi,hoi,hdep⟩:=mem_ready.1 hr
   have his:=(acG.1 hoi).1
   have hil:i∈A.l:=by
    rcases Classical.em (i∈A.l) with h | h
    ·exact h
    ·exfalso
     have:=hi.closed.waits i (hc.others i his h ((hi.out i h).symm.trans hu) i0 hi0) fun o ho e he hb=>by grind
     grind
   have hir:i∉ρ:=fun h=>by have:=(hi.own i h).2;grind
   have hdl:∀k∈xE ops i,listed.getD k true=true:=fun k hk=>by
    grind [xE,abR]
   have huse:∀q∈A.u i,q=i∨q∈ρ:=fun q hq=>(hc.use i hil q hq).2.imp id fun ⟨k,hk,hkl,hqk⟩=>hi.use k hkl (hdl k hk) q hqk
   have hgoal:yc X ops.toList A st0 ρ i:=acy (afd (P:=fun ρ=>y8 (fun i=>yc X ops.toList A st0 ρ i) A.l) hgo hi.nodup fun q hq=>(hi.own q hq).1) hil
   unfold yc at hgoal
   have e1:iK i ρ=false:=by grind [fU]
   have e2:akw A i ρ=true:=by
    simp_all [akw,fU]
   rw[e1,e2] at hgoal
   simp only[fT,aer,hoi] at hgoal
   have hgoal:=hgoal (vM A st0.no ρ listed)
   have eg:∀j∈A.l,agF A st0.no ρ i oi (vM A st0.no ρ listed) j=vM A st0.no ρ listed j:=by
    grind [agF,xE,fU,vM,Nat.eq_of_beq_eq_true]
   have est:setSt ops.toList A st0 (agF A st0.no ρ i oi (vM A st0.no ρ listed)) ρ=setSt ops.toList A st0 (vM A st0.no ρ listed) ρ:=by grind [setSt,aaP]
   rw[est] at hgoal
   refine qX hTb hnt hro hcm hF ops hsel hQ hg0 (.inl rfl) hoi (fun st' E' a' w' hk' h'=>?_) hgoal hM
   have hsz:i<listed.size:=aoB hu
   have hsub:∀q∈nu A i ρ,q=i∨q∈ρ:=fun q hq=>by
    grind [nu]
   have hsup:∀q∈ρ,q∈nu A i ρ:=fun q hq=>by
    grind [nu]
   have hself:i∈A.own→i∈nu A i ρ:=fun h=>by grind [nu,fU]
   refine ah2 hc hgo hleaf n (listed.setIfInBounds i true) (nu A i ρ) E' a' w' ⟨by simp[hi.size],fun j hj=>?_,fun k o ho hl e he hb=>?_,?_,fun q hq=>?_,fun q hq hl=>?_,fun j hj hl q hq=>?_⟩ ?_ ?_
   ·rw[getD_set_ne true (fun e:i=j=>hj (by grind))];exact hi.out j hj
   ·by_cases eq:i=k
    ·grind [getD_set_true]
    ·rw[getD_set_ne false eq] at hl;exact getD_set_true (hi.closed k o ho hl e he hb)
   ·unfold nu
    split
    ·exact axw.2 ⟨hir,hi.nodup⟩
    ·exact hi.nodup
   ·have h1:q∈A.own:=by
     unfold nu at hq
     split at hq
     ·rename_i ho
      rcases ahy.1 hq with rfl | hq
      ·grind [fU]
      ·exact (hi.own q hq).1
     ·exact (hi.own q hq).1
    refine ⟨h1,?_⟩
    rw[zl]
    split
    ·rfl
    ·rename_i hne;exact (hi.own q ((hsub q hq).resolve_left (Ne.symm hne))).2
   ·rw[zl] at hl
    by_cases e:i=q
    ·grind
    ·rw[if_neg e] at hl;exact hsup q (hi.all q hq hl)
   ·rw[zl] at hl
    by_cases e:i=j
    ·subst e
     rcases huse q hq with h | h
     ·subst h;exact hself (hc.use q hil q hq).1
     grind
    ·rw[if_neg e] at hl;exact hsup q (hi.use j hj hl q hq)
   ·have:=alC hu hc.nd hil;omega
   ·refine h'.weak (fun t=>.inl ?_) (by rw[hk'.ob];rfl) (by rw[hk'.no];rfl) (by rw[hk'.k];rfl)
    unfold St.get
    rw[hk'.fr]
    have hkeep:∀j∈A.l,j≠i→vM A st0.no (nu A i ρ) (listed.setIfInBounds i true) j=agF A st0.no ρ i oi (vM A st0.no ρ listed) j:=by
     intro j hj hne
     rw[eg j hj]
     unfold vM
     rw[getD_set_ne true (Ne.symm hne)]
     cases hl:listed.getD j true with
     | false=>rfl
     | true=>
      simp only[cond_true]
      unfold nu
      split
      ·rw[aoh hir (hi.use j hj hl)]
      ·rfl
    by_cases e:t=wo ops.toList i
    ·subst e
     rw[bq,if_pos rfl]
     simp only[setSt]
     rw[aej hil hc.nd2]
     simp_all [vM]
    ·rw[bq,if_neg (Ne.symm e)]
     grind [setSt,aeh]
theorem iO (hn : ∀ st' E' a' w', K st' → av C E' st' a' w' → Q .normal a' w') : ∀ (t : OT) (first : Bool) (fuel : Nat) (listed : Array Bool) (st : St) (E : Env) (a : Act) (w : World), gu ops g t first fuel listed = true → jv X ops.toList t st K → av C E st a w →
      (first = true → pz F X.P .any ops Q (kG X.Tb ops g) fuel listed a w) ∧
      ∀ n, fuel = n + 1 → ∀ i ∈ t.heads, wpOpIn F 9 X.P ops Q i (fun a' w' => kG X.Tb ops g i w w' ∧ pz F X.P .any ops Q (kG X.Tb ops g) n (listed.setIfInBounds i true) a' w') a w
  | .done, first, fuel, listed, st, E, a, w, ho, hk, h => by
    simp only [gu, abj, List.isEmpty_iff] at ho
    obtain ⟨rfl, hf, he⟩ := ho
    obtain rfl := acD hf
    exact ⟨fun _ => ⟨he, hn st E a w hk h⟩, fun n hn => by omega⟩
  | .stop, first, fuel, listed, st, E, a, w, ho, hk, h => by
    cases first with
    | true => grind [gu]
    | false => exact ⟨fun h => (by cases h), fun n _ i hi => (by cases hi)⟩
  | .one i t, first, 0, listed, st, E, a, w, ho, hk, h => by simp [gu] at ho
  | .wr i t, first, 0, listed, st, E, a, w, ho, hk, h => by simp [gu] at ho
  | .wr i rest, first, fuel + 1, listed, st, E, a, w, ho, hk, h => by
    refine ⟨fun _ => ?_, fun n _ j hj => by cases hj⟩
    simp only [gu, abj] at ho
    obtain ⟨-, ho, hrest⟩ := ho
    simp only [afG, ahq, acj, fT, aer] at hk
    have ih := fun st' E' a' w' hk' h' => (iO hn rest true fuel (listed.setIfInBounds i true) st' E' a' w' hrest hk' h').1 rfl
    cases hoi : ops[i]? with
    | none => grind
    | some o =>
      simp only [hoi] at ho hk
      cases hfl : rM o.op with
      | true => grind
      | false =>
        simp only [hfl, abj, beq_iff_eq, aoF] at ho
        refine ⟨fun h0 => (by grind), fun j hj => ?_⟩
        rw [ho.1] at hj
        obtain rfl : j = i := by simpa using hj
        exact qX hTb hnt hro hcm hF ops hsel hQ hg0 (.inr ⟨ho.2, hfl⟩) hoi ih hk h
  | .alt i t u, first, 0, listed, st, E, a, w, ho, hk, h => by simp [gu] at ho
  | .alt i t u, first, fuel + 1, listed, st, E, a, w, ho, hk, h => by
    simp only [gu, abj, aru, aoF, beq_iff_eq] at ho
    obtain ⟨hr, h1, h2⟩ := ho
    rw [acj] at hk
    obtain ⟨hk1, hk2⟩ := hk
    have ih1 := iO hn t
    have ih2 := (iO hn u false (fuel + 1) listed st E a w h2 hk2 h).2
    simp only [fT, aer] at hk1
    have all : ∀ n, fuel + 1 = n + 1 → ∀ j ∈ (OT.alt i t u).heads, wpOpIn F 9 X.P ops Q j (fun a' w' => kG X.Tb ops g j w w' ∧ pz F X.P .any ops Q (kG X.Tb ops g) n (listed.setIfInBounds j true) a' w') a w := by
      intro n hnn j hj
      obtain rfl : fuel = n := by omega
      rcases ahy.1 hj with rfl | hj
      · cases hoi : ops[j]? with
        | none => grind
        | some o =>
          simp only [hoi] at hk1
          exact qX hTb hnt hro hcm hF ops hsel hQ hg0 (.inl rfl) hoi (fun st' E' a' w' hk' h' => (ih1 true fuel _ st' E' a' w' h1 hk' h').1 rfl) hk1 h
      grind
    refine ⟨fun hf => ?_, all⟩
    subst hf
    have hr : Region.ready .any ops listed = i :: u.heads := by simpa using hr
    refine ⟨fun h0 => (by grind), fun j hj => ?_⟩
    rw [hr] at hj
    exact all fuel rfl j hj
  | .altw i t u, first, 0, listed, st, E, a, w, ho, hk, h => by simp [gu] at ho
  | .altw i t u, first, fuel + 1, listed, st, E, a, w, ho, hk, h => by
    simp only [gu, abj, aru, aoF, beq_iff_eq] at ho
    obtain ⟨hr, hw, h1, h2⟩ := ho
    rw [akR] at hk
    obtain ⟨hk1, hk2⟩ := hk
    have ih1 := iO hn t
    have ih2 := (iO hn u false (fuel + 1) listed st E a w h2 hk2 h).2
    simp only [fT, aer] at hk1
    have all : ∀ n, fuel + 1 = n + 1 → ∀ j ∈ (OT.altw i t u).heads, wpOpIn F 9 X.P ops Q j (fun a' w' => kG X.Tb ops g j w w' ∧ pz F X.P .any ops Q (kG X.Tb ops g) n (listed.setIfInBounds j true) a' w') a w := by
      intro n hnn j hj
      obtain rfl : fuel = n := by omega
      rcases ahy.1 hj with rfl | hj
      · cases hoi : ops[j]? with
        | none => grind
        | some o =>
          simp only [hoi] at hk1 hw
          simp only [abj, aoF] at hw
          exact qX hTb hnt hro hcm hF ops hsel hQ hg0 (.inr ⟨hw.2, hw.1⟩) hoi (fun st' E' a' w' hk' h' => (ih1 true fuel _ st' E' a' w' h1 hk' h').1 rfl) hk1 h
      grind
    refine ⟨fun hf => ?_, all⟩
    subst hf
    have hr : Region.ready .any ops listed = i :: u.heads := by simpa using hr
    refine ⟨fun h0 => (by grind), fun j hj => ?_⟩
    rw [hr] at hj
    exact all fuel rfl j hj
  | .nm t, first, fuel, listed, st, E, a, w, ho, hk, h => by
    refine ⟨fun _ => ?_, fun n _ j hj => by cases hj⟩
    simp only [gu, abj] at ho
    rw [aoJ] at hk
    exact (iO hn t true fuel listed _ E a w ho.2 hk.out h.norm).1 rfl
  | .lim l t, first, fuel, listed, st, E, a, w, ho, hk, h => by
    refine ⟨fun _ => ?_, fun n _ j hj => by cases hj⟩
    simp only [gu, abj] at ho
    rw [amq] at hk
    exact (iO hn t true fuel listed st E a w ho.2 hk h).1 rfl
  | .set A t, first, fuel, listed, st, E, a, w, ho, hk, h => by
    refine ⟨fun _ => ?_, fun n _ j hj => by cases hj⟩
    simp only [gu, abj, Nat.ble_eq] at ho
    obtain ⟨-, hc, hle, hrest⟩ := ho
    have hc := akV hc
    rw [am7] at hk
    have hun : A.l.filter (fun j => !listed.getD j true) = A.l := List.filter_eq_self.2 fun j hj => by rw [(hc.un j hj).2]; rfl
    have := ah2 hTb hnt hro hcm hF ops hsel hQ hg0 hc hk.1 (fun ρ E a w hnd hsub hall hM => by
      refine (iO hn t true (fuel - A.l.length) _ _ E a w hrest ?_ hM).1 rfl
      grind [afd, ahe, fU]) A.l.length listed [] E a w ⟨hc.size, fun _ _ => rfl, hc.closed, awp, (fun q hq => by cases hq), (fun q hq hl => by rw [(hc.un q (hc.own q hq)).2] at hl; cases hl), (fun j hj hl => by grind)⟩ (by rw [hun]) (h.weak (fun t => by
        grind [St.get, ac1, vM, setSt]) rfl rfl rfl)
    grind
  | .rd i l t, first, 0, listed, st, E, a, w, ho, hk, h => by simp [gu] at ho
  | .rd i l rest, first, fuel + 1, listed, st, E, a, w, ho, hk, h => by
    refine ⟨fun _ => ?_, fun n _ j hj => by cases hj⟩
    simp only [gu, abj] at ho
    obtain ⟨-, ho, hrest⟩ := ho
    simp only [aoq] at hk
    rw [fT] at hk
    simp only [aer] at hk
    have ih := fun st' E' a' w' hk' h' => (iO hn rest true fuel (listed.setIfInBounds i true) st' E' a' w' hrest hk' h').1 rfl
    cases hoi : ops[i]? with
    | none => grind
    | some o =>
      simp only [hoi] at ho hk
      simp only [abj, awt, decide_eq_true_eq] at ho
      obtain ⟨hld, hrdy, hcl⟩ := ho
      obtain ⟨hc1, hc2⟩ := acB hoi hcl
      obtain ⟨hgn, v, hv, hnx⟩ := ai9 (next := fun a' w' => pz F X.P .any ops Q (kG X.Tb ops g) fuel (listed.setIfInBounds i true) a' w') h hTb hnt hk (fun st' E' a' w' hk' h' => ih st' E' a' w' hk' h')
      have hrh : gX o.op = true := by
        unfold isLoad at hld
        split at hld
        · rename_i ho; rw [ho]; rfl
        · cases hld
      refine afx (ok := fun j => g j || (akb ops j && decide (j ∈ l))) (R := nM (wE X.Tb (picks ops.toList l)) w) hF kG.refl (fun j w1 w2 h1 hr hj => h1.trans ?_) hoi hsel hQ fuel listed a w hc1 (fun j oj hj hji hun hno => ?_) hrdy (.inl ⟨by grind [Region.wanted], (hsel i o hoi).2, hv⟩) (nM.refl _ w) hnx
      · rcases Bool.or_eq_true_iff.1 hj with hj | hj
        · exact (hr.1 hj).toT
        · simp only [abj, decide_eq_true_eq] at hj
          obtain ⟨h1, h2⟩ := hj
          unfold akb at h1
          split at h1
          · rename_i oj hoj
            exact (hr.2 oj hoj h1).sub fun T hT => ale hT (ahY (by grind [fT]) h2)
          · cases h1
      grind
  | .one i rest, first, fuel + 1, listed, st, E, a, w, ho, hk, h => by
    refine ⟨fun _ => ?_, fun n _ j hj => by cases hj⟩
    simp only [gu, abj] at ho
    obtain ⟨-, ho, hrest⟩ := ho
    simp only [afG, ahq, acj, fT, aer] at hk
    have ih := fun st' E' a' w' hk' h' => (iO hn rest true fuel (listed.setIfInBounds i true) st' E' a' w' hrest hk' h').1 rfl
    cases hoi : ops[i]? with
    | none => grind
    | some o =>
      simp only [hoi] at ho hk
      cases hfl : rM o.op with
      | true =>
        simp only [hfl, abj, awt, decide_eq_true_eq] at ho
        obtain ⟨R, hRw, hRr, hRs⟩ : ∃ R : World → Prop, R w ∧ (∀ w1, R w1 → gX o.op = true → Grow w w1) ∧ ∀ (j : Nat) (w1 w2 : World), R w1 → kG X.Tb ops g j w1 w2 → (g j || !gX o.op) = true → R w2 := by
          cases hrh : gX o.op with
          | true => exact ⟨Grow w, Grow.refl w, fun _ h _ => h, fun b w1 w2 h hb hbb => h.trans (hb.1 (by grind))⟩
          | false => exact ⟨fun _ => True, trivial, fun _ _ h => (by cases h), fun _ _ _ _ _ _ => trivial⟩
        obtain ⟨hc1, hc2⟩ := acB hoi ho.2
        have go : ∀ v, l9 X.P ops R o v a → pz F X.P .any ops Q (kG X.Tb ops g) fuel (listed.setIfInBounds i true) (a.put o.dst v) w → pz F X.P .any ops Q (kG X.Tb ops g) (fuel + 1) listed a w := fun v hy H =>
          afx (ok := fun j => g j || !gX o.op) hF kG.refl hRs hoi hsel hQ fuel listed a w hc1 hc2 ho.1 hy hRw H
        rcases aaR h hk with ⟨h1, st1, h2, h3⟩ | ⟨h1, hdo, st1, h2, h3⟩
        · unfold step step0 at h3
          rw [hfl] at h3
          cases hd : bY X.nt o.dst with
          | false => grind
          | true =>
            simp only [hd] at h3
            obtain ⟨v, hv, hnx⟩ := adF (R := R) (next := fun a' w' => pz F X.P .any ops Q (kG X.Tb ops g) fuel (listed.setIfInBounds i true) a' w') h2 hTb hnt hcm.m hRr hd h3 (fun st' E' a' w' hk' h' => ih st' E' a' w' hk' h')
            exact go v (.inl ⟨h1, (hsel i o hoi).2, hv⟩) hnx
        · exact go undef (.inr ⟨h1, rfl⟩) (aD (next := fun a' w' => pz F X.P .any ops Q (kG X.Tb ops g) fuel (listed.setIfInBounds i true) a' w') h2 hnt hdo h3 (.val true undef) fun st' E' a' w' hk' h' => ih st' E' a' w' hk' h')
      | false =>
        simp only [hfl, beq_iff_eq] at ho
        refine ⟨fun h0 => (by grind), fun j hj => ?_⟩
        rw [ho] at hj
        obtain rfl : j = i := by simpa using hj
        exact qX hTb hnt hro hcm hF ops hsel hQ hg0 (.inl rfl) hoi ih hk h
end
theorem av.drew {C:Ctx} {E:Env} {st:St} {a:Act} {w:World} (h:av C E st a w):av C E st a { w with drawn:=w.drawn+1 }:=
 ⟨h.size,h.slot,⟨fun i o ho=>(h.heap.ob i o ho).world fun _ _=>rfl,h.heap.sep,h.heap.own,h.heap.mem,h.heap.mem0,h.heap.memnew,h.heap.new,h.heap.base,⟨h.heap.fr.os,h.heap.fr.tape,h.heap.fr.output,h.heap.fr.bsz,h.heap.fr.wsz,h.heap.fr.wos,h.heap.fr.isz,h.heap.fr.block,h.heap.fr.sync⟩,h.heap.hd0,h.heap.mno,h.heap.mkh,h.heap.kk⟩,h.marks⟩
def ag0 (Q:Exit→Act→World→Prop):Exit→Act→World→Prop
 | .panic _,_,_=>False
 | e,a,w=>Q e a w
theorem akO {Q:Exit→Act→World→Prop} (e:Exit) (a:Act) (w:World) (h:ag0 Q e a w):Q e a w:=by
 cases e<;>first | exact h | exact h.elim
theorem aea {C:Ctx} {X:aY} (hm:X.P.follows .mixedOrders=true) (hTb:X.Tb.Ok X.P) (hnt:C.nt=X.nt) (hro:C.ro=X.ro) {F:Fence} (hcm:CX C X F) (hF:jq F) {id:Nat} {ops:Array Oper} {ord:OT} (ho:afn ops ord=true)
  {K:St→Prop} {Q:Exit→Act→World→Prop} (hn:∀st' E' a' w',K st'→av C E' st' a' w'→Q .normal a' w') {st:St} {E:Env} {a:Act} {w:World} (hk:jv X ops.toList ord st K) (h:av C E st a w) :
  (Code.region id ops true).wpIn F 9 X.P Q a w:=by
 simp only[afn,abj] at ho
 obtain ⟨h1,h3⟩:=ho
 refine wpIn_mono (Q:=ag0 Q) (wpIn_region_any hm (aj6 (g:=kG X.Tb ops (abP ops ord.wrs)) _ _ _ _ ?_)) akO
 refine (iO (Q:=ag0 Q) hTb hnt hro hcm hF ops (fun j o hj=>?_) (fun c a w h=>h) (g:=abP ops ord.wrs) (fun i hi=>by simp_all [abP]) (fun st' E' a' w' hk' h'=>hn st' E' a' w' hk' h') ord true _ _ st E a _ h3 hk h.drew).1 rfl
 grind
theorem aiQ {C:Ctx} {X:aY} (hTb:X.Tb.Ok X.P) (hnt:C.nt=X.nt) (hro:C.ro=X.ro) {F:Fence} (hcm:CX C X F) (hF:jq F) {id:Nat} {ops:Array Oper}
  {K:St→Prop} {Q:Exit→Act→World→Prop} (hn:∀st' E' a' w',K st'→av C E' st' a' w'→Q .normal a' w') {st:St} {E:Env} {a:Act} {w:World} (hk:af5 X ops.toList ops.toList st K) (h:av C E st a w) :
  (Code.region id ops false).wpIn F 9 X.P Q a w:=
 wpIn_region_list (aeg hTb hnt hro hcm hF ops hn ops.toList st E a w hk h)
inductive fP:PV→PV→Prop
 | refl (d:PV):fP d d
 | nil (f:Nat→List PV):fP (.val (.slice none 0 0)) (.seq 0 f)
 | seq (n:Nat) (f g:Nat→List PV) (hl:∀j,j<n→(f j).length=(g j).length)
   (he:∀(j k:Nat) (s s':PV),j<n→(f j)[k]?=some s→(g j)[k]?=some s'→fP s s'):fP (.seq n f) (.seq n g)
 | pt (l l':List PV) (o:Nat) (hl:l.length=l'.length) (he:∀(k:Nat) (s s':PV),l[k]?=some s→l'[k]?=some s'→fP s s'):fP (.pt l o) (.pt l' o)
 | agg (l l':List PV) (hl:l.length=l'.length) (he:∀(k:Nat) (s s':PV),l[k]?=some s→l'[k]?=some s'→fP s s'):fP (.agg l) (.agg l')
 | tup (l l':List PV) (hl:l.length=l'.length) (he:∀(k:Nat) (s s':PV),l[k]?=some s→l'[k]?=some s'→fP s s'):fP (.tup l) (.tup l')
theorem wP {α:Type} {l m:List α} (h:l.length=m.length) {k:Nat} {s:α} (hs:m[k]?=some s):∃t,l[k]?=some t:=
 ⟨_,aav (by grind)⟩
theorem wK {μ:Nat→Option (Array Value)} {d d':PV} (h:fP d d'):∀{v:Value},aS μ v d→aS μ v d':=by
 induction h with
 | refl d=>grind
 | nil f=>intro v h;cases h;exact .nil f
 | seq n f g hl he ih=>
  intro v h
  cases h with
  | nil=>exact .nil g
  | emp a cap=>exact .emp a cap g
  | seq b o n cap sz f cs u hm hcap hmax hl' hc he'=>
   refine .seq b o n cap sz g cs u hm hcap hmax (fun j hj=>(hl j hj).symm.trans (hl' j hj)) (fun j k s hj hs=>?_) (fun j k s hj hs=>?_)
   all_goals grind
 | pt l l' o hl he ih=>
  intro v h
  cases h with
  | pt b o off l cs u hm hc he'=>
   refine .pt b o _ l' cs u hm (fun k s hs=>?_) (fun k s hs=>?_)
   all_goals grind
 | agg l l' hl he ih=>
  intro v h
  cases h with
  | agg vs l hl' h1 he'=>
   refine .agg vs l' (hl'.trans hl) h1 (fun k u s hu hs=>?_)
   grind
 | tup l l' hl he ih=>
  intro v h
  cases h with
  | tup vs l hl' he'=>
   refine .tup vs l' (hl'.trans hl) (fun k u s hu hs=>?_)
   grind
def cu (l m:List PV):Prop:=l.length=m.length∧∀(k:Nat) (s s':PV),l[k]?=some s→m[k]?=some s'→fP s s'
theorem cu.rfl' (l:List PV):cu l l:=⟨rfl,fun k s s' h h'=>by rw[h] at h';cases h';exact .refl _⟩
theorem cu.of {l m:List PV} (h:l=m):cu l m:=h▸cu.rfl' l
def adC:List Oper→List Nat
 | []=>[]
 | o :: l=>match o.dst with
  | some d=>d :: adC l
  | none=>adC l
def tK:Code→List Nat
 | .region _ ops _=>adC ops.toList
 | .seq a b=>tK a++tK b
 | .cond _ a b=>tK a++tK b
 | .block _ c=>tK c
 | .loop c=>tK c
 | _=>[]
def dropKeys (W:List Nat):List (Nat×SV)→List (Nat×SV)
 | []=>[]
 | (t,s) :: l=>match iK t W with
  | true=>dropKeys W l
  | false=>(t,s) :: dropKeys W l
def iF:Nat→List LV→List SV
 | _,[]=>[]
 | no,.s s :: l=>s :: iF no l
 | no,.ob _ :: l=>.any :: iF no l
 | no,.rw _ _ _ _ :: l=>.row no :: iF (no+1) l
 | no,.rws _ _ _ _ :: l=>.row no :: iF (no+1) l
 | no,.ps d :: l=>.p false d :: iF no l
def rowsOf:Nat→List LV→List (Nat×Option Ob)
 | _,[]=>[]
 | no,.s _ :: l=>rowsOf no l
 | no,.ob _ :: l=>rowsOf no l
 | no,.rw T sz n f :: l=>(no,some (.row T sz n f)) :: rowsOf (no+1) l
 | no,.rws T sz n f :: l=>(no,some (.row T sz n f)) :: rowsOf (no+1) l
 | no,.ps _ :: l=>rowsOf no l
def iG:Nat→List LV→Nat
 | no,[]=>no
 | no,.s _ :: l=>iG no l
 | no,.ob _ :: l=>iG no l
 | no,.rw _ _ _ _ :: l=>iG (no+1) l
 | no,.rws _ _ _ _ :: l=>iG (no+1) l
 | no,.ps _ :: l=>iG no l
def keysOf {α:Type}:List (Nat×α)→List Nat
 | []=>[]
 | (t,_) :: l=>t :: keysOf l
def dN {α:Type}:List (Nat×α)→List α
 | []=>[]
 | (_,v) :: l=>v :: dN l
def abN:List Nat→List SV→List (Nat×SV)
 | t :: ts,s :: ss=>(t,s) :: abN ts ss
 | _,_=>[]
structure UO where
 i:Nat
 T:TypeId
 l:List LV
def oh:List LV→Option Ob
 | [.ob o]=>some o
 | _=>none
def om:Nat→List UO→List (Nat×Option Ob)
 | _,[]=>[]
 | no,u :: us=>match oh u.l with
  | some o=>(u.i,some o) :: om no us
  | none=>(u.i,some (.cells u.T (iF no u.l))) :: (rowsOf no u.l++om (iG no u.l) us)
def adP:Nat→List UO→Nat
 | no,[]=>no
 | no,u :: us=>adP (iG no u.l) us
def dh:List UO→List Nat
 | []=>[]
 | u :: us=>u.i :: dh us
def iW (st : St) (W G : List Nat) (ups : List (Nat × LV)) (uos : List UO) (c : Option Nat) : St :=
  { fr := abN (keysOf ups) (iF st.no (dN ups)) ++ dropKeys W st.fr
    ob := rowsOf st.no (dN ups) ++ (om (iG st.no (dN ups)) uos ++ jM G st.ob)
    no := adP (iG st.no (dN ups)) uos
    k := c }
def aiq (no:Nat):SV→Bool
 | .p _ _=>true
 | .own i _=>i.blt no
 | .any=>true
 | .mp i=>i.blt no
 | _=>false
def aiD (no:Nat):List SV→Bool
 | []=>true
 | s :: l=>(aiq no s).and (aiD no l)
def apJ (s c:SV):Prop:=
 match c with
 | .any=>True
 | .p b d=>match s with
  | .p b' d'=>(b=true→b'=true)∧kY d' d
  | _=>False
 | .own i o=>match s with
  | .own i' o'=>i'=i∧o'=o
  | _=>False
 | .mp i=>match s with
  | .mp i'=>i'=i
  | _=>False
 | _=>False
def u6 (st:St) (no:Nat) (s:SV):LV→Prop
 | .s (.fn f l)=>s=.fn f l∧aiD no l=true
 | .s c=>apJ s c∧aiq no c=true
 | .rw T sz n f=>match s with
  | .row j=>match st.obj j with
   | some (.row T' sz' n' f')=>T'=T∧sz'=sz∧n'=n∧∀k,k<n'→f' k=f k
   | _=>False
  | .p _ (.val (.slice none 0 0))=>n=0
  | _=>False
 | .ob _=>False
 | .rws T sz n f=>match s with
  | .row j=>match st.obj j with
   | some (.row T' sz' n' f')=>T'=T∧sz'=sz∧n'=n∧∀k,k<n'→cu (f' k) (f k)
   | _=>False
  | .p _ (.val (.slice none 0 0))=>n=0
  | _=>False
 | .ps d=>match s with
  | .p _ d'=>fP d' d
  | _=>False
def kg (st:St) (no:Nat):List SV→List LV→Prop
 | [],[]=>True
 | [s],[c]=>u6 st no s c
 | s :: ss,c :: cs=>u6 st no s c∧kg st no ss cs
 | _,_=>False
def dV:List SV→List LV→List Nat
 | .row j :: ss,.rw _ _ _ _ :: cs=>j :: dV ss cs
 | .row j :: ss,.rws _ _ _ _ :: cs=>j :: dV ss cs
 | _ :: ss,_ :: cs=>dV ss cs
 | _,_=>[]
def getAll (st:St):List Nat→List SV
 | []=>[]
 | t :: l=>st.get t :: getAll st l
def iB (st:St) (i:Nat) (T:TypeId):Option (List SV):=
 match st.obj i with
 | some (.cells T' cs)=>match T'.beq T with
  | true=>some cs
  | false=>none
 | _=>none
def uJ (st:St) (i:Nat) (o:Ob):Prop:=
 match o with
 | .cells _ _=>False
 | .row _ _ _ _=>False
 | .arr T n f=>match st.obj i with
  | some (.arr T' n' f')=>T'=T∧n'=n∧∀k,k<n→f' k=f k
  | _=>False
 | .map kt n get=>match st.obj i with
  | some (.map kt' n' get')=>kt'=kt∧n'=n∧∀k,get' k=get k
  | _=>False
def tZ (st:St) (no:Nat):List UO→Prop
 | []=>True
 | u :: us=>(match oh u.l with
  | some o=>uJ st u.i o
  | none=>match iB st u.i u.T with
   | some cs=>kg st no cs u.l
   | none=>False)∧tZ st no us
def jI (st:St):List UO→List Nat
 | []=>[]
 | u :: us=>(match iB st u.i u.T with
  | some cs=>dV cs u.l
  | none=>[])++jI st us
def allRows (st:St) (ups:List (Nat×LV)) (uos:List UO):List Nat:=dV (getAll st (keysOf ups)) (dN ups)++jI st uos
def adR (no:Nat):List Nat→Bool
 | []=>true
 | j :: l=>(j.blt no).and (adR no l)
def ac7 (ro no:Nat):List Nat→Bool
 | []=>true
 | u :: us=>((ro.ble u).and (u.blt no)).and (ac7 ro no us)
def yO {α:Type}:List α→List α→Nat
 | _ :: a,_ :: b=>yO a b
 | a,[]=>a.length
 | [],_=>0
def aaY {α:Type} (no:Nat) (P:List Nat):Nat→List (Nat×α)→Bool
 | 0,_=>true
 | _+1,[]=>true
 | n+1,(t,_) :: l=>((no.ble t).or (iK t P)).and (aaY no P n l)
def apC (X:aY) (st:St) (W G:List Nat) (ups:List (Nat×LV)) (uos:List UO):Prop:=
 (distinct (keysOf ups)=true∧adR X.nt (keysOf ups)=true∧distinct (dh uos)=true∧ac7 X.ro st.no (dh uos)=true∧distinct G=true∧lu X.m G=true) ∧
  kg st st.no (getAll st (keysOf ups)) (dN ups)∧tZ st st.no uos
def af8 (st0 hd st:St) (W:List Nat) (ups:List (Nat×LV)) (uos:List UO):Prop:=
 dropKeys W st.fr=dropKeys W hd.fr ∧
 (dH (yO st.ob hd.ob) st.ob=hd.ob∧aaY st0.no (dh uos) (yO st.ob hd.ob) st.ob=true) ∧
 (distinct (allRows st ups uos)=true∧lu st0.no (allRows st ups uos)=true) ∧
 kg st st0.no (getAll st (keysOf ups)) (dN ups)∧tZ st st0.no uos
def aa3:List SV→(List SV→Prop)→Prop
 | [],K=>K []
 | s :: l,K=>adr s fun s=>aa3 l fun l=>K (s :: l)
theorem abq:∀(l:List SV) (K:List SV→Prop),aa3 l K=K l
 | [],K=>rfl
 | s :: l,K=>by simp only[aa3,acQ,abq]
def ajR (o:Option Ob) (K:Option Ob→Prop):Prop:=
 match o with
 | none=>K none
 | some (.cells T cs)=>aa3 cs fun cs=>K (some (.cells T cs))
 | some (.row T sz n f)=>K (some (.row T sz n f))
 | some (.arr T n f)=>K (some (.arr T n f))
 | some (.map kt n get)=>K (some (.map kt n get))
theorem aoR (o:Option Ob) (K:Option Ob→Prop):ajR o K=K o:=by
 unfold ajR;split<;>first | rfl | exact abq _ _
def ad5:List (Nat×SV)→(List (Nat×SV)→Prop)→Prop
 | [],K=>K []
 | (t,s) :: l,K=>adr s fun s=>ad5 l fun l=>K ((t,s) :: l)
theorem agm:∀(l:List (Nat×SV)) (K:List (Nat×SV)→Prop),ad5 l K=K l
 | [],K=>rfl
 | (t,s) :: l,K=>by simp only[ad5,acQ,agm]
def ad6:List (Nat×Option Ob)→(List (Nat×Option Ob)→Prop)→Prop
 | [],K=>K []
 | (t,s) :: l,K=>ajR s fun s=>ad6 l fun l=>K ((t,s) :: l)
theorem afO:∀(l:List (Nat×Option Ob)) (K:List (Nat×Option Ob)→Prop),ad6 l K=K l
 | [],K=>rfl
 | (t,s) :: l,K=>by simp only[ad6,aoR,afO]
def apk (n:Nat) (K:Nat→Prop):Prop:=match n with | 0=>K 0 | n+1=>K (n+1)
theorem aov (n:Nat) (K:Nat→Prop):apk n K=K n:=by cases n<;>rfl
def aoA (n:Option Nat) (K:Option Nat→Prop):Prop:=match n with | none=>K none | some n=>K (some n)
theorem apq (n:Option Nat) (K:Option Nat→Prop):aoA n K=K n:=by cases n<;>rfl
def vk (st:St) (K:St→Prop):Prop:=ad5 st.fr fun fr=>ad6 st.ob fun ob=>apk st.no fun no=>aoA st.k fun k=>K ⟨fr,ob,no,k⟩
theorem xJ (st:St) (K:St→Prop):vk st K=K st:=by simp only[vk,agm,afO,aov,apq]
noncomputable def rounds (f:St→(Exit→St→Prop)→Prop) (Q:Exit→St→Prop) (n:Nat):St→Prop:=
 Nat.rec (motive:=fun _=>St→Prop) (fun _=>False) (fun _ ih st=>f st fun e st'=>match e with
  | .normal=>ih st'
  | e=>Q e st') n
structure avy where
 X:Type
 up:X→List (Nat×LV)
 uo:X→List UO
 inv:X→Prop
 meas:X→Nat
 x0:X
 cnt:X→Option Nat:=fun _=>none
inductive mg:Type 1
 | unroll (n:Nat)
 | inv (i:avy)
def alR (X:aY) (f:St→(Exit→St→Prop)→Prop) (Q:Exit→St→Prop) (st:St) (L:avy) (W G:List Nat):Prop:=
 (apC X st W G (L.up L.x0) (L.uo L.x0)∧st.k=L.cnt L.x0)∧L.inv L.x0 ∧
  ∀x,L.inv x→vk (iW st W G (L.up x) (L.uo x) (L.cnt x)) fun hd=>f hd fun e st'=>match e with
   | .normal=>∃x',(keysOf (L.up x')=keysOf (L.up x)∧dh (L.uo x')=dh (L.uo x))∧(af8 st hd st' W (L.up x') (L.uo x')∧st'.k=L.cnt x')∧L.inv x'∧L.meas x'<L.meas x
   | e=>Q e st'
structure ug where
 A:Type
 capt:A→List PV
 pre:A→Prop
 xs:A→List (List PV)
def awD (P:Program) (f:Nat):Prop:=∃fn,P.funcs[f]?=some fn∧fn.body.isSome=true∧(fn.name=="runtime.NumGoroutine")=false
def aga (P:Program) (g:Nat) (S:ug):Prop:=
 awD P g∧∀a,S.pre a→∀(μ:Nat→Option (Array Value)) (lb:Array Value),
  lb.size=(S.capt a).length→(∀(k:Nat) (u:Value) (s:PV),lb[k]?=some u→(S.capt a)[k]?=some s→aS μ u s)→ald P g lb μ (S.xs a)
structure RInv where
 X:Type
 uo:X→List UO
 inv:Nat→X→Prop
 x0:X
def apg (st0 hd st:St) (uos:List UO):Prop:=
 (dH (yO st.ob hd.ob) st.ob=hd.ob∧aaY st0.no (dh uos) (yO st.ob hd.ob) st.ob=true) ∧
 (distinct (jI st uos)=true∧lu st0.no (jI st uos)=true)∧tZ st st0.no uos
def aio:PV→Bool
 | .val _=>true
 | .agg l=>iy l
 | _=>false
def afu:List Nat→List PV→St→(St→Prop)→Prop
 | [],[],st,K=>K st
 | p :: ps,v :: vs,st,K=>aP st (some p) (.p (aio v) v) fun st=>afu ps vs st K
 | _,_,_,_=>False
def alm (X:aY) (st:St) (g:Operand) (ps:Array Tmp) (fa fb:St→(Exit→St→Prop)→Prop) (Q:Exit→St→Prop):Prop:=
 match st.ev g with
 | .p _ (.fn gf capt)=>(X.rnd=false∧adR X.nt ps.toList=true)∧∃S:ug,aga X.P gf S∧∃a:S.A,xH capt (S.capt a)∧S.pre a∧(∀x∈S.xs a,x.length=ps.size)∧∃L:RInv,
   (distinct (dh (L.uo L.x0))=true∧ac7 X.ro st.no (dh (L.uo L.x0))=true∧distinct (jI st (L.uo L.x0))=true∧lu X.m (jI st (L.uo L.x0))=true) ∧
   tZ st st.no (L.uo L.x0)∧L.inv 0 L.x0 ∧
   (∀(k:Nat) (x:L.X) (vs:List PV),L.inv k x→(S.xs a)[k]?=some vs→vk (iW st [] (jI st (L.uo L.x0)) [] (L.uo x) st.k) fun hd=>afu ps.toList vs hd fun hd'=>fa hd' fun e st1=>match e with
    | .normal=>fb st1 fun e st2=>match e with
     | .normal=>∃x',dh (L.uo x')=dh (L.uo x)∧apg st hd st2 (L.uo x')∧L.inv (k+1) x'
     | .ret=>Q .ret ⟨hd.fr,st2.ob,st2.no,st2.k⟩
     | .exit id=>Q (.exit id) ⟨hd.fr,st2.ob,st2.no,st2.k⟩
     | _=>False
    | _=>False) ∧
   ∀x,L.inv (S.xs a).length x→vk (iW st [] (jI st (L.uo L.x0)) [] (L.uo x) st.k) fun hd=>Q .normal hd
 | _=>False
noncomputable def vc (c:Code):aY→St→(Exit→St→Prop)→Prop:=
 Code.rec (motive:=fun _=>aY→St→(Exit→St→Prop)→Prop)
  (fun _ st Q=>Q .normal st)
  (fun _ ops draw X st Q=>match draw with
   | false=>af5 X ops.toList ops.toList st fun st'=>Q .normal st'
   | true=>∃ord:OT,afn ops ord=true∧jv X ops.toList ord st fun st'=>Q .normal st')
  (fun _ _ fa fb X st Q=>fa X st fun e st'=>match e with
   | .normal=>fb X st' Q
   | e=>Q e st')
  (fun c _ _ fa fb X st Q=>match st.ev c with
   | .p _ (.val (.bool t))=>oW t (fa X st Q) (fb X st Q)
   | _=>False)
  (fun id _ f X st Q=>f X st fun e st'=>match e with
   | .exit j=>match j.beq id with
    | true=>Q .normal st'
    | false=>Q (.exit j) st'
   | e=>Q e st')
  (fun c f X st Q=>∃L:mg,match L with
   | .unroll n=>rounds (f X) Q n st
   | .inv L=>alR X (f X) Q st L (tK c++keysOf (L.up L.x0)) (allRows st (L.up L.x0) (L.uo L.x0)))
  (fun g ps _ _ fa fb X st Q=>alm X st g ps (fa { X with rnd:=true,yl:=none }) (fb { X with rnd:=true,yl:=none }) Q)
  (fun id _ st Q=>Q (.exit id) st)
  (fun _ _ _ _ _=>False)
  (fun _ _ _ _=>False)
  (fun _ _ _ _=>False)
  (fun _ st Q=>Q .ret st)
  (fun _ _ _ _=>False) c
theorem atu (c:Operand) (a b:Code) (X:aY) (st:St) (Q:Exit→St→Prop):vc (.cond c a b) X st Q=match st.ev c with
  | .p _ (.val (.bool t))=>oW t (vc a X st Q) (vc b X st Q)
  | _=>False:=rfl
inductive qQ (no:Nat):SV→Prop
 | p (b d):qQ no (.p b d)
 | own (i off) (h:i<no):qQ no (.own i off)
 | row (i) (h:i<no):qQ no (.row i)
 | el (i sz j off) (h:i<no):qQ no (.el i sz j off)
 | sub (i sz lo n) (h:i<no):qQ no (.sub i sz lo n)
 | agg (l) (h:∀(k:Nat) s,l[k]?=some s→qQ no s):qQ no (.agg l)
 | tup (l) (h:∀(k:Nat) s,l[k]?=some s→qQ no s):qQ no (.tup l)
 | fn (f l) (h:∀(k:Nat) s,l[k]?=some s→qQ no s):qQ no (.fn f l)
 | full (n f):qQ no (.full n f)
 | any:qQ no .any
 | asl (i N lo n) (h:i<no):qQ no (.asl i N lo n)
 | mp (i) (h:i<no):qQ no (.mp i)
 | bnd (f l) (h:∀(k:Nat) s,l[k]?=some s→qQ no s):qQ no (.bnd f l)
theorem aL.lt {E:Env} {no:Nat} (hnew:∀i,no≤i→E.hd i=none) {v:Value} {s:SV} (h:aL E v s):qQ no s:=by
 have one:∀i u,E.hd i=some u→i<no:=fun i u hu=>by
  grind
 have vget:∀(vs:Array Value) (l:List SV),vs.size=l.length→∀(k:Nat) s,l[k]?=some s→∃u,vs[k]?=some u:=fun vs l hl k s hs=>⟨_,acC (by grind)⟩
 induction h with
 | p=>exact .p _ _
 | own i off b hb=>exact .own _ _ (one _ _ hb)
 | row i v hv _=>exact .row _ (one _ _ hv)
 | el i sz j off b n cap hv=>exact .el _ _ _ _ (one _ _ hv)
 | sub i sz lo n b n' cap c a hv _ _ _ _=>exact .sub _ _ _ _ (one _ _ hv)
 | agg vs l hl _ _ ih=>exact .agg _ fun k s hs=>by grind
 | tup vs l hl _ ih=>exact .tup _ fun k s hs=>by grind
 | fn f vs l hl _ ih=>exact .fn _ _ fun k s hs=>by grind
 | full a n f h=>exact .full _ _
 | any=>exact .any
 | asl i N lo n b c a hb _ _ _=>exact .asl _ _ _ _ (one _ _ hb)
 | mp i r hb=>exact .mp _ (one _ _ hb)
 | bnd f vs l hl _ ih=>exact .bnd _ _ fun k s hs=>by grind
theorem aS.move {E E':Env} (hmem:∀b cs,E.mem b=some cs→E'.mem b=some cs) (hbase:E'.tm=E.tm) {fr:Bool} {v:Value} {d:PV} (h:aS (E.m fr) v d):aS (E'.m fr) v d:=by
 refine h.mono fun b cs hb=>?_
 cases fr with
 | false=>exact hmem b cs hb
 | true=>
  simp_all [Env.m]
theorem aL.move {E E':Env} {no:Nat} (hhd:∀i,i<no→E'.hd i=E.hd i) (hmem:∀b cs,E.mem b=some cs→E'.mem b=some cs) (hbase:E'.tm=E.tm) {v:Value} {s:SV} (h:aL E v s):qQ no s→aL E' v s:=by
 induction h with
 | p fr v d h=>exact fun _=>.p fr v d (h.move hmem hbase)
 | own i off b hb=>intro hs;cases hs with | own _ _ hi=>exact .own _ _ b (by grind)
 | row i v hv hsl=>intro hs;cases hs with | row _ hi=>exact .row _ _ (by grind) hsl
 | el i sz j off b n cap hb=>intro hs;cases hs with | el _ _ _ _ hi=>exact .el _ _ _ _ b n cap (by grind)
 | sub i sz lo n b n' cap c a hb hle hc hr ha=>intro hs;cases hs with | sub _ _ _ _ hi=>exact .sub _ _ _ _ b n' cap c a (by grind) hle hc hr ha
 | agg vs l hl h1 _ ih=>intro hs;cases hs with | agg _ hh=>exact .agg vs l hl h1 fun k u s hu hs=>ih k u s hu hs (hh k s hs)
 | tup vs l hl _ ih=>intro hs;cases hs with | tup _ hh=>exact .tup vs l hl fun k u s hu hs=>ih k u s hu hs (hh k s hs)
 | fn f vs l hl _ ih=>intro hs;cases hs with | fn _ _ hh=>exact .fn f vs l hl fun k u s hu hs=>ih k u s hu hs (hh k s hs)
 | bnd f vs l hl _ ih=>intro hs;cases hs with | bnd _ _ hh=>exact .bnd f vs l hl fun k u s hu hs=>ih k u s hu hs (hh k s hs)
 | full a n f h=>exact fun _=>.full a n f (h.move (fr:=false) hmem hbase)
 | any v=>exact fun _=>.any v
 | asl i N lo n b c a hb hle hc ha=>intro hs;cases hs with | asl _ _ _ _ hi=>exact .asl _ _ _ _ b c a (by grind) hle hc ha
 | mp i r hb=>intro hs;cases hs with | mp _ hi=>exact .mp _ r (by grind)
def OLt (no:Nat):Ob→Prop
 | .cells _ cs=>∀(k:Nat) s,cs[k]?=some s→qQ no s
 | .row _ _ _ _=>True
 | .arr _ _ _=>True
 | .map _ _ _=>True
theorem dP.lt {E:Env} {no:Nat} (hnew:∀i,no≤i→E.hd i=none) {w:World} {i:Nat} {o:Ob} (h:dP E w i o):OLt no o:=by
 cases h with
 | cells b T vs cs hh hw hl h1 he=>
  intro k s hs
  have hk:k<vs.size:=by rw[hl];exact (arx.1 hs).1
  exact (he k _ s (acC hk) hs).lt hnew
 | row=>trivial
 | arr=>trivial
 | map=>trivial
theorem dP.move {E E':Env} {no:Nat} (hhd:∀i,i<no→E'.hd i=E.hd i) (hmem:∀b cs,E.mem b=some cs→E'.mem b=some cs) (hbase:E'.tm=E.tm) {w:World} {i:Nat} (hi:i<no) {o:Ob} (h:dP E w i o) (ho:OLt no o):dP E' w i o:=by
 cases h with
 | cells b T vs cs hh hw hl h1 he=>exact .cells b T vs cs (by rw[hhd i hi];exact hh) hw hl h1 fun k u s hu hs=>(he k u s hu hs).move hhd hmem hbase (ho k s hs)
 | row T sz n f v xs u hh hw hmax hl hc he=>exact .row T sz n f v xs u (by rw[hhd i hi];exact hh) hw hmax hl hc fun j k s hj hs=>(he j k s hj hs).mono hmem
 | arr b T vs n f u hh hw hs hc he=>exact .arr b T vs n f u (by rw[hhd i hi];exact hh) hw hs hc fun k hk=>(he k hk).mono hmem
 | map r es clock kt n get hh hw h1 h2 h3 h4=>exact .map r es clock kt n get (by rw[hhd i hi];exact hh) hw h1 h2 h3 (h4.mono hmem)
def bX:List LV→List Ob
 | []=>[]
 | .s _ :: l=>bX l
 | .ob _ :: l=>bX l
 | .rw T sz n f :: l=>.row T sz n f :: bX l
 | .rws T sz n f :: l=>.row T sz n f :: bX l
 | .ps _ :: l=>bX l
def dK:List LV→List Value→List Value
 | .rw _ _ _ _ :: cs,v :: vs=>v :: dK cs vs
 | .rws _ _ _ _ :: cs,v :: vs=>v :: dK cs vs
 | .ps _ :: cs,_ :: vs=>dK cs vs
 | .s _ :: cs,_ :: vs=>dK cs vs
 | .ob _ :: cs,_ :: vs=>dK cs vs
 | _,_=>[]
def dG:List SV→List LV→List (Option Nat)
 | .row j :: ss,.rw _ _ _ _ :: cs=>some j :: dG ss cs
 | _ :: ss,.rw _ _ _ _ :: cs=>none :: dG ss cs
 | .row j :: ss,.rws _ _ _ _ :: cs=>some j :: dG ss cs
 | _ :: ss,.rws _ _ _ _ :: cs=>none :: dG ss cs
 | _ :: ss,.ps _ :: cs=>dG ss cs
 | _ :: ss,.s _ :: cs=>dG ss cs
 | _ :: ss,.ob _ :: cs=>dG ss cs
 | _,_=>[]
theorem fQ:∀(n:Nat) (cs:List LV),iG n cs=n+(bX cs).length
 | n,[]=>rfl
 | n,.s _ :: cs=>by simp[iG,bX,fQ n cs]
 | n,.ob _ :: cs=>by simp[iG,bX,fQ n cs]
 | n,.rw _ _ _ _ :: cs=>by simp[iG,bX,fQ (n+1) cs];omega
 | n,.rws _ _ _ _ :: cs=>by simp[iG,bX,fQ (n+1) cs];omega
 | n,.ps _ :: cs=>by simp[iG,bX,fQ n cs]
theorem jl:∀(n:Nat) (cs:List LV) (i:Nat),look (rowsOf n cs) i=if n≤i then ((bX cs)[i-n]?).map some else none
 | n,[],i=>by simp[rowsOf,look,bX]
 | n,.s _ :: cs,i=>by simp only[rowsOf,bX];exact jl n cs i
 | n,.ob _ :: cs,i=>by simp only[rowsOf,bX];exact jl n cs i
 | n,.rw T sz m f :: cs,i=>by
  simp only[rowsOf,bX,bq,jl (n+1) cs i]
  grind
 | n,.rws T sz m f :: cs,i=>by
  simp only[rowsOf,bX,bq,jl (n+1) cs i]
  grind
 | n,.ps _ :: cs,i=>by simp only[rowsOf,bX];exact jl n cs i
theorem jK:∀(cs:List LV) (vs:List Value),vs.length=cs.length→(dK cs vs).length=(bX cs).length
 | [],_,_=>by simp[dK,bX]
 | .s _ :: cs,[],h=>by simp at h
 | .s _ :: cs,v :: vs,h=>by simp[dK,bX,jK cs vs (by simpa using h)]
 | .ob _ :: cs,[],h=>by simp at h
 | .ob _ :: cs,v :: vs,h=>by simp[dK,bX,jK cs vs (by simpa using h)]
 | .rw _ _ _ _ :: cs,[],h=>by simp at h
 | .rw _ _ _ _ :: cs,v :: vs,h=>by simp[dK,bX,jK cs vs (by simpa using h)]
 | .rws _ _ _ _ :: cs,[],h=>by simp at h
 | .rws _ _ _ _ :: cs,v :: vs,h=>by simp[dK,bX,jK cs vs (by simpa using h)]
 | .ps _ :: cs,[],h=>by simp at h
 | .ps _ :: cs,v :: vs,h=>by simp[dK,bX,jK cs vs (by simpa using h)]
theorem mW:∀(ss:List SV) (cs:List LV),ss.length=cs.length→(dG ss cs).length=(bX cs).length
 | [],[],_=>by simp[dG,bX]
 | [],_ :: _,h=>by simp at h
 | _ :: _,[],h=>by simp at h
 | s :: ss,.s _ :: cs,h=>by cases s<;>simp[dG,bX,mW ss cs (by simpa using h)]
 | s :: ss,.ob _ :: cs,h=>by cases s<;>simp[dG,bX,mW ss cs (by simpa using h)]
 | s :: ss,.rw _ _ _ _ :: cs,h=>by cases s<;>simp[dG,bX,mW ss cs (by simpa using h)]
 | s :: ss,.rws _ _ _ _ :: cs,h=>by cases s<;>simp[dG,bX,mW ss cs (by simpa using h)]
 | s :: ss,.ps _ :: cs,h=>by cases s<;>simp[dG,bX,mW ss cs (by simpa using h)]
theorem qH:∀(ss:List SV) (cs:List LV),(dG ss cs).filterMap id=dV ss cs
 | [],cs=>by cases cs<;>simp[dG,dV]
 | s :: ss,[]=>by cases s<;>simp[dG,dV]
 | s :: ss,.s _ :: cs=>by cases s<;>simp[dG,dV,qH ss cs]
 | s :: ss,.ob _ :: cs=>by cases s<;>simp[dG,dV,qH ss cs]
 | s :: ss,.rw _ _ _ _ :: cs=>by cases s<;>simp[dG,dV,qH ss cs]
 | s :: ss,.rws _ _ _ _ :: cs=>by cases s<;>simp[dG,dV,qH ss cs]
 | s :: ss,.ps _ :: cs=>by cases s<;>simp[dG,dV,qH ss cs]
theorem aae (st:St) (no:Nat):∀(ss:List SV) (cs:List LV),kg st no ss cs→ss.length=cs.length∧∀(k:Nat) s c,ss[k]?=some s→cs[k]?=some c→u6 st no s c
 | [],[],_=>by simp
 | [],_ :: _,h=>by grind [kg]
 | _ :: _,[],h=>by grind [kg]
 | [x],[y],h=>by
  refine ⟨rfl,fun k a b ha hb=>?_⟩
  cases k with
  | zero=>simp at ha hb;subst ha;subst hb;exact h
  | succ k=>simp at ha
 | [x],y :: z :: ys,h=>by grind [kg]
 | x :: z :: xs,[y],h=>by grind [kg]
 | x :: x2 :: xs,y :: y2 :: ys,h=>by
  simp only[kg] at h
  obtain ⟨h1,h2⟩:=aae st no (x2 :: xs) (y2 :: ys) h.2
  refine ⟨by simpa using h1,fun k a b ha hb=>?_⟩
  cases k with
  | zero=>simp at ha hb;subst ha;subst hb;exact h.1
  | succ k=>simp only[anI] at ha hb;exact h2 k a b ha hb
structure Grp (E:Env) (ss:List SV) (vs:List Value):Prop where
 len:vs.length=ss.length
 rep:∀(k:Nat) v s,vs[k]?=some v→ss[k]?=some s→aL E v s
theorem ah0 {no:Nat}:∀{l:List SV},aiD no l=true→∀(k:Nat) s,l[k]?=some s→qQ no s
 | [],_,k,s,h=>by simp at h
 | x :: l,ho,k,s,h=>by
  simp only[aiD,abj] at ho
  cases k with
  | zero=>
   simp at h;subst h
   cases x<;>simp[aiq] at ho
   ·exact .p _ _
   ·exact .own _ _ (by omega)
   ·exact .any
   ·exact .mp _ (by omega)
  | succ k=>exact ah0 ho.2 k s (by simpa using h)
theorem apS {E:Env} {v:Value} {s c:SV} (h:apJ s c) (hv:aL E v s):aL E v c:=by
 unfold apJ at h
 split at h
 ·exact .any v
 ·split at h
  ·cases hv with
   | p fr _ d hp=>
    have weak:∀(x y:Bool) (B:Nat) (cs:Array Value),(x=true→y=true)→E.m y B=some cs→E.m x B=some cs:=by
     intro x y B cs hxy hb
     cases x with
     | true=>grind
     | false=>exact E.fC y _ _ hb
    exact .p _ _ _ (rH h.2 (hp.mono fun b cs hb=>weak _ _ b cs h.1 hb))
  grind
 all_goals grind
theorem xY {E1 E2:Env} {st1:St} {no0:Nat} (hhd:∀i,i<no0→E2.hd i=E1.hd i) (hmem:∀b cs,E1.mem b=some cs→E2.mem b=some cs) (hbase:E2.tm=E1.tm) :
  ∀(ss:List SV) (cs:List LV) (vs:List Value) (n:Nat),(∀(k:Nat) s c,ss[k]?=some s→cs[k]?=some c→u6 st1 no0 s c)→ss.length=cs.length→Grp E1 ss vs →
   (∀p v,(dK cs vs)[p]?=some v→E2.hd (n+p)=some v)→∀(k:Nat) v s,vs[k]?=some v→(iF n cs)[k]?=some s→aL E2 v s
 | [],[],vs,n,_,_,hg,_,k,v,s,hv,hs=>by grind [iF]
 | [],_ :: _,_,_,_,hl,_,_,_,_,_,_,_=>by simp at hl
 | _ :: _,[],_,_,_,hl,_,_,_,_,_,_,_=>by simp at hl
 | x :: ss,c :: cs,[],n,_,_,hg,_,k,v,s,hv,hs=>by simp at hv
 | x :: ss,c :: cs,u :: vs,n,hM,hl,hg,hrow,k,v,s,hv,hs=>by
  have hM0:=hM 0 x c rfl rfl
  have hr0:=hg.rep 0 u x rfl rfl
  have hg':Grp E1 ss vs:=⟨by simpa using hg.len,fun k v s h1 h2=>hg.rep (k+1) v s (by simpa using h1) (by simpa using h2)⟩
  have hM':∀(k:Nat) s c,ss[k]?=some s→cs[k]?=some c→u6 st1 no0 s c:=fun k s c h1 h2=>hM (k+1) s c (by simpa using h1) (by simpa using h2)
  cases c with
  | s c0=>
   have ih:=xY hhd hmem hbase ss cs vs n hM' (by simpa using hl) hg' (fun p v hp=>hrow p v (by grind [dK]))
   cases k with
   | zero=>
    simp[iF] at hv hs;subst hv;subst hs
    unfold u6 at hM0
    split at hM0
    ·rename_i hh
     cases hh
     obtain ⟨rfl,h2⟩:=hM0
     exact hr0.move hhd hmem hbase (.fn _ _ (ah0 h2))
    ·rename_i hh
     cases hh
     have:=apS hM0.1 hr0
     refine this.move hhd hmem hbase ?_
     have h2:=hM0.2
     cases c0<;>simp[aiq] at h2
     ·exact .p _ _
     ·exact .own _ _ (by omega)
     ·exact .any
     ·exact .mp _ (by omega)
    all_goals grind
   | succ k=>grind [iF]
  | ob o=>exact hM0.elim
  | rw T sz m f=>
   have ih:=xY hhd hmem hbase ss cs vs (n+1) hM' (by simpa using hl) hg' (fun p v hp=>by rw[show n+1+p=n+(p+1) by omega];simp_all [dK])
   cases k with
   | zero=>
    simp[iF] at hv hs;subst hv;subst hs
    refine .row n u (hrow 0 u (by simp[dK])) ?_
    simp only[u6] at hM0
    split at hM0
    ·cases hr0 with | row _ _ _ hs=>exact hs
    ·have:=hr0.aO;subst this;rfl
    grind
   | succ k=>grind [iF]
  | rws T sz m f=>
   have ih:=xY hhd hmem hbase ss cs vs (n+1) hM' (by simpa using hl) hg' (fun p v hp=>by rw[show n+1+p=n+(p+1) by omega];simp_all [dK])
   cases k with
   | zero=>
    simp[iF] at hv hs;subst hv;subst hs
    refine .row n u (hrow 0 u (by simp[dK])) ?_
    simp only[u6] at hM0
    split at hM0
    ·cases hr0 with | row _ _ _ hs=>exact hs
    ·have:=hr0.aO;subst this;rfl
    grind
   | succ k=>grind [iF]
  | ps d0=>
   have ih:=xY hhd hmem hbase ss cs vs n hM' (by simpa using hl) hg' (fun p v hp=>hrow p v (by grind [dK]))
   cases k with
   | zero=>
    simp[iF] at hv hs;subst hv;subst hs
    simp only[u6] at hM0
    split at hM0
    ·have h0:aL E1 u (.p false d0):=by
      cases hr0 with
      | p fr _ d hp=>
       refine .p _ _ _ (wK hM0 (hp.mono fun b cs hb=>?_))
       exact E1.fC _ _ _ hb
     exact h0.move hhd hmem hbase (.p _ _)
    grind
   | succ k=>grind [iF]
theorem akd {E1:Env} {st1:St} {no0:Nat}:∀(ss:List SV) (cs:List LV) (vs:List Value),(∀(k:Nat) s c,ss[k]?=some s→cs[k]?=some c→u6 st1 no0 s c)→ss.length=cs.length→Grp E1 ss vs →
  ∀(p:Nat) (o:Ob),(bX cs)[p]?=some o→∃(v:Value) (T:TypeId) (sz n:Nat) (f:Nat→List PV),o=.row T sz n f∧(dK cs vs)[p]?=some v ∧
   ((∃j f',(dG ss cs)[p]?=some (some j)∧E1.hd j=some v∧st1.obj j=some (.row T sz n f')∧∀k,k<n→cu (f' k) (f k))∨((dG ss cs)[p]?=some none∧v=.slice none 0 0∧n=0))
 | [],[],vs,_,_,_,p,o,h=>by grind [bX]
 | [],_ :: _,_,_,hl,_,_,_,_=>by simp at hl
 | _ :: _,[],_,_,hl,_,_,_,_=>by simp at hl
 | x :: ss,c :: cs,[],_,_,hg,p,o,h=>by have:=hg.len;simp at this
 | x :: ss,c :: cs,u :: vs,hM,hl,hg,p,o,h=>by
  have hM0:=hM 0 x c rfl rfl
  have hr0:=hg.rep 0 u x rfl rfl
  have hg':Grp E1 ss vs:=⟨by simpa using hg.len,fun k v s h1 h2=>hg.rep (k+1) v s (by simpa using h1) (by simpa using h2)⟩
  have hM':∀(k:Nat) s c,ss[k]?=some s→cs[k]?=some c→u6 st1 no0 s c:=fun k s c h1 h2=>hM (k+1) s c (by simpa using h1) (by simpa using h2)
  have ih:=akd ss cs vs hM' (by simpa using hl) hg'
  cases c with
  | s c0=>
   grind [bX,dK,dG]
  | ob o=>exact hM0.elim
  | rw T sz m f=>
   cases p with
   | zero=>
    simp[bX] at h;subst h
    simp only[u6] at hM0
    split at hM0
    ·rename_i j
     split at hM0
     ·rename_i T' sz' n' f' hob
      obtain ⟨rfl,rfl,rfl,h4⟩:=hM0
      cases hr0 with
      | row _ _ hh _=>grind [dK,dG,cu.of]
     grind
    ·have:=hr0.aO;grind [dK,dG]
    grind
   | succ p=>
    obtain ⟨v,T',sz',n,f',h1,h2,h3⟩:=ih p o (by grind [bX])
    refine ⟨v,T',sz',n,f',h1,by grind [dK],?_⟩
    have:(dG (x :: ss) (.rw T sz m f :: cs))[p+1]?=(dG ss cs)[p]?:=by cases x<;>simp[dG]
    grind
  | rws T sz m f=>
   cases p with
   | zero=>
    simp[bX] at h;subst h
    simp only[u6] at hM0
    split at hM0
    ·rename_i j
     split at hM0
     ·rename_i T' sz' n' f' hob
      obtain ⟨rfl,rfl,rfl,h4⟩:=hM0
      cases hr0 with
      | row _ _ hh _=>grind [dK,dG]
     grind
    ·have:=hr0.aO;grind [dK,dG]
    grind
   | succ p=>
    obtain ⟨v,T',sz',n,f',h1,h2,h3⟩:=ih p o (by grind [bX])
    refine ⟨v,T',sz',n,f',h1,by grind [dK],?_⟩
    have:(dG (x :: ss) (.rws T sz m f :: cs))[p+1]?=(dG ss cs)[p]?:=by cases x<;>simp[dG]
    grind
  | ps d0=>
   grind [bX,dK,dG]
structure vX where
 ss:List SV
 cs:List LV
 vs:List Value
def iq:List vX→List Value
 | []=>[]
 | g :: l=>dK g.cs g.vs++iq l
def tH:List vX→List (Option Nat)
 | []=>[]
 | g :: l=>dG g.ss g.cs++tH l
def lU:List vX→List Ob
 | []=>[]
 | g :: l=>bX g.cs++lU l
structure vX.Ok (E:Env) (st:St) (no:Nat) (g:vX):Prop where
 m:kg st no g.ss g.cs
 grp:Grp E g.ss g.vs
theorem amX {E1:Env} {st1:St} {no0:Nat}:∀(gs:List vX),(∀g∈gs,g.Ok E1 st1 no0)→(iq gs).length=(lU gs).length∧(tH gs).length=(lU gs).length ∧
  ∀(p:Nat) (o:Ob),(lU gs)[p]?=some o→∃(v:Value) (T:TypeId) (sz n:Nat) (f:Nat→List PV),o=.row T sz n f∧(iq gs)[p]?=some v ∧
   ((∃j f',(tH gs)[p]?=some (some j)∧E1.hd j=some v∧st1.obj j=some (.row T sz n f')∧∀k,k<n→cu (f' k) (f k))∨((tH gs)[p]?=some none∧v=.slice none 0 0∧n=0))
 | [],_=>by simp[iq,tH,lU]
 | g :: gs,h=>by
  obtain ⟨h1,h2,h3⟩:=amX gs fun x hx=>h x (by simp[hx])
  obtain ⟨hm,hg⟩:=h g (by simp)
  obtain ⟨hl,hget⟩:=aae _ _ _ _ hm
  have l1:=jK g.cs g.vs (by rw[hg.len,hl])
  have l2:=mW g.ss g.cs hl
  refine ⟨by grind [iq,lU],by grind [tH,lU],fun p o hp=>?_⟩
  simp only[lU] at hp
  by_cases hlt:p<(bX g.cs).length
  ·rw[al7 hlt] at hp
   obtain ⟨v,T,sz,n,f,e1,e2,e3⟩:=akd g.ss g.cs g.vs hget hl hg p o hp
   grind [iq,tH]
  grind [iq,tH]
def jh (E:Env) (no:Nat) (vals:List Value):Env:=
 { E with hd:=fun i=>if i<no then E.hd i else vals[i-no]? }
theorem mV {α:Type}:∀(l:List (Option α)) (p:Nat) (a:α),l[p]?=some (some a)→a∈l.filterMap id
 | [],p,a,h=>by simp at h
 | x :: l,0,a,h=>by grind
 | x :: l,p+1,a,h=>by
  have:=mV l p a (by simpa using h)
  cases x<;>simp[List.filterMap_cons]<;>first | (simpa using this) | (right;simpa using this)
theorem xg:∀(l:List (Option Nat)),distinct (l.filterMap id)=true→∀(p q j:Nat),l[p]?=some (some j)→l[q]?=some (some j)→p=q
 | [],_,p,q,j,h,_=>by simp at h
 | none :: l,hd,p,q,j,hp,hq=>by
  cases p with
  | zero=>simp at hp
  | succ p=>cases q with
   | zero=>simp at hq
   | succ q=>rw[xg l (by simpa using hd) p q j (by simpa using hp) (by simpa using hq)]
 | some i :: l,hd,p,q,j,hp,hq=>by
  simp only[List.filterMap_cons,id,distinct,abj,aoF] at hd
  have hi:i∉l.filterMap id:=fun hm=>by have:=(fU i _).2 hm;rw[hd.1] at this;cases this
  cases p with
  | zero=>
   simp at hp;subst hp
   cases q with
   | zero=>rfl
   | succ q=>exact absurd (mV l q _ (by simpa using hq)) hi
  | succ p=>
   cases q with
   | zero=>simp at hq;subst hq;exact absurd (mV l p _ (by simpa using hp)) hi
   | succ q=>rw[xg l hd.2 p q j (by simpa using hp) (by simpa using hq)]
end Go.Sx
