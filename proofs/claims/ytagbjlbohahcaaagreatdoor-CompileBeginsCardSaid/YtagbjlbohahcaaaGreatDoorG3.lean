/- CompileBegins, part 3 of its proof: declarations that the last part uses. -/
import Derived.Test.YtagbjlbohahcaaaGreatDoorG2
set_option maxHeartbeats 1000000
set_option maxRecDepth 4000
set_option linter.unusedSimpArgs false
set_option linter.unusedVariables false
set_option linter.unusedSectionVars false
namespace Go.Sx
open Go
theorem aoO {C:Ctx} {E1:Env} {st1 hd:St} {w:World} (h:bg C E1 st1 w) {no:Nat} (hmno:C.kh≤no) (hkk:hd.k=st1.k) {gs:List vX} (hgs:∀g∈gs,g.Ok E1 st1 no) (hdist:distinct ((tH gs).filterMap id)=true)
  (hge:∀j,j∈(tH gs).filterMap id→C.m≤j∧(j<no→hd.obj j=none))
  (hhi:∀i,no≤i→hd.obj i=(lU gs)[i-no]?) (hhno:hd.no=no+(lU gs).length)
  (hlo:∀i o,i<no→hd.obj i=some o→(∃o1,st1.obj i=some o1)∧((st1.obj i=some o∧OLt no o)∨dP (jh E1 no (iq gs)) w i o)) :
  bg C (jh E1 no (iq gs)) hd w:=by
 obtain ⟨len1,len2,rows⟩:=amX gs hgs
 have lo:∀i,i<no→(jh E1 no (iq gs)).hd i=E1.hd i:=fun i hi=>by simp[jh,hi]
 have hi':∀p,(jh E1 no (iq gs)).hd (no+p)=(iq gs)[p]?:=fun p=>by
  simp_all [jh,if_neg]
 have blkLo:∀i,i<no→(jh E1 no (iq gs)).blk i=E1.blk i:=fun i hi=>by grind [Env.blk]
 -- whose block a row of the head has
 have rowBlk:∀p o,(lU gs)[p]?=some o→∀b,(jh E1 no (iq gs)).blk (no+p)=some b→∃j o',(tH gs)[p]?=some (some j)∧st1.obj j=some o'∧E1.blk j=some b:=by
  grind [aM,Env.blk]
 have isRow:∀i o,no≤i→hd.obj i=some o→∃p,i=no+p∧(lU gs)[p]?=some o:=fun i o hi ho=>⟨i-no,by omega,by grind⟩
 refine ⟨fun i o ho=>?_,fun i j o o' b ho ho' hb hb'=>?_,fun i o b ho hb=>?_,h.mem,h.mem0,h.memnew,fun i hi=>?_,h.base,⟨h.fr.os,h.fr.tape,h.fr.output,h.fr.bsz,h.fr.wsz,h.fr.wos,h.fr.isz,h.fr.block,h.fr.sync⟩,fun k hk=>?_,by omega,h.mkh,h.kk.trans hkk.symm⟩
 ·by_cases hi:i<no
  ·rcases (hlo i o hi ho).2 with ⟨h1,h2⟩ | h1
   ·exact (h.ob i o h1).move (fun k hk=>lo k hk) (fun _ _ h=>h) rfl hi h2
   ·exact h1
  ·obtain ⟨p,rfl,hp⟩:=isRow i o (by omega) ho
   obtain ⟨v,T,sz,n,f,e1,e2,e3⟩:=rows p o hp
   subst e1
   rcases e3 with ⟨j,f',s1,s2,s3,s4⟩ | ⟨_,rfl,rfl⟩
   ·obtain ⟨v0,xs,u,hh,hw,hmax,hl,hc,he⟩:=l7 (h.ob j _ s3)
    rw[s2] at hh;cases hh
    exact .row T sz n f v xs u (by rw[hi',e2]) hw hmax (fun j hj=>(s4 j hj).1.symm.trans (hl j hj)) (fun j k s hj hs=>by
     obtain ⟨t,ht⟩:=wP (s4 j hj).1 hs
     grind) (fun j k s hj hs=>by
     obtain ⟨t,ht⟩:=wP (s4 j hj).1 hs
     exact wK ((s4 j hj).2 k t s ht hs) (he j k t hj ht))
   ·exact .row T sz 0 f _ [] (fun _ _=>undef) (by rw[hi',e2]) (World.ownsRow_nil w 0 T sz) (akx _) (fun j hj=>by omega) (fun j k s hj=>by omega) (fun j k s hj=>by omega)
 ·by_cases hi:i<no
  ·by_cases hj:j<no
   ·obtain ⟨o1,h1⟩:=(hlo i o hi ho).1
    obtain ⟨o2,h2⟩:=(hlo j o' hj ho').1
    rw[blkLo i hi] at hb;rw[blkLo j hj] at hb'
    exact h.sep i j o1 o2 b h1 h2 hb hb'
   ·obtain ⟨p,rfl,hp⟩:=isRow j o' (by omega) ho'
    obtain ⟨k,ok,s1,s2,s3⟩:=rowBlk p o' hp b hb'
    obtain ⟨o1,h1⟩:=(hlo i o hi ho).1
    rw[blkLo i hi] at hb
    have:=h.sep i k o1 ok b h1 s2 hb s3
    grind [mV]
  ·obtain ⟨p,rfl,hp⟩:=isRow i o (by omega) ho
   obtain ⟨k,ok,s1,s2,s3⟩:=rowBlk p o hp b hb
   by_cases hj:j<no
   ·obtain ⟨o1,h1⟩:=(hlo j o' hj ho').1
    rw[blkLo j hj] at hb'
    have:=h.sep k j ok o1 b s2 h1 s3 hb'
    grind [mV]
   ·obtain ⟨q,rfl,hq⟩:=isRow j o' (by omega) ho'
    obtain ⟨k',ok',t1,t2,t3⟩:=rowBlk q o' hq b hb'
    have:=h.sep k k' ok ok' b s2 t2 s3 t3
    grind [xg]
 ·by_cases hi:i<no
  ·obtain ⟨o1,h1⟩:=(hlo i o hi ho).1
   rw[blkLo i hi] at hb
   exact h.own i o1 b h1 hb
  ·obtain ⟨p,rfl,hp⟩:=isRow i o (by omega) ho
   obtain ⟨k,ok,s1,s2,s3⟩:=rowBlk p o hp b hb
   obtain ⟨g1,g2,g3⟩:=h.own k ok b s2 s3
   have:=(hge k (mV _ _ _ s1)).1
   exact ⟨g1,.inl (g2.resolve_right (fun x=>by omega)),.inl (g3.resolve_right (fun x=>by omega))⟩
 ·rw[hhno] at hi
  have:i=no+(i-no):=by omega
  grind
 ·rw[lo k (by omega)];exact h.hd0 k hk
theorem jT:∀(n:Nat) (cs:List LV),(iF n cs).length=cs.length
 | n,[]=>rfl
 | n,.s _ :: cs=>by simp[iF,jT n cs]
 | n,.ob _ :: cs=>by simp[iF,jT n cs]
 | n,.rw _ _ _ _ :: cs=>by simp[iF,jT (n+1) cs]
 | n,.rws _ _ _ _ :: cs=>by simp[iF,jT (n+1) cs]
 | n,.ps _ :: cs=>by simp[iF,jT n cs]
theorem vC {α:Type}:∀(l:List (Nat×α)),(keysOf l).length=l.length∧(dN l).length=l.length
 | []=>by simp[keysOf,dN]
 | (t,v) :: l=>by simp[keysOf,dN,(vC l).1,(vC l).2]
theorem ady:∀(ts:List Nat) (ss:List SV),ts.length=ss.length→distinct ts=true→∀t,(∀k:Nat,ts[k]?=some t→look (abN ts ss) t=ss[k]?)∧(t∉ts→look (abN ts ss) t=none)
 | [],[],_,_,t=>by simp[abN,look]
 | [],_ :: _,h,_,t=>by simp at h
 | _ :: _,[],h,_,t=>by simp at h
 | i :: ts,s :: ss,h,hd,t=>by
  simp only[distinct,abj,aoF] at hd
  have hi:i∉ts:=fun hm=>by grind [fU]
  obtain ⟨h1,h2⟩:=ady ts ss (by simpa using h) hd.2 t
  refine ⟨fun k hk=>?_,fun hm=>?_⟩
  ·simp only[abN,bq]
   grind
  ·simp only[ahy,not_or] at hm
   simp only[abN,bq]
   grind
theorem kS {α:Type}:∀(a b:List (Nat×α)) (t:Nat),look (a++b) t=match look a t with | some v=>some v | none=>look b t
 | [],b,t=>by simp[look]
 | (k,v) :: a,b,t=>by
  simp only[List.cons_append,bq]
  by_cases h:k=t
  all_goals simp_all [kS]
theorem lD (W:List Nat):∀(l:List (Nat×SV)) (t:Nat),look (dropKeys W l) t=if t∈W then none else look l t
 | [],t=>by simp[dropKeys,look]
 | (k,s) :: l,t=>by
  simp only[dropKeys]
  cases hk:iK k W with
  | true=>
   have:=(fU k W).1 hk
   rw[lD W l t,bq]
   grind
  | false=>
   have hn:k∉W:=fun hm=>by have:=(fU k W).2 hm;rw[hk] at this;cases this
   rw[bq,bq,lD W l t]
   by_cases h:k=t
   ·subst h;simp[hn]
   ·simp[h]
def r9 (a:Act):List Nat→List Value
 | []=>[]
 | t :: l=>a.tmps.getD t undef :: r9 a l
def adQ (E:Env) (w:World) (i:Nat):List Value:=
 match E.blk i with
 | some b=>match w.heap[b]? with
  | some (.cells vs _ _)=>vs.toList
  | _=>[]
 | none=>[]
def yu (st:St) (u:UO):List SV:=match iB st u.i u.T with | some cs=>cs | none=>[]
def gW (st:St) (a:Act) (ups:List (Nat×LV)):vX:=⟨getAll st (keysOf ups),dN ups,r9 a (keysOf ups)⟩
def dF (st:St) (E:Env) (w:World):List UO→List vX
 | []=>[]
 | u :: us=>match oh u.l with
  | some _=>dF st E w us
  | none=>⟨yu st u,u.l,adQ E w u.i⟩ :: dF st E w us
theorem abo {l:List LV} {o:Ob} (h:oh l=some o):l=[.ob o]:=by
 unfold oh at h
 grind
theorem afD (st:St):∀(l:List Nat) (k:Nat),(getAll st l)[k]?=(l[k]?).map st.get
 | [],k=>by simp[getAll]
 | t :: l,0=>by simp[getAll]
 | t :: l,k+1=>by simp[getAll,afD st l k]
theorem acw (a:Act):∀(l:List Nat) (k:Nat),(r9 a l)[k]?=(l[k]?).map fun t=>a.tmps.getD t undef
 | [],k=>by simp[r9]
 | t :: l,0=>by simp[r9]
 | t :: l,k+1=>by simp[r9,acw a l k]
theorem afl (st:St):∀(l:List Nat),(getAll st l).length=l.length
 | []=>rfl
 | t :: l=>by simp[getAll,afl st l]
theorem abw (a:Act):∀(l:List Nat),(r9 a l).length=l.length
 | []=>rfl
 | t :: l=>by simp[r9,abw a l]
theorem yw {st:St} {i:Nat} {T:TypeId} {cs:List SV} (h:iB st i T=some cs):st.obj i=some (.cells T cs):=by
 grind [iB,Nat.eq_of_beq_eq_true]
theorem ag6 {st:St} {no:Nat}:∀{uos:List UO},tZ st no uos→∀u∈uos,(oh u.l=none∧∃cs,iB st u.i u.T=some cs∧kg st no cs u.l)∨∃o,oh u.l=some o∧uJ st u.i o
 | [],_,u,hu=>by simp at hu
 | v :: uos,h,u,hu=>by
  simp only[tZ] at h
  rcases ahy.1 hu with rfl | hu
  ·cases ha:oh u.l with
   | some o=>rw[ha] at h;exact .inr ⟨o,rfl,h.1⟩
   | none=>
    rw[ha] at h
    cases hc:iB st u.i u.T with
    | some cs=>rw[hc] at h;exact .inl ⟨rfl,cs,rfl,h.1⟩
    | none=>rw[hc] at h;exact h.1.elim
  ·exact ag6 h.2 u hu
theorem aag {st:St} {E:Env} {w:World}:∀{uos:List UO} {g:vX},g∈dF st E w uos→∃u∈uos,oh u.l=none∧g=⟨yu st u,u.l,adQ E w u.i⟩
 | [],g,h=>by grind [dF]
 | v :: us,g,h=>by
  simp only[dF] at h
  cases ha:oh v.l with
  | some o=>
   rw[ha] at h
   obtain ⟨u,hu,h1⟩:=aag (uos:=us) h
   exact ⟨u,by simp[hu],h1⟩
  | none=>
   rw[ha] at h
   rcases ahy.1 h with rfl | h
   ·exact ⟨v,by simp,ha,rfl⟩
   ·obtain ⟨u,hu,h1⟩:=aag (uos:=us) h
    exact ⟨u,by simp[hu],h1⟩
theorem afp {C:Ctx} {E:Env} {st:St} {w:World} (h:bg C E st w) {u:UO} {cs:List SV} (hc:iB st u.i u.T=some cs) :
  ∃b vs,E.hd u.i=some (.pointer (some ⟨b,0,none⟩))∧w.heap[b]?=some (.cells vs u.T (0,0))∧lT E vs cs∧adQ E w u.i=vs.toList:=by
 obtain ⟨b,vs,h1,h2,h3⟩:=(h.ob _ _ (yw hc)).l6
 grind [adQ,Env.blk,aM]
theorem aod {C:Ctx} {E:Env} {st:St} {a:Act} {w:World} (h:av C E st a w) {no:Nat} {ups:List (Nat×LV)} {uos:List UO} (h1:kg st no (getAll st (keysOf ups)) (dN ups)) (h2:tZ st no uos) :
  ∀g∈gW st a ups :: dF st E w uos,g.Ok E st no:=by
 intro g hg
 rcases ahy.1 hg with rfl | hg
 ·refine ⟨h1,by simp[gW,abw,afl],fun k v s hv hs=>?_⟩
  simp only[gW,acw,afD] at hv hs
  cases hk:(keysOf ups)[k]? with
  | none=>grind
  | some t=>simp[hk] at hv hs;subst hv;subst hs;simpa using h.slot t
 ·obtain ⟨u,hu,hna,rfl⟩:=aag hg
  obtain ⟨cs,hc,hm⟩:∃cs,iB st u.i u.T=some cs∧kg st no cs u.l:=by
   grind [ag6]
  obtain ⟨b,vs,e1,e2,e3,e4⟩:=afp h.heap hc
  refine ⟨by grind [yu],by simp only[yu,hc,e4];simpa using e3.size,fun k v s hv hs=>?_⟩
  simp only[yu,hc,e4] at hv hs
  exact e3.rep k v s (by simpa using hv) hs
theorem ahJ {st:St} {a:Act} {E:Env} {w:World} (ups:List (Nat×LV)) (uos:List UO):(tH (gW st a ups :: dF st E w uos)).filterMap id=allRows st ups uos:=by
 have h2:∀uos:List UO,(tH (dF st E w uos)).filterMap id=jI st uos:=by
  intro uos
  induction uos with
  | nil=>rfl
  | cons u us ih=>
   simp only[dF,jI]
   cases ha:oh u.l with
   | some o=>
    simp only[ih]
    rw[abo ha]
    cases iB st u.i u.T with
    | some cs=>cases cs with
     | nil=>simp[dV]
     | cons x xs=>cases xs<;>cases x<;>simp[dV]
    | none=>simp
   | none=>
    grind [tH,qH,yu,dV]
 grind [tH,qH,allRows,gW]
theorem ae8 {st:St} {E:Env} {w:World}:∀(n:Nat) (uos:List UO),adP n uos=n+(lU (dF st E w uos)).length
 | n,[]=>rfl
 | n,u :: us=>by
  simp only[adP,dF]
  rw[ae8 (st:=st) (E:=E) (w:=w) (iG n u.l) us,fQ]
  cases ha:oh u.l with
  | some o=>rw[abo ha];simp[bX]
  | none=>simp only[lU,aas];omega
theorem aeW {st:St} {E:Env} {w:World} {no:Nat}:∀(n:Nat) (uos:List UO),(∀u∈uos,u.i<no)→no≤n→∀i,no≤i→look (om n uos) i=if n≤i then ((lU (dF st E w uos))[i-n]?).map some else none
 | n,[],_,_,i,hi=>by simp[om,look,dF,lU]
 | n,u :: us,hlt,hn,i,hi=>by
  have hu:=hlt u (by simp)
  simp only[om,dF]
  cases ha:oh u.l with
  | some o=>
   simp only[bq,if_neg (show ¬u.i=i by omega)]
   exact aeW (st:=st) (E:=E) (w:=w) n us (fun v hv=>hlt v (by simp[hv])) hn i hi
  | none=>
   simp only[bq,if_neg (show ¬u.i=i by omega),kS,jl]
   rw[aeW (st:=st) (E:=E) (w:=w) (iG n u.l) us (fun v hv=>hlt v (by simp[hv])) (by grind [fQ]) i hi,fQ]
   simp only[lU]
   grind
theorem z8 {no:Nat}:∀(n:Nat) (uos:List UO),no≤n→∀i,i<no→(∀o,look (om n uos) i=some o→∃u∈uos,u.i=i)∧(i∉dh uos→look (om n uos) i=none)
 | n,[],_,i,_=>by simp[om,look]
 | n,u :: us,hn,i,hi=>by
  simp only[om]
  cases ha:oh u.l with
  | some ob=>
   obtain ⟨h1,h2⟩:=z8 n us hn i hi
   refine ⟨fun o ho=>?_,fun hm=>?_⟩
   ·simp only[bq] at ho
    grind
   ·simp only[dh,ahy,not_or] at hm
    simp only[bq]
    grind
  | none=>
   obtain ⟨h1,h2⟩:=z8 (iG n u.l) us (by grind [fQ]) i hi
   have hrow:look (rowsOf n u.l) i=none:=by rw[jl,if_neg (by omega)]
   refine ⟨fun o ho=>?_,fun hm=>?_⟩
   ·simp only[bq,kS,hrow] at ho
    grind
   ·simp only[dh,ahy,not_or] at hm
    simp only[bq,kS,hrow]
    grind
theorem wI:∀{uos:List UO} {i:Nat},i∈dh uos↔∃u∈uos,u.i=i
 | [],i=>by simp[dh]
 | u :: us,i=>by
  simp only[dh,ahy,wI (uos:=us)]
  constructor
  ·rintro (rfl | ⟨v,hv,rfl⟩)
   ·exact ⟨u,.inl rfl,rfl⟩
   ·exact ⟨v,.inr hv,rfl⟩
  ·rintro ⟨v,(rfl | hv),rfl⟩
   ·exact .inl rfl
   ·exact .inr ⟨v,hv,rfl⟩
theorem am0 {st:St} {i:Nat} {o:Ob} (hs:uJ st i o) {T:TypeId} {sz n:Nat} {f:Nat→List PV} (h:st.obj i=some (.row T sz n f)):False:=by
 unfold uJ at hs
 grind
theorem anu {C:Ctx} {E E2:Env} {st:St} {w:World} (h:bg C E st w) {no0 i:Nat} (hi:i<no0) (hhd:∀i,i<no0→E2.hd i=E.hd i) (hmem:∀b cs,E.mem b=some cs→E2.mem b=some cs) {o:Ob} (hs:uJ st i o):dP E2 w i o∧∃o',st.obj i=some o':=by
 unfold uJ at hs
 split at hs
 ·exact hs.elim
 ·exact hs.elim
 ·rename_i T n f
  split at hs
  ·rename_i hob
   obtain ⟨rfl,rfl,hf⟩:=hs
   obtain ⟨b,vs,hh,hw,hs,hvc⟩:=(h.ob _ _ hob).iD
   exact ⟨dP.wz (by grind) hw hs fun q hq=>by
    obtain ⟨u,u1,u2,u3⟩:=hvc q hq
    exact ⟨u,u1,u2,by rw[←hf q hq];exact u3.mono hmem⟩,_,hob⟩
  grind
 ·rename_i kt n get
  split at hs
  ·rename_i hob
   obtain ⟨rfl,rfl,hf⟩:=hs
   obtain ⟨r,es,clock,hh,hw,h1,h2,h3,h4⟩:=(h.ob _ _ hob).xX
   have e:=funext hf
   exact ⟨.map r es clock _ _ _ (by grind) hw h1 h2 h3 (by rw[←e];exact h4.mono hmem),_,hob⟩
  grind
theorem ae6 {st:St} {E E2:Env} {w:World} {no0:Nat} (hhd:∀i,i<no0→E2.hd i=E.hd i) (hmem:∀b cs,E.mem b=some cs→E2.mem b=some cs) (hbase:E2.tm=E.tm) {C:Ctx} (h:bg C E st w) :
  ∀(n:Nat) (uos:List UO),distinct (dh uos)=true→(∀u∈uos,u.i<no0)→no0≤n→tZ st no0 uos →
   (∀p v,(iq (dF st E w uos))[p]?=some v→E2.hd (n+p)=some v)→∀u∈uos,∃o',look (om n uos) u.i=some (some o')∧dP E2 w u.i o'∧∃o,st.obj u.i=some o
 | n,[],_,_,_,_,_,u,hu=>by simp at hu
 | n,v :: us,hd,hlt,hn,hM,hvals,u,hu=>by
  simp only[dh,distinct,abj,aoF] at hd
  have hni:v.i∉dh us:=fun hm=>by grind [fU]
  simp only[tZ] at hM
  have hne:u∈us→¬v.i=u.i:=fun hu e=>hni (wI.2 ⟨u,hu,e.symm⟩)
  cases ha:oh v.l with
  | some o=>
   rw[ha] at hM
   have hv0:iq (dF st E w (v :: us))=iq (dF st E w us):=by grind [dF]
   rcases ahy.1 hu with rfl | hu
   ·grind [anu,om,bq]
   ·obtain ⟨cs',r1,r2,r3⟩:=ae6 hhd hmem hbase h n us hd.2 (fun x hx=>hlt x (by simp[hx])) hn hM.2 (fun p x hp=>hvals p x (by grind)) u hu
    simp_all [om,bq]
  | none=>
   rw[ha] at hM
   cases hc:iB st v.i v.T with
   | none=>grind
   | some cs=>
    rw[hc] at hM
    obtain ⟨b,vs,e1,e2,e3,e4⟩:=afp h hc
    obtain ⟨hl,hget⟩:=aae _ _ _ _ hM.1
    have hgrp:Grp E cs vs.toList:=⟨by simpa using e3.size,fun k x s hx hs=>e3.rep k x s (by simpa using hx) hs⟩
    have hv0:iq (dF st E w (v :: us))=dK v.l vs.toList++iq (dF st E w us):=by grind [dF,iq]
    have l1:=jK v.l vs.toList (by rw[hgrp.len,hl])
    rcases ahy.1 hu with rfl | hu
    ·refine ⟨.cells u.T (iF n u.l),by grind [om,bq],?_,_,yw hc⟩
     have hrep:=xY hhd hmem hbase cs u.l vs.toList n hget hl hgrp (fun p x hp=>hvals p x (by grind))
     exact .cells b u.T vs _ (by grind) e2 (by rw[jT,←hl];exact e3.size) e3.one fun k x s hx hs=>hrep k x s (by simpa using hx) hs
    ·obtain ⟨cs',r1,r2,r3⟩:=ae6 hhd hmem hbase h (iG n v.l) us hd.2 (fun x hx=>hlt x (by simp[hx])) (by grind [fQ]) hM.2 (fun p x hp=>by
      simp_all [fQ,axt,aex]) u hu
     refine ⟨cs',?_,r2,r3⟩
     have hlo:=hlt u (by simp[hu])
     simp only[om,ha,bq,if_neg (hne hu),kS,jl,if_neg (show ¬n≤u.i by omega)]
     exact r1
theorem ake {ro no:Nat}:∀{l:List Nat},ac7 ro no l=true→∀i∈l,ro≤i∧i<no
 | [],_,u,hu=>by simp at hu
 | v :: us,h,u,hu=>by
  simp only[ac7,abj] at h
  rcases ahy.1 hu with rfl | hu
  ·simp_all
  ·exact ake h.2 u hu
theorem av.ane {C:Ctx} {E:Env} {st:St} {a:Act} {w:World} (h:av C E st a w):∀t,qQ st.no (st.get t):=fun t=>(h.slot t).lt h.heap.new
theorem bg.am2 {C:Ctx} {E:Env} {st:St} {w:World} (h:bg C E st w):∀i o,st.obj i=some o→i<st.no∧OLt st.no o:=fun i o ho=>⟨h.lt ho,(h.ob i o ho).lt h.new⟩
theorem afI {C:Ctx} {X:aY} (hro:C.ro=X.ro) {st0:St} (hmn:C.kh≤st0.no) (hsl:∀t,qQ st0.no (st0.get t)) (hol:∀i o,st0.obj i=some o→i<st0.no∧OLt st0.no o) {st1:St} {E1:Env} {a:Act} {w:World} (h:av C E1 st1 a w)
  {W G:List Nat} {ups:List (Nat×LV)} {uos:List UO} (hkd:distinct (keysOf ups)=true) (hud:distinct (dh uos)=true) (huo:ac7 X.ro st0.no (dh uos)=true)
  (hslots:∀t,t∉W→st1.get t=st0.get t) (hobjs:∀i,i<st0.no→i∉dh uos→i∉G→st1.obj i=st0.obj i)
  (hm1:kg st1 st0.no (getAll st1 (keysOf ups)) (dN ups)) (hm2:tZ st1 st0.no uos)
  {c:Option Nat} (hkk:c=st1.k) (hrd:distinct (allRows st1 ups uos)=true) (hrow:∀j,j∈allRows st1 ups uos→C.m≤j∧(j<st0.no→j∈G∧j∉dh uos)) :
  ∃vals,av C (jh E1 st0.no vals) (iW st0 W G ups uos c) a w:=by
 have hgs:=aod h hm1 hm2
 obtain ⟨len1,len2,_⟩:=amX _ hgs
 have huo':∀u∈uos,X.ro≤u.i∧u.i<st0.no:=fun u hu=>ake huo u.i (wI.2 ⟨u,hu,rfl⟩)
 have hhd:∀i,i<st0.no→(jh E1 st0.no (iq (gW st1 a ups :: dF st1 E1 w uos))).hd i=E1.hd i:=fun i hi=>by simp[jh,hi]
 have hrw:(dK (dN ups) (r9 a (keysOf ups))).length=(bX (dN ups)).length:=jK _ _ (by grind [abw,vC])
 have hvals:∀p v,(iq (gW st1 a ups :: dF st1 E1 w uos))[p]?=some v→(jh E1 st0.no (iq (gW st1 a ups :: dF st1 E1 w uos))).hd (st0.no+p)=some v:=fun p v hp=>by
  simp_all [jh,if_neg]
 have hvals2:∀p v,(iq (dF st1 E1 w uos))[p]?=some v→(jh E1 st0.no (iq (gW st1 a ups :: dF st1 E1 w uos))).hd (iG st0.no (dN ups)+p)=some v:=fun p v hp=>by
  simp_all [fQ,axt,iq,gW,aex]
 have hat:=ae6 (E2:=jh E1 st0.no (iq (gW st1 a ups :: dF st1 E1 w uos))) hhd (fun _ _ h=>h) rfl h.heap (iG st0.no (dN ups)) uos hud (fun u hu=>(huo' u hu).2) (by grind [fQ]) hm2 hvals2
 -- the objects of the head
 have lookup:∀i,(iW st0 W G ups uos c).obj i=match look (rowsOf st0.no (dN ups)) i with | some o=>o | none=>match look (om (iG st0.no (dN ups)) uos) i with | some o=>o | none=>if i∈G then none else st0.obj i:=by
  grind [iW,St.obj,kS,nN]
 have hlow:∀i,i<st0.no→look (rowsOf st0.no (dN ups)) i=none:=fun i hi=>by simp_all [jl,if_neg]
 refine ⟨iq (gW st1 a ups :: dF st1 E1 w uos),h.size,fun t=>?_,?_,h.marks⟩
 ·-- slots
  have hz:=ady (keysOf ups) (iF st0.no (dN ups)) (by grind [jT,vC]) hkd t
  have hget:(iW st0 W G ups uos c).get t=match look (abN (keysOf ups) (iF st0.no (dN ups))) t with | some s=>s | none=>if t∈W then .any else st0.get t:=by
   grind [iW,St.get,kS,lD]
  rw[hget]
  by_cases hk:t∈keysOf ups
  ·obtain ⟨k,hk⟩:=auF hk
   rw[hz.1 k hk]
   have hks:k<(iF st0.no (dN ups)).length:=by grind [jT,vC]
   rw[aav hks]
   obtain ⟨_,hgrp⟩:=hgs (gW st1 a ups) (by simp)
   obtain ⟨hl,hg⟩:=aae _ _ _ _ hm1
   refine xY hhd (fun _ _ h=>h) rfl (getAll st1 (keysOf ups)) (dN ups) (r9 a (keysOf ups)) st0.no hg hl hgrp (fun p v hp=>hvals p v ?_) k _ _ ?_ (aav hks)
   all_goals grind [iq,gW,acw]
  ·rw[hz.2 hk]
   by_cases hW:t∈W
   ·simp only[hW,if_true];exact .any _
   ·simp only[hW,if_false]
    have:=h.slot t
    rw[hslots t hW] at this
    exact this.move hhd (fun _ _ h=>h) rfl (hsl t)
 ·refine aoO h.heap hmn hkk hgs (by grind [ahJ]) (fun j hj=>?_) (fun i hi=>?_) ?_ (fun i o hi ho=>?_)
  ·rw[ahJ] at hj
   obtain ⟨g1,g2⟩:=hrow j hj
   refine ⟨g1,fun hlt=>?_⟩
   obtain ⟨g3,g4⟩:=g2 hlt
   rw[lookup,hlow j hlt,((z8 (iG st0.no (dN ups)) uos (by grind [fQ]) j hlt).2 g4)]
   simp[g3]
  ·rw[lookup,jl,if_pos hi,aeW (st:=st1) (E:=E1) (w:=w) (iG st0.no (dN ups)) uos (fun u hu=>(huo' u hu).2) (by grind [fQ]) i hi,fQ]
   simp only[lU,gW]
   have hnone:st0.obj i=none:=by
    cases hs:st0.obj i with
    | none=>rfl
    | some o=>grind
   grind
  ·show adP (iG st0.no (dN ups)) uos=_
   grind [ae8,fQ,lU,gW]
  ·rw[lookup,hlow i hi] at ho
   simp only at ho
   by_cases hu:i∈dh uos
   ·grind [wI]
   ·rw[(z8 (iG st0.no (dN ups)) uos (by grind [fQ]) i hi).2 hu] at ho
    grind
theorem rowsIn_row {st:St} {no:Nat}:∀(ss:List SV) (cs:List LV),kg st no ss cs→∀j∈dV ss cs,∃T sz n f,st.obj j=some (.row T sz n f)
 | [],cs,_,j,hj=>by cases cs<;>simp[dV] at hj
 | s :: ss,[],_,j,hj=>by cases s<;>simp[dV] at hj
 | s :: ss,c :: cs,h,j,hj=>by
  obtain ⟨hl,hg⟩:=aae _ _ _ _ h
  have h0:=hg 0 s c rfl rfl
  have hrest:kg st no ss cs∨(ss=[]∧cs=[]):=by
   cases ss with
   | nil=>cases cs with
    | nil=>exact .inr ⟨rfl,rfl⟩
    | cons _ _=>simp at hl
   | cons x xs=>cases cs with
    | nil=>simp at hl
    | cons y ys=>simp only[kg] at h;exact .inl h.2
  have tail:∀j∈dV ss cs,∃T sz n f,st.obj j=some (.row T sz n f):=by
   rcases hrest with h1 | ⟨rfl,rfl⟩
   ·exact rowsIn_row ss cs h1
   ·intro j hj;simp[dV] at hj
  cases c with
  | s c0=>
   have:dV (s :: ss) (.s c0 :: cs)=dV ss cs:=by cases s<;>simp[dV]
   rw[this] at hj;exact tail j hj
  | ob o=>exact h0.elim
  | rw T sz n f=>
   simp only[u6] at h0
   split at h0
   ·rename_i i
    simp only[dV,ahy] at hj
    rcases hj with rfl | hj
    ·split at h0
     ·rename_i ho;exact ⟨_,_,_,_,ho⟩
     ·exact h0.elim
    ·exact tail j hj
   ·simp only[dV] at hj;exact tail j hj
   ·exact h0.elim
  | rws T sz n f=>
   simp only[u6] at h0
   split at h0
   ·rename_i i
    simp only[dV,ahy] at hj
    rcases hj with rfl | hj
    ·split at h0
     ·rename_i ho;exact ⟨_,_,_,_,ho⟩
     ·exact h0.elim
    ·exact tail j hj
   ·simp only[dV] at hj;exact tail j hj
   ·exact h0.elim
  | ps d0=>
   have:dV (s :: ss) (.ps d0 :: cs)=dV ss cs:=by cases s<;>simp[dV]
   rw[this] at hj;exact tail j hj
theorem aff {st:St} {no:Nat}:∀{uos:List UO},tZ st no uos→∀j∈jI st uos,∃T sz n f,st.obj j=some (.row T sz n f)
 | [],_,j,hj=>by grind [jI]
 | u :: us,h2,j,hj=>by
  simp only[tZ] at h2
  simp only[jI] at hj
  rcases acE.1 hj with hj | hj
  ·cases hc:iB st u.i u.T with
   | none=>rw[hc] at hj;simp at hj
   | some cs=>
    rw[hc] at hj h2
    cases ha:oh u.l with
    | none=>rw[ha] at h2;exact rowsIn_row _ _ h2.1 j hj
    | some o=>
     rw[abo ha] at hj
     cases cs with
     | nil=>simp[dV] at hj
     | cons x xs=>cases xs<;>cases x<;>simp[dV] at hj
  ·exact aff h2.2 j hj
theorem akW {st:St} {no:Nat} {ups:List (Nat×LV)} {uos:List UO} (h1:kg st no (getAll st (keysOf ups)) (dN ups)) (h2:tZ st no uos):∀j∈allRows st ups uos,∃T sz n f,st.obj j=some (.row T sz n f):=by
 intro j hj
 rcases acE.1 hj with hj | hj
 all_goals grind [rowsIn_row,aff]
theorem agc {st:St} {no:Nat} {ups:List (Nat×LV)} {uos:List UO} (h1:kg st no (getAll st (keysOf ups)) (dN ups)) (h2:tZ st no uos) {j:Nat} (hj:j∈allRows st ups uos):j∉dh uos:=by
 intro hu
 obtain ⟨u,hu1,rfl⟩:=wI.1 hu
 obtain ⟨T,sz,n,f,hr⟩:=akW h1 h2 u.i hj
 rcases ag6 h2 u hu1 with ⟨_,cs,hc,_⟩ | ⟨o,_,hs⟩
 ·rw[yw hc] at hr;cases hr
 grind [am0]
theorem wQ {ro:Nat} {l:List Nat} (h:lu ro l=true) {j:Nat} (hj:j∈l):ro≤j:=by
 obtain ⟨k,hk⟩:=auF hj
 exact qV l h k j hk
theorem aaJ {α:Type} (no:Nat) (P:List Nat):∀(n:Nat) (l:List (Nat×α)) (t:Nat),aaY no P n l=true→t<no→t∉P→look l t=look (dH n l) t
 | 0,l,t,_,_,_=>rfl
 | n+1,[],t,_,_,_=>rfl
 | n+1,(k,v) :: l,t,h,hlt,ht=>by
  simp only[aaY,abj,aru] at h
  have:¬k=t:=fun e=>by
   subst e
   rcases h.1 with h1 | h1
   ·have:=aoH h1;omega
   grind [fU]
  rw[bq,if_neg this]
  exact aaJ no P n l t h.2 hlt ht
theorem aqt {st:St} {W G:List Nat} {ups:List (Nat×LV)} {uos:List UO} {c:Option Nat} (hk:∀t∈keysOf ups,t∈W) (hkd:distinct (keysOf ups)=true) {t:Nat} (ht:t∉W):(iW st W G ups uos c).get t=st.get t:=by
 have hz:=(ady (keysOf ups) (iF st.no (dN ups)) (by grind [jT,vC]) hkd t).2 (fun h=>ht (hk t h))
 simp_all [iW,St.get,kS,lD]
theorem aiV {st:St} {W G:List Nat} {ups:List (Nat×LV)} {uos:List UO} {c:Option Nat} {i:Nat} (hi:i<st.no) (hu:i∉dh uos) (hG:i∉G):(iW st W G ups uos c).obj i=st.obj i:=by
 unfold iW St.obj
 simp only[kS,nN,jl,if_neg (show ¬st.no≤i by omega),(z8 (iG st.no (dN ups)) uos (by grind [fQ]) i hi).2 hu,hG,if_false]
theorem amg {C:Ctx} {X:aY} (hro:C.ro=X.ro) (hcm:C.m=X.m) {st:St} {E:Env} {a:Act} {w:World} (h:av C E st a w) {W:List Nat} {ups:List (Nat×LV)} {uos:List UO} {c:Option Nat} (hcc:c=st.k) (he:apC X st W (allRows st ups uos) ups uos) :
  ∃E2,av C E2 (iW st W (allRows st ups uos) ups uos c) a w:=by
 obtain ⟨⟨h1,_,h3,h4,h5,h6⟩,h7,h8⟩:=he
 obtain ⟨vals,hh⟩:=afI hro h.heap.mno h.ane h.heap.am2 h h1 h3 h4 (fun _ _=>rfl) (fun _ _ _ _=>rfl) h7 h8 hcc h5 fun j hj=>⟨by rw[hcm];exact wQ h6 hj,fun _=>⟨hj,agc h7 h8 hj⟩⟩
 exact ⟨_,hh⟩
theorem ani {C:Ctx} {X:aY} (hro:C.ro=X.ro) (hcm:C.m=X.m) (hrm:C.ro≤C.m) {st:St} {E:Env} {a0:Act} {w0:World} (h0:av C E st a0 w0) {W G:List Nat} {ups ups':List (Nat×LV)} {uos uos':List UO} {c c':Option Nat} (hk:∀t∈keysOf ups,t∈W)
  (hkk:keysOf ups'=keysOf ups) (huu:dh uos'=dh uos) (hkd:distinct (keysOf ups)=true) (hud:distinct (dh uos)=true) (huo:ac7 X.ro st.no (dh uos)=true)
  {st1:St} {E1:Env} {a:Act} {w:World} (h:av C E1 st1 a w) (hcc:c'=st1.k) (ha:af8 st (iW st W G ups uos c) st1 W ups' uos'):∃E2,av C E2 (iW st W G ups' uos' c') a w:=by
 obtain ⟨h1,⟨h3,h4⟩,⟨h5,h6⟩,h7,h8⟩:=ha
 refine (fun ⟨vals,hh⟩=>⟨_,hh⟩:(∃vals,av C (jh E1 st.no vals) (iW st W G ups' uos' c') a w)→_) (afI hro h0.heap.mno h0.ane h0.heap.am2 h (by grind) (by grind) (by grind) (fun t ht=>?_) (fun i hi hu hG=>?_) h7 h8 hcc h5 fun j hj=>⟨?_,fun hlt=>?_⟩)
 ·rw[←aqt (st:=st) (G:=G) (uos:=uos) hk hkd ht]
  unfold St.get
  have e1:=lD W st1.fr t
  have e2:=lD W (iW st W G ups uos c).fr t
  rw[if_neg ht] at e1 e2
  rw[←e1,h1,e2]
 ·rw[huu] at hu h4
  rw[←aiV (st:=st) (W:=W) (ups:=ups) hi hu hG]
  unfold St.obj
  rw[aaJ st.no (dh uos) _ st1.ob i h4 hi hu,h3]
 ·have:=wQ h6 hj;have:=h0.heap.mno;have:=h0.heap.mkh;omega
 ·have:=wQ h6 hj;omega
def anc (c:Code):Prop:=∀(C:Ctx) (X:aY) (F:Fence),X.P.follows .mixedOrders=true→X.Tb.Ok X.P→C.nt=X.nt→C.ro=X.ro→CX C X F→C.ro≤C.m→jq F →
 ∀(st:St) (Q:Exit→St→Prop) (E:Env) (a:Act) (w:World),vc c X st Q→av C E st a w →
  ∀(Qw:Exit→Act→World→Prop),(∀e st' E' a' w',Q e st'→av C E' st' a' w'→Qw e a' w')→c.wpIn F 9 X.P Qw a w
def adl (C:Ctx) (no:Nat) (k:Option Nat) (E1:Env) (I:Nat→Prop) (W:World):Ctx:=
 { C with kh:=no,hd0:=E1.hd,mem0:=E1.mem,wk:=W,nm:=true,J:=fun k' I1 ws=>k'=k∧I1=(fun b=>E1.mine b∧b<W.heap.size∧¬I b)∧ws=W }
structure Mid (C:Ctx) (E:Env) (no:Nat) (w:World) (l0:List Nat) (st:St) (E1:Env) (I:Nat→Prop) (W:World):Prop where
 heap:bg C E1 st W
 marks:∀D∈l0,W.heap[D]?=some (.deferred (some []))
 knc:jm C.wk W
 le:E.Le E1
 ws:E1.ws=E.ws
 I_:E1.I=E.I
 k:E1.k=E.k
 lo:∀b,I b→w.heap.size≤b
 own:∀i o b,st.obj i=some o→E1.blk i=some b→¬I b
 mem:∀b cs,E1.mem b=some cs→¬I b
 no_:no≤st.no
theorem dP.iB {E:Env} {w:World} {i:Nat} {o:Ob} (h:dP E w i o) {b:Nat} (hb:E.blk i=some b):∃ob,w.heap[b]?=some ob∧stC ob=true:=by
 cases h with
 | cells b' T vs cs hh hw _ _ _=>simp[Env.blk,hh,aM] at hb;subst hb;exact ⟨_,hw,rfl⟩
 | row T sz n f v xs u hh hw _ _ _ _=>
  rcases hw.2 with ⟨rfl,_⟩ | ⟨g,cap,cur,rfl,_,hg,_⟩
  ·grind [Env.blk,aM]
  ·simp[Env.blk,hh,aM] at hb;subst hb;exact ⟨_,hg,rfl⟩
 | arr b' T vs n f u hh hw _ _ _=>simp[Env.blk,hh,aM] at hb;subst hb;exact ⟨_,hw,rfl⟩
 | map r es clock kt n get hh hw _ _ _ _=>simp[Env.blk,hh,aM] at hb;subst hb;exact ⟨_,hw,rfl⟩
theorem Mid.ae9 {C:Ctx} {E:Env} {st0:St} {no:Nat} {w:World} {a0:Act} (h0:av C E st0 a0 w) {l0:List Nat} (hl0:∀D∈l0,D<w.heap.size) {st:St} {E1:Env} {I I':Nat→Prop} {W W':World} (h:Mid C E no w l0 st E1 I W)
  (h1:∀b,I b→I' b) (h2:∀b,I' b→I b∨W.heap.size≤b) (hos:W'.os=W.os) (htape:W'.tape=W.tape) (hout:W'.output=W.output) (hsz:W.heap.size≤W'.heap.size) (hwz:w.heap.size≤W.heap.size)
  (hs:∀b o,W.heap[b]?=some o→¬I b→(b<w.heap.size∨stC o=true)→W'.heap[b]?=some o):Mid C E no w l0 st E1 I' W':=by
 have low:∀b,b<w.heap.size→W'.heap[b]?=W.heap[b]?:=fun b hb=>by
  have hx:=acC (xs:=W.heap) (i:=b) (by omega)
  rw[hx];exact hs b _ hx (fun hi=>by have:=h.lo b hi;omega) (.inl hb)
 have grow:∀b,b<W.heap.size→¬I b→¬I' b:=fun b hb hn hi=>(h2 b hi).elim hn (fun x=>by omega)
 refine ⟨⟨fun i o ho=>(h.heap.ob i o ho).world fun b hb=>?_,h.heap.sep,h.heap.own,fun b cs hb=>?_,h.heap.mem0,h.heap.memnew,h.heap.new,h.heap.base,⟨hos.trans h.heap.fr.os,htape.trans h.heap.fr.tape,hout.trans h.heap.fr.output,h.heap.fr.bsz,aiT h.heap.fr.wsz hsz,h.heap.fr.wos,h.heap.fr.isz,fun k hk hI=>?_,h.heap.fr.sync⟩,h.heap.hd0,h.heap.mno,h.heap.mkh,h.heap.kk⟩,
  fun D hD=>?_,fun D o hD ho=>?_,h.le,h.ws,h.I_,h.k,fun b hb=>?_,fun i o b ho hb=>?_,fun b cs hb=>?_,h.no_⟩
 ·obtain ⟨ob,hob,hc⟩:=(h.heap.ob i o ho).iB hb
  rw[hs b ob hob (h.own i o b ho hb) (.inr hc),hob]
 ·obtain ⟨T,fr,hw⟩:=h.heap.mem b cs hb
  exact ⟨T,fr,hs b _ hw (h.mem b cs hb) (.inr rfl)⟩
 ·have:k<w.heap.size:=by rw[h.ws] at hk;exact alk hk h0.heap.fr.wsz
  rw[low k this];exact h.heap.fr.block k hk hI
 ·rw[low D (hl0 D hD)];exact h.marks D hD
 ·have hD2:=h0.marks.1 D o hD ho
  rw[low D (acG.1 hD2).1];exact h.knc D o hD ho
 ·rcases h2 b hb with x | x
  ·exact h.lo b x
  ·omega
 ·exact grow b ((h.heap.ob i o ho).iZ hb) (h.own i o b ho hb)
 ·exact grow b (h.heap.sM hb) (h.mem b cs hb)
theorem Mid.into {C:Ctx} {E:Env} {no:Nat} {w:World} {l0:List Nat} {st:St} {E1:Env} {I:Nat→Prop} {W:World} (h:Mid C E no w l0 st E1 I W) (hkno:C.m≤no) {a:Act} (hsz:a.tmps.size=C.nt) (hsl:∀t,aL E1 (a.tmps.getD t undef) (st.get t)) (hd:a.defers=[]) :
  av (adl C no E.k E1 I W) { E1 with ws:=W,I:=fun b=>E1.mine b∧b<W.heap.size∧¬I b } st a W:=by
 have hle:E1.Le { E1 with ws:=W,I:=fun b=>E1.mine b∧b<W.heap.size∧¬I b }:=⟨fun _ _ h=>h,fun _ _ h=>h,rfl⟩
 refine ⟨hsz,fun t=>(hsl t).mono hle,⟨fun i o ho=>(h.heap.ob i o ho).mono hle,h.heap.sep,fun i o b ho hb=>?_,h.heap.mem,fun _ _ h=>h,fun b cs hb=>.inl hb,h.heap.new,h.heap.base,⟨h.heap.fr.os,h.heap.fr.tape,h.heap.fr.output,aiT h.heap.fr.bsz h.heap.fr.wsz,abm _,⟨h.heap.fr.os,h.heap.fr.tape,h.heap.fr.output⟩,fun b hb=>hb.2.1,fun _ _ _=>rfl,h.k,rfl,rfl⟩,fun _ _=>rfl,h.no_,hkno,h.heap.kk⟩,
  fun D o hD _=>hD,[],fun _=>rfl,by simp[hd],awp,by simp⟩
 obtain ⟨g1,g2,g3⟩:=h.heap.own i o b ho hb
 exact ⟨g1,g2,g3.imp_left fun hm=>.inr ⟨hm,(h.heap.ob i o ho).iZ hb,h.own i o b ho hb⟩⟩
theorem Mid.am1 {C:Ctx} {E:Env} {no:Nat} {w:World} {l0:List Nat} {st:St} {E1:Env} {I:Nat→Prop} {W:World} (h:Mid C E no w l0 st E1 I W) (hIs:∀b,I b→b<W.heap.size) (hE:∀i v,E.hd i=some v→i<no) (hkno:C.kh≤no) (hkm:C.m≤C.kh) (hrom:C.ro≤C.m) (hwsz:w.heap.size≤W.heap.size) (hwb:C.base≤w.heap.size) (hlent:∀i b,i<C.m→(C.hd0 i).bind aM=some b→b<C.base)
  {st2:St} {E2:Env} {a2:Act} {W2:World} (h2:av (adl C no E.k E1 I W) E2 st2 a2 W2) :
  Mid C E no w l0 st2 { E2 with ws:=E.ws,I:=E.I,k:=E.k } I W2∧nC W W2∧iY I E.mem W W2∧(∀t,aL { E2 with ws:=E.ws,I:=E.I,k:=E.k } (a2.tmps.getD t undef) (st2.get t))∧a2.defers=[]∧W.heap.size≤W2.heap.size:=by
 obtain ⟨hk2,hI2,hw2⟩:E2.k=E.k∧E2.I=(fun b=>E1.mine b∧b<W.heap.size∧¬I b)∧E2.ws=W:=h2.heap.fr.sync
 have hle:E2.Le { E2 with ws:=E.ws,I:=E.I,k:=E.k }:=⟨fun _ _ h=>h,fun _ _ h=>h,rfl⟩
 have hsz:W.heap.size≤W2.heap.size:=by have:=h2.heap.fr.wsz;grind
 have same:∀b,b<W.heap.size→¬(E1.mine b∧b<W.heap.size∧¬I b)→W2.heap[b]?=W.heap[b]?:=fun b hb hn=>by
  have:=h2.heap.fr.block b (by grind) (by grind)
  grind
 have hm1:∀b,E1.mine b↔E.mine b:=fun b=>by unfold Env.mine;rw[h.ws,h.I_]
 have hwsW:E.ws.heap.size≤W.heap.size:=by have:=h.heap.fr.wsz;rw[h.ws] at this;exact this
 -- what is the round's own
 have mine2:∀b,E2.mine b→E.mine b∧¬I b:=fun b hb=>by
  grind [Env.mine]
 have hhd:∀k,k<no→E2.hd k=E1.hd k:=fun k hk=>h2.heap.hd0 k hk
 have hnc:jm W W2:=h2.marks.1
 refine ⟨⟨⟨fun i o ho=>(h2.heap.ob i o ho).mono hle,h2.heap.sep,fun i o b ho hb=>?_,h2.heap.mem,fun b cs hb=>h2.heap.mem0 b cs (h.heap.mem0 b cs hb),fun b cs hb=>?_,h2.heap.new,h2.heap.base,⟨h2.heap.fr.os,h2.heap.fr.tape,h2.heap.fr.output,?_,?_,?_,?_,fun k hk hI=>?_,?_⟩,fun k hk=>?_,aiT hkno h2.heap.mno,hkm,?_⟩,
  fun D hD=>hnc D _ (h.marks D hD) rfl,fun D o hD ho=>hnc D o (h.knc D o hD ho) ho,⟨fun i v hv=>?_,fun b cs hb=>h2.heap.mem0 b cs (h.le.mem b cs hb),?_⟩,rfl,rfl,rfl,h.lo,fun i o b ho hb=>?_,fun b cs hb=>?_,h2.heap.mno⟩,⟨hsz,hnc⟩,⟨?_,?_,?_,hsz,fun b hb=>?_,fun b cs hb _=>?_⟩,fun t=>(h2.slot t).mono hle,?_,hsz⟩
 ·obtain ⟨g1,g2,g3⟩:=h2.heap.own i o b ho hb
  exact ⟨g1,g2,g3.imp_left fun hm=>(mine2 b hm).1⟩
 ·rcases h2.heap.memnew b cs hb with x | x
  ·exact (h.heap.memnew b cs x).imp_right fun y=>⟨y.1,(hm1 b).1 y.2⟩
  ·exact .inr ⟨x.1,(mine2 b x.2).1⟩
 ·have:=h.heap.fr.bsz;rw[h.ws] at this;exact this
 ·grind
 ·have:=h.heap.fr.wos;rw[h.ws] at this;exact this
 ·have:=h.heap.fr.isz;rw[h.ws,h.I_] at this;exact this
 ·have hk':k<E.ws.heap.size:=hk
  have hI':¬E.I k:=hI
  rw[same k (by omega) (fun ⟨x,_⟩=>((hm1 k).1 x).elim (fun y=>by omega) hI')]
  have:=h.heap.fr.block k (by rw[h.ws];exact hk') (by rw[h.I_];exact hI')
  rw[this,h.ws]
 ·have:=h.heap.fr.sync;rw[h.ws,h.I_,h.k] at this;exact this
 ·show E2.hd k=_
  rw[hhd k (by omega)];exact h.heap.hd0 k hk
 ·show E.k=st2.k
  rw[←hk2];exact h2.heap.kk
 ·show E2.hd i=some v
  rw[hhd i (hE i v hv)];exact h.le.hd i v hv
 ·show E2.tm=E.tm
  rw[h2.heap.base];show C.tm=E.tm;rw[←h.le.base,h.heap.base]
 ·obtain ⟨_,g2,g3⟩:=h2.heap.own i o b ho hb
  rcases g3 with g3 | ⟨g3,_⟩
  ·grind
  ·-- an object that is lent stays the same
   have g4:i<C.m:=g3
   have hi:i<no:=alk g3 (aiT hkm hkno)
   have hb':(E2.hd i).bind aM=some b:=hb
   rw[hhd i hi,h.heap.hd0 i (by omega)] at hb'
   have:=hlent i b g4 hb'
   intro hI
   have:=h.lo b hI
   omega
 ·rcases h2.heap.memnew b cs hb with x | x
  ·exact h.mem b cs x
  grind
 ·exact h2.heap.fr.os.trans h.heap.fr.os.symm
 ·exact h2.heap.fr.tape.trans h.heap.fr.tape.symm
 ·exact h2.heap.fr.output.trans h.heap.fr.output.symm
 ·grind
 ·exact h2.heap.mem b cs (h2.heap.mem0 b cs (h.le.mem b cs hb))
 ·obtain ⟨_,l,l1,l2,_⟩:=h2.marks
  rw[l2,l1 rfl];rfl
theorem anO {E:Env} {d:PV} {v:Value} (hv:aS E.mem v d):aS (E.m (aio d)) v d:=by
 cases d with
 | val u=>obtain rfl:=hv.aO;exact .val _
 | agg l=>
  simp only[aio]
  cases ha:iy l with
  | false=>exact hv
  | true=>
   obtain ⟨vs,rfl,hl,h1,he⟩:=hv.mX
   refine .agg vs l hl h1 fun k u s hu hs=>?_
   obtain ⟨w,rfl⟩:=aaz ha k s hs
   obtain rfl:=(he k u _ hu hs).aO
   exact .val _
 | _=>exact hv
theorem aep {C:Ctx} {E:Env} {w:World} {X:aY} (hnt:C.nt=X.nt) {K:St→Prop} {G:Act→World→Prop} (hG:∀st' a',K st'→av C E st' a' w→G a' w):∀(ps:List Nat) (vs:List PV) (us:List Value) (st:St) (a:Act),adR X.nt ps=true→us.length=vs.length→(∀(k:Nat) u s,us[k]?=some u→vs[k]?=some s→aS E.mem u s)→afu ps vs st K→av C E st a w →
  G { a with tmps:=(ps.zip us).foldl (fun t (p,v)=>t.setIfInBounds p v) a.tmps } w
 | [],[],_,st,a,_,hl,_,hk,h=>by cases axp hl;exact hG st _ hk h
 | [],_ :: _,_,_,_,_,_,_,hk,_=>hk.elim
 | _ :: _,[],_,_,_,_,_,_,hk,_=>hk.elim
 | p :: ps,v :: vs,[],st,a,hp,hl,hv,hk,h=>by simp at hl
 | p :: ps,v :: vs,u :: us,st,a,hp,hl,hv,hk,h=>by
  simp only[adR,abj] at hp
  simp only[afu,abb] at hk
  have hrep:aL E u (.p (aio v) v):=.p _ _ _ (anO (hv 0 u v rfl rfl))
  exact aep hnt hG ps vs us _ _ hp.2 (by simpa using hl) (fun k u s hu hs=>hv (k+1) u s (by simpa using hu) (by simpa using hs)) hk (h.agt (t:=some p) (by grind [bY]) hrep)
theorem asL {st:St} {G:List Nat} {uos:List UO} {c:Option Nat} (t:Nat):(iW st [] G [] uos c).get t=st.get t:=by
 grind [iW,St.get,abN,keysOf,lD]
theorem bg.adh {C:Ctx} {E:Env} {st:St} {w:World} (h:bg C E st w) (f:List (Nat×SV)):bg C E ⟨f,st.ob,st.no,st.k⟩ w:=
 ⟨h.ob,h.sep,h.own,h.mem,h.mem0,h.memnew,h.new,h.base,h.fr,h.hd0,h.mno,h.mkh,h.kk⟩
theorem Mid.adh {C:Ctx} {E:Env} {no:Nat} {w:World} {l0:List Nat} {st:St} {E1:Env} {I:Nat→Prop} {W:World} (h:Mid C E no w l0 st E1 I W) (f:List (Nat×SV)):Mid C E no w l0 ⟨f,st.ob,st.no,st.k⟩ E1 I W:=
 ⟨h.heap.adh f,h.marks,h.knc,h.le,h.ws,h.I_,h.k,h.lo,h.own,h.mem,h.no_⟩
theorem adW {st st':St} (h:∀i,st.obj i=st'.obj i) (no:Nat) (s:SV) (c:LV):u6 st no s c=u6 st' no s c:=by
 simp_all [u6]
theorem anf {st st':St} (h:∀i,st.obj i=st'.obj i) (i:Nat) (o:Ob):uJ st i o=uJ st' i o:=by
 simp_all [uJ]
theorem akG {st st':St} (h:∀i,st.obj i=st'.obj i) (no:Nat):∀(ss:List SV) (cs:List LV),kg st no ss cs=kg st' no ss cs
 | [],[]=>rfl
 | [],_ :: _=>rfl
 | _ :: _,[]=>by simp[kg]
 | [s],[c]=>by grind [kg,adW]
 | [s],c :: d :: cs=>by simp[kg,adW h]
 | s :: t :: ss,[c]=>by simp[kg,adW h]
 | s :: t :: ss,c :: d :: cs=>by
  simp only[kg,adW h]
  rw[akG h no (t :: ss) (d :: cs)]
theorem alU {st st':St} (h:∀i,st.obj i=st'.obj i) (no:Nat):∀(uos:List UO),tZ st no uos=tZ st' no uos
 | []=>rfl
 | u :: us=>by
  have e:iB st u.i u.T=iB st' u.i u.T:=by unfold iB;rw[h]
  simp only[tZ,e,alU h no us,akG h no,anf h]
theorem abE {st st':St} (h:∀i,st.obj i=st'.obj i):∀(uos:List UO),jI st uos=jI st' uos
 | []=>rfl
 | u :: us=>by
  have e:iB st u.i u.T=iB st' u.i u.T:=by unfold iB;rw[h]
  simp only[jI,e,abE h us]
theorem aq3 {g : Operand} {ps : Array Tmp} {assign body : Code} (ha : anc assign) (hb : anc body) : anc (.rangeFunc g ps assign body) := by
  intro C X F hm hTb hnt hro hcm hrm hF st Q E a w hk h Qw hn
  simp only [vc, alm] at hk
  split at hk
  · rename_i fr gf capt hg
    obtain ⟨⟨hrnd, hps⟩, S, ⟨⟨gfn, hgf, hgb, hgn⟩, hS⟩, a0, hcapt, hpre, hlen, L, ⟨hud, huo, hgd, hgm⟩, hm2, hi0, hround, hdone⟩ := hk
    obtain ⟨hFw, hnm⟩ := hcm.f hrnd
    subst hFw
    have hgv := aI h g
    rw [hg] at hgv
    obtain ⟨cvs, hge, hcl, hce⟩ : ∃ cvs, a.eval g = .func (.func gf) #[] cvs ∧ cvs.size = capt.length ∧ ∀ (k : Nat) (u : Value) (s : PV), cvs[k]? = some u → capt[k]? = some s → aS (E.m fr) u s := by
      generalize a.eval g = v at hgv
      cases hgv with
      | p _ _ _ hp => cases hp with
        | fn _ vs _ hl he => exact ⟨vs, rfl, hl, he⟩
    have hseq := hS a0 hpre
    obtain ⟨pl1, pl2⟩ := adn _ _ hcapt
    have hseq := hseq E.mem cvs (hcl.trans pl1) (fun k u s hu hs => by
      have hk : k < capt.length := by rw [← hcl]; exact (acG.1 hu).1
      have hc := aav hk
      exact afa (pl2 k _ s hc hs) ((hce k u _ hu hc).mono (fun b cs hb => E.fC _ _ _ hb)))
    obtain ⟨hwknc, l0, _, hld, hln, hl0⟩ := h.marks
    have hl0s : ∀ D ∈ l0, D < w.heap.size := fun D hD => (acG.1 (hl0 D hD).2).1
    have hbw : C.base ≤ w.heap.size := aiT h.heap.fr.bsz h.heap.fr.wsz
    have hE : ∀ i v, E.hd i = some v → i < st.no := fun i v hv => by
      rcases axd i st.no with x | x
      · exact x
      · rw [h.heap.new i x] at hv; cases hv
    have hkno := h.heap.mno
    have hkm := h.heap.mkh
    obtain ⟨Hd, hHd⟩ : ∃ Hd : L.X → St, Hd = fun x => iW st [] (jI st (L.uo L.x0)) [] (L.uo x) st.k := ⟨_, rfl⟩
    have hslot : ∀ {E1 : Env}, E.Le E1 → ∀ x t, aL E1 (a.tmps.getD t undef) ((Hd x).get t) := by
      intro E1 hle x t
      rw [hHd]
      simp only [asL]
      exact (h.slot t).mono hle
    have hnoH : ∀ x, st.no ≤ (Hd x).no := fun x => by
      rw [hHd]
      show st.no ≤ adP (iG st.no []) (L.uo x)
      rw [ae8 (st := st) (E := E) (w := w), fQ]
      omega
    obtain ⟨vals0, hh0⟩ := afI (W := []) (ups := []) (uos := L.uo L.x0) (G := jI st (L.uo L.x0)) (c := st.k) hro h.heap.mno h.ane h.heap.am2 h rfl hud huo (fun _ _ => rfl) (fun _ _ _ _ => rfl) trivial hm2 rfl hgd
      (fun j hj => ⟨by rw [hcm.m]; exact wQ hgm hj, fun _ => ⟨hj, agc (ups := []) trivial hm2 hj⟩⟩)
    obtain ⟨X', hX'⟩ : ∃ X' : aY, X' = { X with rnd := true, yl := none } := ⟨_, rfl⟩
    obtain ⟨Qr, hQr⟩ : ∃ Qr : Nat → L.X → Exit → St → Prop, Qr = fun k x e st2 => match e with
          | .normal => ∃ x', dh (L.uo x') = dh (L.uo x) ∧ apg st (Hd x) st2 (L.uo x') ∧ L.inv (k + 1) x'
          | .ret => Q .ret ⟨(Hd x).fr, st2.ob, st2.no, st2.k⟩
          | .exit id => Q (.exit id) ⟨(Hd x).fr, st2.ob, st2.no, st2.k⟩
          | _ => False := ⟨_, rfl⟩
    have cxr : ∀ {E1 : Env} {I : Nat → Prop} {W : World} {st1 : St} (l : Nat), Mid C E st.no w l0 st1 E1 I W → CX (adl C st.no E.k E1 I W) X' (Fence.wide.inRound l) := fun {E1 I W st1} l hM => by
      subst hX'
      refine ⟨hcm.m, fun l xs hy => (by cases hy), fun hr => (by cases hr), fun i b hi hb => hcm.lent i b hi ?_, hcm.rm, fun p hp => hM.heap.mem0 _ _ (hcm.gl p hp), hcm.nw⟩
      have hb' : (E1.hd i).bind aM = some b := hb
      have hi' : i < C.m := hi
      rw [hM.heap.hd0 i (by omega)] at hb'
      exact hb'
    have hwide : ∀ l, jq (Fence.wide.inRound l) := fun l => .inr ⟨l, rfl⟩
    refine aq7 (xs := S.xs a0) (μ := E.mem) hge (fun args w => oN hgf hgb hgn args w) hseq (fun b cs hb => h.heap.mem b cs hb) (fun x hx => ?_)
      (fun k I W => ∃ E1 x, L.inv k x ∧ dh (L.uo x) = dh (L.uo L.x0) ∧ w.heap.size ≤ W.heap.size ∧ Mid C E st.no w l0 (Hd x) E1 I W)
      (fun c I W => ∃ E1 st1, w.heap.size ≤ W.heap.size ∧ Mid C E st.no w l0 st1 E1 I W ∧ (∀ t, aL E1 (a.tmps.getD t undef) (st1.get t)) ∧ ((c = .ret ∧ Q .ret st1) ∨ ∃ id, c = .exit id ∧ Q (.exit id) st1))
      (fun k I I' W W' hj h1 h2 h2' hos htape hout hsz hs => ?_) (fun c I I' W W' hj h1 h2 h2' hos htape hout hsz hs => ?_)
      ⟨jh E st.no vals0, L.x0, hi0, rfl, abm _, by rw [hHd]; exact hh0.heap, fun D hD => (hl0 D hD).2, hwknc, ⟨fun i v hv => by simp [jh, hE i v hv, hv], fun _ _ h => h, rfl⟩, rfl, rfl, rfl, fun _ h => h.elim, fun _ _ _ _ _ h => h.elim, fun _ _ _ h => h.elim, hnoH _⟩
      (fun k xv I a' W => ∃ E1 st1 x, L.inv k x ∧ dh (L.uo x) = dh (L.uo L.x0) ∧ w.heap.size ≤ W.heap.size ∧ Mid C E st.no w l0 st1 E1 I W ∧ a'.tmps.size = C.nt ∧ (∀ t, aL E1 (a'.tmps.getD t undef) (st1.get t)) ∧ a'.defers = [] ∧ vc body X' st1 (Qr k x))
      (fun k xv a' I I' W W' hj h1 h2 h2' hos htape hout hsz hs => ?_) (fun l k vs us I W hx hus hj hI => ?_) (fun l k vs us I a' W hx hus hj hI => ?_) (fun D I W hD hj hdf => ?_) (fun D c I W hD hj hdf => ?_)
    · exact hlen x hx
    · obtain ⟨E1, x, hinv, huu, hwW, hM⟩ := hj
      exact ⟨E1, x, hinv, huu, by omega, hM.ae9 h hl0s h1 h2 hos htape hout hsz hwW hs⟩
    · obtain ⟨E1, st1, hwW, hM, hr⟩ := hj
      exact ⟨E1, st1, by omega, hM.ae9 h hl0s h1 h2 hos htape hout hsz hwW hs, hr⟩
    · obtain ⟨E1, st1, x, hinv, huu, hwW, hM, hr⟩ := hj
      exact ⟨E1, st1, x, hinv, huu, by omega, hM.ae9 h hl0s h1 h2 hos htape hout hsz hwW hs, hr⟩
    · -- the loop's variables
      obtain ⟨E1, x, hinv, huu, hwW, hM⟩ := hj
      · have hr := hround k x vs hinv hx
        rw [xJ] at hr
        have hin := hM.into (a := { a with defers := [] }) (by omega) h.size (hslot hM.le x) rfl
        have e : (ps.zip us).foldl (fun (t : Array Value) (p, v) => t.setIfInBounds p v) a.tmps = (ps.toList.zip us.toList).foldl (fun (t : Array Value) (p, v) => t.setIfInBounds p v) a.tmps := by
          rw [← Array.foldl_toList, Array.toList_zip]
        rw [e]
        rw [← hX'] at hr
        have hr' : afu ps.toList vs (Hd x) fun hd' => vc assign X' hd' fun e st1 => match e with
            | .normal => vc body X' st1 (Qr k x)
            | _ => False := by rw [hQr, hHd]; exact hr
        refine aep (C := adl C st.no E.k E1 I W) (E := { E1 with ws := W, I := fun b => E1.mine b ∧ b < W.heap.size ∧ ¬ I b }) (X := X) (hG := fun st' a' hk' h' => ?_) (G := fun a' w' => w' = W → assign.wpIn (Fence.wide.inRound l) 9 X.P _ a' w') (by exact hnt) ps.toList vs us.toList (Hd x) { a with defers := [] } hps (by simpa using hus.1) (fun q u s hu hs => (hus.2 q u s (by simpa using hu) hs).mono hM.le.mem) hr' hin rfl
        intro _
        have cxp := cxr l hM
        refine (show X'.P = X.P by rw [hX']) ▸ ha (adl C st.no E.k E1 I W) X' (Fence.wide.inRound l) (by rw [hX']; exact hm) (by rw [hX']; exact hTb) (by rw [hX']; exact hnt) (by rw [hX']; exact hro) cxp hrm (hwide l) st' _ _ a' W hk' h' _ ?_
        intro e st2 E2 a2 W2 hq h2
        cases e with
        | normal =>
          obtain ⟨o1, o2, o3, o4, o5, o6⟩ := hM.am1 (fun b hb => (hI b hb).2) hE hkno hkm hrm hwW hbw hcm.lent h2
          exact ⟨o2, o3, _, st2, x, hinv, huu, by omega, o1, h2.size, o4, o5, hq⟩
        | _ => exact hq.elim
    · -- the body
      obtain ⟨E1, st1, x, hinv, huu, hwW, hM, hsz, hsl, hdf, hvc⟩ := hj
      have hin := hM.into (by omega) hsz hsl hdf
      have cxp := cxr l hM
      refine (show X'.P = X.P by rw [hX']) ▸ hb (adl C st.no E.k E1 I W) X' (Fence.wide.inRound l) (by rw [hX']; exact hm) (by rw [hX']; exact hTb) (by rw [hX']; exact hnt) (by rw [hX']; exact hro) cxp hrm (hwide l) st1 _ _ a' W hvc hin _ ?_
      intro e st2 E2 a2 W2 hq h2
      have hout := hM.am1 (fun b hb => (hI b hb).2) hE hkno hkm hrm hwW hbw hcm.lent h2
      rw [hQr] at hq
      cases e with
      | normal =>
        obtain ⟨x', hux, ⟨⟨q1, q2⟩, ⟨q3, q4⟩, q5⟩, hinv'⟩ := hq
        have hle2 : E.Le E2 := ⟨hout.1.le.hd, hout.1.le.mem, hout.1.le.base⟩
        have h2' : av (adl C st.no E.k E1 I W) E2 ⟨st.fr, st2.ob, st2.no, st2.k⟩ { a with defers := [] } W2 :=
          ⟨h.size, fun t => (h.slot t).mono hle2, h2.heap.adh _, h2.marks.1, [], fun _ => rfl, rfl, awp, by simp⟩
        have hkk : st.k = st2.k := by
          have h3 : E2.k = E.k := h2.heap.fr.sync.1
          rw [← h2.heap.kk, h3, h.heap.kk]
        obtain ⟨vals, hh⟩ := afI (C := adl C st.no E.k E1 I W) (X := X) (W := []) (ups := []) (uos := L.uo x') (G := jI st (L.uo L.x0)) (c := st.k) hro (abm _) h.ane h.heap.am2 h2' rfl (by rw [hux, huu]; exact hud) (by rw [hux, huu]; exact huo) (fun _ _ => rfl)
          (fun i hi hu hG => by
            have e1 : (Hd x).obj i = st.obj i := by rw [hHd]; exact aiV (ups := []) hi (by rw [← hux]; exact hu) hG
            rw [← e1]
            unfold St.obj
            rw [aaJ st.no (dh (L.uo x')) _ st2.ob i q2 hi hu, q1])
          trivial ((alU (st := ⟨st.fr, st2.ob, st2.no, st2.k⟩) (st' := st2) (fun _ => rfl) st.no (L.uo x')).mpr q5) hkk ((congrArg distinct (abE (st := ⟨st.fr, st2.ob, st2.no, st2.k⟩) (st' := st2) (fun _ => rfl) (L.uo x'))).trans q3)
          (fun j hj => by
            have hj' : j ∈ jI st2 (L.uo x') := (abE (st := ⟨st.fr, st2.ob, st2.no, st2.k⟩) (st' := st2) (fun _ => rfl) (L.uo x')) ▸ hj
            have := wQ q4 hj'
            exact ⟨by show C.m ≤ j; omega, fun hlt => by omega⟩)
        obtain ⟨o1, o2, o3, _, _, o6⟩ := hM.am1 (fun b hb => (hI b hb).2) hE hkno hkm hrm hwW hbw hcm.lent hh
        exact ⟨o2, o3, _, x', hinv', hux.trans huu, by omega, by rw [hHd]; exact o1⟩
      | ret =>
        obtain ⟨o1, o2, o3, _, _, o6⟩ := hout
        exact ⟨o2, o3, _, ⟨(Hd x).fr, st2.ob, st2.no, st2.k⟩, by omega, o1.adh _, hslot o1.le x, .inl ⟨rfl, hq⟩⟩
      | exit id =>
        obtain ⟨o1, o2, o3, _, _, o6⟩ := hout
        exact ⟨o2, o3, _, ⟨(Hd x).fr, st2.ob, st2.no, st2.k⟩, by omega, o1.adh _, hslot o1.le x, .inr ⟨id, rfl, hq⟩⟩
      | _ => exact hq.elim
    all_goals
      have fin : ∀ {E1 : Env} {st1 : St}, Mid C E st.no w l0 st1 E1 I W → (∀ t, aL E1 (a.tmps.getD t undef) (st1.get t)) → av C E1 st1 { a with defers := { target := .collected D, args := #[] } :: a.defers } W := fun {E1 st1} hM hsl => by
        have hmn : ∀ b, E.mine b → E1.mine b := fun b hb => by unfold Env.mine at *; rw [hM.ws, hM.I_]; exact hb
        refine ⟨h.size, hsl, hM.heap, hM.knc, D :: l0, fun hx => (by rw [hnm] at hx; cases hx), by simp [hld], axw.2 ⟨fun hx => by have := hl0s D hx; omega, hln⟩, fun D' hD' => ?_⟩
        rcases ahy.1 hD' with rfl | hD'
        · exact ⟨⟨by omega, hmn _ (.inl (aiT h.heap.fr.wsz hD))⟩, hdf⟩
        · exact ⟨⟨(hl0 D' hD').1.1, hmn _ (hl0 D' hD').1.2⟩, hM.marks D' hD'⟩
    · obtain ⟨E1, x, hinv, huu, hwW, hM⟩ := hj
      have hq := hdone x hinv
      rw [xJ] at hq
      exact hn .normal (Hd x) E1 _ W (by rw [hHd]; exact hq) (fin hM (hslot hM.le x))
    · obtain ⟨E1, st1, hwW, hM, hsl, ⟨rfl, hq⟩ | ⟨id, rfl, hq⟩⟩ := hj
      · exact wpIn_ret (hn _ st1 E1 _ W hq (fin hM hsl))
      · exact wpIn_exit (hn _ st1 E1 _ W hq (fin hM hsl))
  · exact hk.elim
theorem ad9 (c:Code):anc c:=by
 induction c with
 | skip=>
  intro C X F hm hTb hnt hro hcm hrm hF st Q E a w hk h Qw hn
  exact wpIn_skip (hn _ st E a w hk h)
 | region id ops draw=>
  intro C X F hm hTb hnt hro hcm hrm hF st Q E a w hk h Qw hn
  cases draw with
  | false=>exact aiQ hTb hnt hro hcm hF (fun st' E' a' w' hk' h'=>hn _ st' E' a' w' hk' h') hk h
  | true=>
   obtain ⟨ord,ho,hk⟩:=hk
   grind [aea]
 | seq x y ihx ihy=>
  intro C X F hm hTb hnt hro hcm hrm hF st Q E a w hk h Qw hn
  refine wpIn_seq (ihx C X F hm hTb hnt hro hcm hrm hF st _ E a w hk h _ fun e st' E' a' w' hq h'=>?_)
  cases e with
  | normal=>exact ihy C X F hm hTb hnt hro hcm hrm hF st' Q E' a' w' hq h' Qw hn
  | _=>exact hn _ st' E' a' w' hq h'
 | cond c x y ihx ihy=>
  intro C X F hm hTb hnt hro hcm hrm hF st Q E a w hk h Qw hn
  rw[atu] at hk
  split at hk
  ·rename_i b t hc
   have hcv:=aI h c
   rw[hc] at hcv
   rcases abS hk with ⟨rfl,hk⟩ | ⟨rfl,hk⟩
   ·exact wpIn_cond_true hcv.aO (ihx C X F hm hTb hnt hro hcm hrm hF st Q E a w hk h Qw hn)
   ·exact wpIn_cond_false hcv.aO (ihy C X F hm hTb hnt hro hcm hrm hF st Q E a w hk h Qw hn)
  grind
 | block id x ih=>
  intro C X F hm hTb hnt hro hcm hrm hF st Q E a w hk h Qw hn
  refine wpIn_block (ih C X F hm hTb hnt hro hcm hrm hF st _ E a w hk h _ fun e st' E' a' w' hq h'=>?_)
  cases e with
  | exit j=>
   simp only at hq
   cases hb:j.beq id with
   | true=>
    obtain rfl:=acD hb
    rw[hb] at hq
    simp only[Exit.inBlock,if_true]
    grind
   | false=>
    rw[hb] at hq
    have hne:¬j=id:=fun e=>by simp_all
    simp only[Exit.inBlock,if_neg hne]
    grind
  | _=>exact hn _ st' E' a' w' hq h'
 | loop body ih=>
  intro C X F hm hTb hnt hro hcm hrm hF st Q E a w hk h Qw hn
  obtain ⟨L,hk⟩:=hk
  cases L with
  | unroll n=>
   refine wpIn_loop_rounds n ?_
   simp only at hk
   induction n generalizing st E a w with
   | zero=>exact hk.elim
   | succ n ihn=>
    rw[roundsIn_succ]
    refine ih C X F hm hTb hnt hro hcm hrm hF st _ E a w hk h _ fun e st' E' a' w' hq h'=>?_
    cases e with
    | normal=>exact ihn st' E' a' w' h' hq
    | _=>exact hn _ st' E' a' w' hq h'
  | inv L=>
   obtain ⟨⟨he,hcc⟩,hi,hround⟩:=hk
   obtain ⟨E2,h2⟩:=amg hro hcm.m h hcc.symm he
   obtain ⟨⟨hkd,_,hud,huo,_,_⟩,_,_⟩:=he
   have key:∀(m:Nat) (x:L.X) (E2:Env) (a:Act) (w:World),L.meas x<m→L.inv x→keysOf (L.up x)=keysOf (L.up L.x0)→dh (L.uo x)=dh (L.uo L.x0) →
     av C E2 (iW st (tK body++keysOf (L.up L.x0)) (allRows st (L.up L.x0) (L.uo L.x0)) (L.up x) (L.uo x) (L.cnt x)) a w→Code.roundsIn F 9 X.P body Qw m a w:=by
    intro m
    induction m with
    | zero=>omega
    | succ m ihm=>
     intro x E2 a w hlt hx hk1 hk2 h2
     rw[roundsIn_succ]
     have hr:=hround x hx
     rw[xJ] at hr
     refine ih C X F hm hTb hnt hro hcm hrm hF _ _ E2 a w hr h2 _ fun e st' E' a' w' hq h'=>?_
     cases e with
     | normal=>
      obtain ⟨x',⟨q1,q2⟩,⟨q3,q6⟩,q4,q5⟩:=hq
      obtain ⟨E3,h3⟩:=ani hro hcm.m hrm h (fun t ht=>by grind) q1 q2 (by grind) (by grind) (by grind) h' q6.symm q3
      exact ihm x' E3 a' w' (by omega) q4 (q1.trans hk1) (q2.trans hk2) h3
     | _=>exact hn _ st' E' a' w' hq h'
   exact wpIn_loop_rounds (L.meas L.x0+1) (key _ L.x0 E2 a w (by omega) hi rfl rfl h2)
 | rangeFunc g ps x y ihx ihy=>grind [aq3]
 | exit id=>
  intro C X F hm hTb hnt hro hcm hrm hF st Q E a w hk h Qw hn
  exact wpIn_exit (hn _ st E a w hk h)
 | scope=>exact fun C X F hm hTb hnt hro hcm hrm hF st Q E a w hk=>hk.elim
 | label=>exact fun C X F hm hTb hnt hro hcm hrm hF st Q E a w hk=>hk.elim
 | goto=>exact fun C X F hm hTb hnt hro hcm hrm hF st Q E a w hk=>hk.elim
 | ret=>
  intro C X F hm hTb hnt hro hcm hrm hF st Q E a w hk h Qw hn
  exact wpIn_ret (hn _ st E a w hk h)
 | refuse=>exact fun C X F hm hTb hnt hro hcm hrm hF st Q E a w hk=>hk.elim
def oD:List (Option (Prop×PV))→Option (Prop×List PV)
 | []=>some (True,[])
 | [some (p,d)]=>some (p,[d])
 | some (p,d) :: l=>match oD l with
  | some (q,ds)=>some (p∧q,d :: ds)
  | none=>none
 | none :: _=>none
def vg (st:St) (m:Nat):Nat→SV→Option (Prop×PV)
 | _,.p b d=>some (aa6 b d,d)
 | _,.row i=>match st.obj i with
  | some (.row _ _ n f)=>match m.ble i with
   | true=>some (∀k,k<n→iy (f k)=true,.seq n f)
   | false=>none
  | _=>none
 | _,.sub i sz lo n=>match st.obj i with
  | some (.row _ sz' _ f)=>match (m.ble i).and (sz.beq sz') with
   | true=>some (∀k,k<n→iy (f (lo+k))=true,.seq n (fun k=>f (lo+k)))
   | false=>none
  | _=>none
 | n+1,.own i off=>match m.ble i,st.obj i with
  | true,some (.cells _ cs)=>match oD (cs.map (vg st m n)) with
   | some (p,ds)=>some (p,.pt ds off)
   | none=>none
  | true,some (.arr _ m' f)=>some (∀k,k<m'→iy [f k]=true,.pt (iJ m' f) off)
  | _,_=>none
 | n+1,.agg l=>match oD (l.map (vg st m n)) with
  | some (p,ds)=>some (p,.agg ds)
  | none=>none
 | n+1,.tup l=>match oD (l.map (vg st m n)) with
  | some (p,ds)=>some (p,.tup ds)
  | none=>none
 | n+1,.fn f l=>match oD (l.map (vg st m n)) with
  | some (p,ds)=>some (p,.fn f ds)
  | none=>none
 | _,_=>none
def res1 (X:aY) (st:St):ResultVar→Option SV
 | .tmp t=>some (st.get t)
 | .cell a T=>match look X.Tb T,st.get a with
  | some ⟨d,size,_,_⟩,.own i off=>match st.obj i with
   | some (.cells _ cs)=>dA d.isAgg size off cs
   | some (.arr _ n f)=>match off,su size d with
    | 0,some n'=>match n'.beq n with
     | true=>some (.p false (.arr n f))
     | false=>none
    | _,_=>none
   | _=>none
  | _,_=>none
def ag7 (X:aY) (st:St):List ResultVar→Option (List SV)
 | []=>some []
 | r :: l=>match res1 X st r,ag7 X st l with
  | some s,some ss=>some (s :: ss)
  | _,_=>none
def qm (X:aY) (st:St) (rs:List ResultVar):Option SV:=
 match ag7 X st rs with
 | some [s]=>some s
 | some l=>some (.tup l)
 | none=>none
def ad4 (st:St) (m:Nat) (s c:SV):Prop:=
 match c with
 | .any=>True
 | .p b d=>match vg st m 3 s with
  | some (p,d')=>(b=true→p)∧kY d' d
  | none=>False
 | .own i off=>match s with
  | .own i' off'=>i'=i∧off'=off∧i.blt m=true
  | _=>False
 | .row i=>match s with
  | .row i'=>i'=i∧i.blt m=true
  | _=>False
 | .mp i=>match s with
  | .mp i'=>i'=i∧i.blt m=true
  | _=>False
 | _=>False
def qI (st:St) (m:Nat):List SV→List SV→Prop
 | [],[]=>True
 | [s],[c]=>ad4 st m s c
 | s :: ss,c :: cs=>ad4 st m s c∧qI st m ss cs
 | _,_=>False
def abB (st:St) (m:Nat) (i:Nat):Ob→Prop
 | .cells T cs=>match st.obj i with
  | some (.cells T' cs')=>T'=T∧qI st m cs' cs
  | _=>False
 | .row T sz n f=>match st.obj i with
  | some (.row T' sz' n' f')=>T'=T∧sz'=sz∧n'=n∧∀k,k<n→f' k=f k
  | _=>False
 | .arr T n f=>match st.obj i with
  | some (.arr T' n' f')=>T'=T∧n'=n∧∀k,k<n→f' k=f k
  | _=>False
 | .map kt n get=>match st.obj i with
  | some (.map kt' n' get')=>kt'=kt∧n'=n∧∀k,get' k=get k
  | _=>False
def aaW (st:St) (m:Nat):Nat→List Ob→Prop
 | _,[]=>True
 | i,[o]=>abB st m i o
 | i,o :: os=>abB st m i o∧aaW st m (i+1) os
def akF (X:aY) (rs:List ResultVar) (fresh:Bool) (res:PV) (obs:List Ob):Exit→St→Prop:=fun e st=>
 match e with
 | .normal | .ret=>(match qm X st rs with
  | some s=>match vg st X.m 4 s with
   | some (p,d)=>(fresh=true→p)∧kY d res
   | none=>False
  | none=>False)∧aaW st X.m X.ro obs
 | _=>False
def uZ:Nat→List SV→List (Nat×SV)
 | _,[]=>[]
 | i,s :: l=>(i,s) :: uZ (i+1) l
def mU (args:List SV) (obs:List Ob):St:={ fr:=uZ 0 args,ob:=wH 0 obs,no:=obs.length,k:=none }
def aw5 (P:Program) (Tb:Tab) (fn:Func) (S:Spec) (a:S.A):Prop:=
 ((S.args a).length.ble fn.ntmps=true∧S.ro.ble (S.objs a).length=true∧(S.objs' a).length+S.ro=(S.objs a).length) ∧
  match fn.body with
  | some c=>vc c ⟨P,Tb,fn.ntmps,S.ro,(S.objs a).length,false,none,S.inl,S.gl,true⟩ (mU (S.args a) (S.objs a)) (akF ⟨P,Tb,fn.ntmps,S.ro,(S.objs a).length,false,none,S.inl,S.gl,true⟩ fn.results.toList S.fresh (S.res a) (S.objs' a))
  | none=>False
noncomputable def gG (E : Env) (st : St) (w : World) (m : Nat) : Env :=
  { hd := fun k => if k < m then E.hd k else none
    mem := fun b => match E.mem b with
      | some cs => some cs
      | none => open Classical in if ∃ j o, m ≤ j ∧ st.obj j = some o ∧ E.blk j = some b then (match w.heap[b]? with | some (.cells cs _ _) => some cs | _ => none) else none
    tm := E.tm, ws := E.ws, I := E.I, k := E.k }
theorem nD {E:Env} {st:St} {w:World} {m b:Nat} {cs:Array Value} (h:E.mem b=some cs):(gG E st w m).mem b=some cs:=by simp[gG,h]
theorem sG:∀(l:List (Option (Prop×PV))) (p:Prop) (ds:List PV),oD l=some (p,ds)→l.length=ds.length∧∀(k:Nat) d,ds[k]?=some d→∃q,l[k]?=some (some (q,d))∧(p→q)
 | [],p,ds,h=>by grind [oD]
 | none :: l,p,ds,h=>by grind [oD]
 | [some (p0,d0)],p,ds,h=>by
  grind [oD]
 | some (p0,d0) :: y :: l,p,ds,h=>by
  simp only[oD] at h
  cases hr:oD (y :: l) with
  | none=>simp[hr] at h
  | some r=>
   obtain ⟨c,ds'⟩:=r
   simp only[hr,Option.some.injEq,Prod.mk.injEq] at h
   obtain ⟨rfl,rfl⟩:=h
   obtain ⟨h1,h2⟩:=sG (y :: l) c ds' hr
   refine ⟨by simpa using h1,fun k d hd=>?_⟩
   cases k with
   | zero=>simp at hd;subst hd;exact ⟨p0,by simp,fun h=>h.1⟩
   | succ k=>
    obtain ⟨q,g1,g2⟩:=h2 k d (by simpa using hd)
    exact ⟨q,by simpa using g1,fun h=>g2 h.2⟩
theorem uH:∀{l:List PV},iy l=true→∀(k:Nat) s,l[k]?=some s→∃v,s=.val v
 | [],_,k,s,h=>by simp at h
 | .val v :: l,ha,k,s,h=>by
  cases k with
  | zero=>simp at h;exact ⟨v,h.symm⟩
  | succ k=>exact uH (l:=l) ha k s (by simpa using h)
 | .seq _ _ :: l,ha,k,s,h=>by grind [iy]
 | .pt _ _ :: l,ha,k,s,h=>by grind [iy]
 | .agg _ :: l,ha,k,s,h=>by grind [iy]
 | .tup _ :: l,ha,k,s,h=>by grind [iy]
theorem ai0 {C:Ctx} {E:Env} {st:St} {w:World} (h:bg C E st w) (htr:∀b,C.base≤b→C.tm b):∀(n:Nat) (s:SV) (p:Prop) (d:PV) (v:Value),vg st C.m n s=some (p,d)→aL E v s→∀b,(b=true→p)→aS ((gG E st w C.m).m b) v d:=by
 have lift:∀(b:Bool) (v:Value) (d:PV),aS (E.m b) v d→aS ((gG E st w C.m).m b) v d:=fun b v d hp=>hp.move (fun _ _ hb=>nD hb) rfl
 -- memory of an object of the call's own
 have iV:∀i o bl cs T fr,C.m≤i→st.obj i=some o→E.blk i=some bl→w.heap[bl]?=some (.cells cs T fr)→∀b,(gG E st w C.m).m b bl=some cs:=by
  intro i o bl cs T fr hi ho hb hw b
  obtain ⟨g1,g2⟩:=h.own i o bl ho hb
  have hmem:(gG E st w C.m).mem bl=some cs:=by
   simp only[gG,g1]
   rw[if_pos ⟨i,o,hi,ho,hb⟩,hw]
  cases b with
  | false=>exact hmem
  | true=>
   simp only[Env.m]
   have:E.tm bl:=by rw[h.base];grind
   simp_all [gG]
 have base:∀(n:Nat) (s:SV) (p:Prop) (d:PV) (v:Value),(∃b d',s=.p b d'∧p=aa6 b d'∧d=d')→aL E v s→∀b,(b=true→p)→aS ((gG E st w C.m).m b) v d:=by
  rintro n s p d v ⟨b0,d',rfl,rfl,rfl⟩ hv b hb
  cases hv with
  | p _ _ _ hp=>
   refine lift _ _ _ ?_
   cases b with
   | true=>
    cases b0 with
    | true=>exact hp
    | false=>
     have hb:=hb rfl
     cases d with
     | val u=>have:=hp.aO;subst this;exact .val _
     | agg l=>
      simp only[aa6] at hb
      split at hb
      ·rename_i hall
       obtain ⟨vs,rfl,hl,h1,he⟩:=hp.mX
       refine .agg vs l hl h1 fun k u s hu hs=>?_
       obtain ⟨x,rfl⟩:=uH hall k s hs
       have:=(he k u _ hu hs).aO
       subst this;exact .val _
      ·exact hb.elim
     | arr n f=>exact ahR hb hp
     | _=>exact hb.elim
   | false=>exact hp.mono fun B cs hB=>E.fC b0 _ _ hB
 have rowc:∀(i:Nat) (T:TypeId) (sz n:Nat) (f:Nat→List PV) (v:Value),C.m≤i→st.obj i=some (.row T sz n f)→aL E v (.row i)→∀b,(b=true→∀k,k<n→iy (f k)=true)→aS ((gG E st w C.m).m b) v (.seq n f):=by
  intro i T sz n f v hi hob hv b hb
  obtain ⟨v0,xs,u,hh,hw,hmax,hl,hc,he⟩:=l7 (h.ob _ _ hob)
  cases hv with
  | row _ _ hh2 hsl=>
   rw[hh] at hh2;cases hh2
   rcases hw.2 with ⟨rfl,rfl⟩ | ⟨g,cap,cur,rfl,_,hg,hnc,hcm,hcs,htake⟩
   ·exact .nil _
   ·have hblk:E.blk i=some g:=by grind [Env.blk,aM]
    refine .seq g 0 n cap sz f cur u (iV i _ g cur T _ hi hob hblk hg b) hnc hmax hl (fun j k s hj hs=>?_) (fun j k s hj hs=>?_)
    ·grind
    ·cases b with
     | false=>exact (he j k s hj hs).mono fun B cs hB=>nD hB
     | true=>
      obtain ⟨x,rfl⟩:=uH (hb rfl j hj) k s hs
      have:=(he j k _ hj hs).aO
      rw[this];exact .val x
 have subc:∀(i sz lo n m:Nat) (T:TypeId) (f:Nat→List PV) (v:Value),C.m≤i→st.obj i=some (.row T sz m f)→aL E v (.sub i sz lo n)→∀b,(b=true→∀k,k<n→iy (f (lo+k))=true)→aS ((gG E st w C.m).m b) v (.seq n (fun k=>f (lo+k))):=by
  intro i sz lo n m T f v hi hob hv b hb
  cases hv with
  | sub _ _ _ _ bl n' cap c a hh hle hc hr ha=>
   obtain ⟨rfl,cur,u,hR⟩:=(h.ob _ _ hob).pG hh
   rcases atL n with rfl | hn
   ·exact .emp _ _ _
   ·obtain rfl:=ha (by omega)
    have hblk:E.blk i=some bl:=by grind [Env.blk,aM]
    refine .seq bl (lo*sz) n c sz _ cur (fun j k=>u (lo+j) k) (iV i _ bl cur T _ hi hob hblk hR.heap b) hc (by have:=hR.hmax;omega) (fun j hj=>hR.hl _ (by omega)) (fun j k s hj hs=>?_) (fun j k s hj hs=>?_)
    ·have:=hR.hc (lo+j) k s (by omega) hs
     grind
    ·cases b with
     | false=>exact (hR.he (lo+j) k s (by omega) hs).mono fun B cs hB=>nD hB
     | true=>
      obtain ⟨x,rfl⟩:=uH (hb rfl j hj) k s hs
      have:=(hR.he (lo+j) k _ (by omega) hs).aO
      rw[this];exact .val x
 have subd:∀(i sz lo n:Nat) (n0:Nat) (p:Prop) (d:PV) (v:Value),vg st C.m n0 (.sub i sz lo n)=some (p,d)→aL E v (.sub i sz lo n)→∀b,(b=true→p)→aS ((gG E st w C.m).m b) v d:=by
  intro i sz lo n n0 p d v hp hv b hb
  have go:∀(T:TypeId) (sz' m:Nat) (f:Nat→List PV),st.obj i=some (.row T sz' m f)→(C.m.ble i).and (sz.beq sz')=true→p=(∀k,k<n→iy (f (lo+k))=true)→d=.seq n (fun k=>f (lo+k))→∀b,(b=true→p)→aS ((gG E st w C.m).m b) v d:=by
   rintro T sz' m f hob hble rfl rfl
   simp only[abj] at hble
   grind [Nat.eq_of_beq_eq_true,Nat.le_of_ble_eq_true]
  cases n0<;>simp only[vg] at hp
  all_goals grind
 intro n
 induction n with
 | zero=>
  intro s p d v hp hv
  cases s<;>simp only[vg] at hp<;>try (cases hp;done)
  ·cases hp;exact base 0 _ _ _ v ⟨_,_,rfl,rfl,rfl⟩ hv
  ·grind [Nat.le_of_ble_eq_true]
  ·exact subd _ _ _ _ 0 _ _ v hp hv
 | succ n ih=>
  intro s p d v hp hv
  cases s<;>simp only[vg] at hp<;>try (cases hp;done)
  ·cases hp;exact base 0 _ _ _ v ⟨_,_,rfl,rfl,rfl⟩ hv
  ·rename_i i off
   split at hp
   ·rename_i T cs hble hob
    split at hp
    ·rename_i p' ds hall
     cases hp
     intro b hb
     obtain ⟨bl,hh,rfl⟩:=ji hv
     obtain ⟨bl',vs,hh',hw,hA⟩:=(h.ob _ _ hob).l6
     rw[hh] at hh';cases hh'
     obtain ⟨g1,g2⟩:=sG _ _ _ hall
     have hlen:ds.length=cs.length:=by grind
     have hmm:=iV i _ bl vs T _ (aoH hble) hob (by grind [Env.blk,aM]) hw b
     have get:∀(k:Nat) (s:PV),ds[k]?=some s→∃(u:Value) (c:SV) (q:Prop),vs[k]?=some u∧cs[k]?=some c∧vg st C.m n c=some (q,s)∧(p→q):=by
      intro k s hs
      obtain ⟨q,q1,q2⟩:=g2 k s hs
      simp only[alh] at q1
      cases hc:cs[k]? with
      | none=>grind
      | some c=>
       simp[hc] at q1
       have hk:k<vs.size:=by rw[hA.size];grind
       grind
     have e0:(Value.pointer (some ⟨bl,off,none⟩))=.pointer (some ⟨bl,0+off,none⟩):=by grind
     rw[e0]
     refine .pt bl 0 off ds vs (fun k=>vs.getD k undef) hmm (fun k s hs=>?_) (fun k s hs=>?_)
     ·obtain ⟨u,c,q,r1,r2,r3,r4⟩:=get k s hs
      rw[ajv,ac9,r1]
      exact ⟨rfl,hA.one _ _ r1⟩
     ·obtain ⟨u,c,q,r1,r2,r3,r4⟩:=get k s hs
      rw[ac9,r1]
      exact ih c q s u r3 (hA.rep _ _ _ r1 r2) b (fun hbb=>r4 (hb hbb))
    ·cases hp
   ·rename_i T m' f hble hob
    cases hp
    intro b hb
    obtain ⟨bl,hh,rfl⟩:=ji hv
    obtain ⟨bl',vs,hh',hw,hs0,hvc⟩:=(h.ob _ _ hob).iD
    rw[hh] at hh';cases hh'
    have hmm:=iV i _ bl vs T _ (aoH hble) hob (by grind [Env.blk,aM]) hw b
    have e0:(Value.pointer (some ⟨bl,off,none⟩))=.pointer (some ⟨bl,0+off,none⟩):=by grind
    rw[e0]
    have lt:∀(k:Nat) (s:PV),(iJ m' f)[k]?=some s→k<m'∧s=f k:=fun k s hs=>by
     rw[nY] at hs
     grind
    refine .pt bl 0 off _ vs (fun k=>vs.getD k undef) hmm (fun k s hs=>?_) (fun k s hs=>?_)
    ·obtain ⟨hk,rfl⟩:=lt k s hs
     obtain ⟨u,u1,u2,u3⟩:=hvc k hk
     rw[ajv,ac9,u1];grind
    ·obtain ⟨hk,rfl⟩:=lt k s hs
     obtain ⟨u,u1,u2,u3⟩:=hvc k hk
     rw[ac9,u1]
     cases b with
     | false=>exact u3.mono fun B cs hB=>nD hB
     | true=>
      obtain ⟨x,hx⟩:=uH (hb rfl k hk) 0 (f k) rfl
      rw[hx] at u3 ⊢
      rw[u3.aO];exact .val x
   ·cases hp
  ·grind [Nat.le_of_ble_eq_true]
  ·exact subd _ _ _ _ (n+1) _ _ v hp hv
  ·rename_i l
   split at hp
   ·rename_i p' ds hall
    cases hp
    intro b hb
    obtain ⟨g1,g2⟩:=sG _ _ _ hall
    cases hv with
    | agg vs _ hl h1 he=>
     refine .agg vs ds (by grind) h1 fun k u s hu hs=>?_
     grind
   ·cases hp
  ·rename_i l
   split at hp
   ·rename_i p' ds hall
    cases hp
    intro b hb
    obtain ⟨g1,g2⟩:=sG _ _ _ hall
    cases hv with
    | tup vs _ hl he=>
     refine .tup vs ds (by grind) fun k u s hu hs=>?_
     grind
   ·cases hp
  ·rename_i f l
   split at hp
   ·rename_i p' ds hall
    cases hp
    intro b hb
    obtain ⟨g1,g2⟩:=sG _ _ _ hall
    cases hv with
    | fn _ vs _ hl he=>
     refine .fn _ vs ds (by grind) fun k u s hu hs=>?_
     grind
   ·cases hp
def wT (w w1:World):Prop:=∀(b:Nat) (cs:Array Value) (T:TypeId),w.heap[b]?=some (Obj.cells cs T (0,0))→w1.heap[b]?=w.heap[b]?
def abl (a:Act):ResultVar→Sem Value
 | .tmp t=>pure (a.tmps.getD t undef)
 | .cell x t=>do loadVar t (←asAddr (a.tmps.getD x undef))
theorem aqr {C:Ctx} {E:Env} {st:St} {a:Act} {w:World} (h:av C E st a w) {X:aY} (hTb:X.Tb.Ok X.P) {r:ResultVar} {s:SV} (hr:res1 X st r=some s) :
  ∃v,aL E v s∧∀w1:World,wT w w1 →
   (abl a r).run X.P w1=.ok v w1:=by
 cases r with
 | tmp t=>simp only[res1,Option.some.injEq] at hr;subst hr;exact ⟨_,h.slot t,fun w1 _=>rfl⟩
 | cell x T=>
  simp only[res1] at hr
  split at hr
  ·rename_i d size _ _ i off hi hx
   split at hr
   ·rename_i T' cs hob
    have hxv:=h.slot x
    rw[hx] at hxv
    obtain ⟨b,hb,hxe⟩:=ji hxv
    obtain ⟨b',vs,hb',hw,hA⟩:=(h.heap.ob i _ hob).l6
    rw[hb] at hb';cases hb'
    obtain ⟨v,hv,hs⟩:=yN (P:=X.P) (base:=0) (w:=w) (b:=b) (hTb _ _ hi) (cs:=cs) (E:=E) (fun k s hs=>by
     obtain ⟨u,hu,h1,h2⟩:=hA.at k s hs
     grind [World.cell?]) hr
    refine ⟨v,hs,fun w1 hw1=>?_⟩
    have:=hv w1 (fun k=>by simp[World.cell?,hw1 b _ _ hw])
    simp_all [abl,asAddr]
   ·rename_i T' n f hob
    split at hr
    ·rename_i n' hbig
     split at hr
     ·rename_i hnn
      obtain rfl:=acD hnn
      cases hr
      obtain ⟨e,rfl,rfl,hbm⟩:=pX hbig
      have hxv:=h.slot x
      rw[hx] at hxv
      obtain ⟨b,hb,hxe⟩:=ji hxv
      obtain ⟨b',vs,hb',hw,hs,hvc⟩:=(h.heap.ob i _ hob).iD
      rw[hb] at hb';cases hb'
      obtain ⟨v,hv,hs⟩:=yN (P:=X.P) (base:=0) (w:=w) (b:=b) (off:=0) (hTb _ _ hi) (cs:=fG false (iJ size f)) (E:=E) (fun k s hs=>by
       rw[jW,nY] at hs
       by_cases hk:k<size
       ·rw[if_pos hk] at hs
        simp at hs;subst hs
        obtain ⟨u,h1,h2,h3⟩:=hvc k hk
        exact ⟨u,by grind [World.cell?],h2,.p _ _ _ h3⟩
       grind) (s:=oM (fG false (iJ size f))) (by show dA true _ _ _=_;grind [dA,abY,abU,afg])
      refine ⟨v,.p false _ _ (aey hs),fun w1 hw1=>?_⟩
      have:=hv w1 (fun k=>by simp[World.cell?,hw1 b _ _ hw])
      simp_all [abl,asAddr]
     ·cases hr
    ·cases hr
   ·cases hr
  ·cases hr
theorem aji {C:Ctx} {E:Env} {st:St} {a:Act} {w:World} (h:av C E st a w) {X:aY} (hTb:X.Tb.Ok X.P):∀(rs:List ResultVar) (ss:List SV),ag7 X st rs=some ss →
  ∃vs:List Value,vs.length=ss.length∧(∀(k:Nat) u s,vs[k]?=some u→ss[k]?=some s→aL E u s)∧∀w1:World,wT w w1 →
   (rs.mapM (abl a)).run X.P w1=.ok vs w1
 | [],ss,hr=>by simp_all [ag7]
 | r :: rs,ss,hr=>by
  simp only[ag7] at hr
  split at hr
  ·rename_i s ss' h1 h2
   cases hr
   obtain ⟨v,e1,e2⟩:=aqr h hTb h1
   obtain ⟨vs,f1,f2,f3⟩:=aji h hTb rs ss' h2
   refine ⟨v :: vs,by simp[f1],fun k u s hu hs=>?_,fun w1 hw1=>?_⟩
   ·cases k with
    | zero=>simp at hu hs;subst hu;subst hs;exact e1
    | succ k=>exact f2 k u s (by simpa using hu) (by simpa using hs)
   ·rw[List.mapM_cons]
    simp only[Sem.run_bind,e2 w1 hw1,Result.andThen_ok,f3 w1 hw1,Sem.run_pure]
  ·cases hr
theorem pU {C:Ctx} {E:Env} {st:St} {a:Act} {w:World} (h:av C E st a w) {X:aY} (hTb:X.Tb.Ok X.P) {fn:Func} {s:SV} (hr:qm X st fn.results.toList=some s) :
  ∃v,aL E v s∧∀w1:World,wT w w1→(results fn a.tmps).run X.P w1=.ok v w1:=by
 unfold qm at hr
 have main:∀ss,ag7 X st fn.results.toList=some ss→∃vs:List Value,vs.length=ss.length∧(∀(k:Nat) u s,vs[k]?=some u→ss[k]?=some s→aL E u s)∧∀w1:World,wT w w1 →
   (results fn a.tmps).run X.P w1=.ok (if hh:vs.toArray.size=1 then vs.toArray[0] else .tuple vs.toArray) w1:=by
  intro ss hss
  obtain ⟨vs,f1,f2,f3⟩:=aji h hTb _ ss hss
  refine ⟨vs,f1,f2,fun w1 hw1=>?_⟩
  unfold results
  have he:(fun x:ResultVar=>(match x with | .tmp t=>(pure (a.tmps.getD t undef):Sem Value) | .cell x t=>do loadVar t (←asAddr (a.tmps.getD x undef))))=abl a:=by funext r;cases r<;>rfl
  show (do let vs ←fn.results.mapM (fun x:ResultVar=>(match x with | .tmp t=>(pure (a.tmps.getD t undef):Sem Value) | .cell x t=>do loadVar t (←asAddr (a.tmps.getD x undef))));pure (if h:vs.size=1 then vs[0] else .tuple vs):Sem Value).run X.P w1=_
  grind [Array.mapM_eq_mapM_toList,Sem.run_bind,Sem.run_map,Result.andThen_ok,Sem.run_pure]
 split at hr
 ·rename_i s' hs
  cases hr
  obtain ⟨vs,f1,f2,f3⟩:=main _ hs
  match vs,f1 with
  | [v],_=>exact ⟨v,f2 0 v s rfl rfl,fun w1 hw1=>by grind⟩
 ·rename_i l hne hs
  cases hr
  obtain ⟨vs,f1,f2,f3⟩:=main _ hs
  have hlen:vs.length≠1:=by
   intro he
   rw[f1] at he
   match l,he with
   | [x],_=>grind
  refine ⟨.tuple vs.toArray,.tup _ _ (by simpa using f1) fun k u s hu hs=>f2 k u s (by simpa using hu) hs,fun w1 hw1=>?_⟩
  grind
 ·cases hr
theorem afU {st:St} {m:Nat}:∀(i:Nat) (os:List Ob),aaW st m i os→∀(k:Nat) o,os[k]?=some o→abB st m (i+k) o
 | i,[],_,k,o,ho=>by simp at ho
 | i,[x],h,k,o,ho=>by
  cases k with
  | zero=>simp at ho;subst ho;exact h
  | succ k=>simp at ho
 | i,x :: y :: os,h,k,o,ho=>by
  simp only[aaW] at h
  cases k with
  | zero=>simp at ho;subst ho;exact h.1
  | succ k=>rw[show i+(k+1)=i+1+k by omega];exact afU (i+1) (y :: os) h.2 k o (by simpa using ho)
theorem adA {st:St} {m:Nat}:∀(ss cs:List SV),qI st m ss cs→ss.length=cs.length∧∀(k:Nat) s c,ss[k]?=some s→cs[k]?=some c→ad4 st m s c
 | [],[],_=>by simp
 | [],_ :: _,h=>by grind [qI]
 | _ :: _,[],h=>by grind [qI]
 | [x],[y],h=>by
  refine ⟨rfl,fun k a b ha hb=>?_⟩
  cases k with
  | zero=>simp at ha hb;subst ha;subst hb;exact h
  | succ k=>simp at ha
 | [x],y :: z :: ys,h=>by grind [qI]
 | x :: z :: xs,[y],h=>by grind [qI]
 | x :: x2 :: xs,y :: y2 :: ys,h=>by
  simp only[qI] at h
  obtain ⟨h1,h2⟩:=adA (x2 :: xs) (y2 :: ys) h.2
  refine ⟨by simpa using h1,fun k a b ha hb=>?_⟩
  cases k with
  | zero=>simp at ha hb;subst ha;subst hb;exact h.1
  | succ k=>simp only[anI] at ha hb;exact h2 k a b ha hb
theorem aqm {w0:World} {E0:Env} {S:Spec} {a0:S.A} (hr1:S.ro≤(S.objs a0).length) (hr2:(S.objs' a0).length+S.ro=(S.objs a0).length)
  (h0:bg (lM w0 E0 (S.objs a0) S.ro) E0 (ow (S.objs a0)) w0) {C:Ctx} (hC:∃nt,C={ lM w0 E0 (S.objs a0) S.ro with nt:=nt }) {E:Env} {st:St} {w:World} (h:bg C E st w) (hobs:aaW st C.m S.ro (S.objs' a0))
  {w1:World} (hsc:wT w w1) (hlow:∀k,k<w0.heap.size→w1.heap[k]?=w.heap[k]?) (hos:w1.os=w.os) (htape:w1.tape=w.tape) (hout:w1.output=w.output) (hsz:w1.heap.size=w.heap.size) (hcells:∀(b:Nat) (o:Obj),w.heap[b]?=some o→stC o=true→w1.heap[b]?=w.heap[b]?) :
  bg (lM w0 E0 (S.objs a0) S.ro) (gG E st w C.m) (ow (S.post a0)) w1:=by
 obtain ⟨nt,hC⟩:=hC
 have hm:C.m=(S.objs a0).length:=by rw[hC];rfl
 have hbase:C.base=w0.heap.size:=by rw[hC];rfl
 have hhd0:∀k,k<C.m→E.hd k=E0.hd k:=fun k hk=>by have:=h.hd0 k (alk hk h.mkh);rw[hC] at this;exact this
 have hmem0:∀b cs,E0.mem b=some cs→E.mem b=some cs:=fun b cs hb=>h.mem0 b cs (by rw[hC];exact hb)
 have plen:(S.post a0).length=C.m:=by grind [Spec.post]
 have ehd:∀k,k<C.m→(gG E st w C.m).hd k=E0.hd k:=fun k hk=>by grind [gG]
 have eblk:∀k,k<C.m→(gG E st w C.m).blk k=E0.blk k:=fun k hk=>by grind [Env.blk]
 have objLt:∀k o,(S.post a0)[k]?=some o→k<C.m:=fun k o ho=>by grind
 have obj0:∀k,k<C.m→∃o,(ow (S.objs a0)).obj k=some o:=fun k hk=>by simp_all [gy]
 have wsize:w0.heap.size≤w.heap.size:=by rw[←hbase];exact aiT h.fr.bsz h.fr.wsz
 have memSub:∀b cs,E0.mem b=some cs→(gG E st w C.m).mem b=some cs:=fun b cs hb=>nD (hmem0 b cs hb)
 obtain ⟨hEk,hEI,hEw⟩:E.k=none∧E.I=nZ E0.hd (S.objs a0) S.ro∧E.ws=w0:=by have:=h.fr.sync;rw[hC] at this;exact this
 obtain ⟨hEk0,hEI0,hEw0⟩:E0.k=none∧E0.I=nZ E0.hd (S.objs a0) S.ro∧E0.ws=w0:=h0.fr.sync
 have hmine:∀b,E0.mine b→(gG E st w C.m).mine b:=fun b hb=>by unfold Env.mine at *;rw[hEw0,hEI0] at hb;show E.ws.heap.size≤b∨E.I b;simp_all
 have ebase:(gG E st w C.m).tm=E0.tm:=by
  show E.tm=E0.tm
  rw[h.base,h0.base,hC]
 have htr:∀b,C.base≤b→C.tm b:=fun b hb=>by rw[hC] at hb ⊢;exact hb
 refine ⟨fun k o ho=>?_,fun i j o o' b ho ho' hb hb'=>?_,fun i o b ho hb=>?_,fun b cs hb=>?_,fun b cs hb=>memSub b cs hb,fun b cs hb=>?_,fun i hi=>?_,ebase.trans h0.base,⟨?_,?_,?_,?_,?_,by show E.ws.os=w0.os∧E.ws.tape=w0.tape∧E.ws.output=w0.output;grind,h.fr.isz,fun k hk hbor=>?_,⟨hEk,hEI,hEw⟩⟩,fun k hk=>ehd k (by rw[hm];exact hk),by show (S.objs a0).length≤(S.post a0).length;omega,abm _,hEk⟩
 ·rw[gy] at ho
  have hk:=objLt k o ho
  rw[aiM,Nat.min_eq_left hr1] at ho
  by_cases hkr:k<S.ro
  ·rw[if_pos hkr] at ho
   have h1:=h0.ob k o (by grind [gy])
   refine ((h1.move (no:=C.m) (fun i hi=>ehd i hi) memSub ebase hk (h1.lt (fun i hi=>h0.new i (by show (S.objs a0).length≤i;omega))))).world fun b hb=>?_
   have hb0:E0.blk k=some b:=by grind
   have hlt:=h1.iZ hb0
   rw[hlow b hlt]
   have hb2:=h.fr.block b (by grind) (fun hbor=>by
    rw[hEI] at hbor
    obtain ⟨k',o',g1,g2,g3⟩:=hbor
    have:=h0.sep k k' o o' b (by grind [gy]) (by grind [gy]) hb0 g3
    omega)
   rw[hb2,hEw]
  ·rw[if_neg hkr] at ho
   have he:=afU _ _ hobs _ o ho
   rw[show S.ro+(k-S.ro)=k by omega] at he
   cases o with
   | cells T cs=>
    simp only[abB] at he
    split at he
    ·rename_i T' cs' hob
     obtain ⟨rfl,he⟩:=he
     obtain ⟨hl,hg⟩:=adA _ _ he
     obtain ⟨bl,vs,e1,e2,e3⟩:=(h.ob k _ hob).l6
     refine .cells bl _ vs cs (by grind) (by rw[hsc bl _ _ e2];exact e2) (by rw[e3.size];exact hl) e3.one fun q u c hu hc=>?_
     have hq:q<cs'.length:=by grind
     have hs:=aav hq
     have hE:=hg q _ c hs hc
     have hR:=e3.rep q u _ hu hs
     unfold ad4 at hE
     split at hE
     ·exact .any _
     ·split at hE
      ·rename_i p d' hp
       exact .p _ _ _ (rH hE.2 (ai0 h htr 3 _ _ _ u hp hR _ hE.1))
      grind
     ·split at hE
      ·rename_i i' off' hs'
       obtain ⟨rfl,rfl,hlt⟩:=hE
       rw[hs'] at hR
       obtain ⟨b2,g1,rfl⟩:=ji hR
       have hlt':i'<C.m:=by simp_all
       exact .own _ _ b2 (by grind)
      grind
     ·split at hE
      ·rename_i i' hs'
       obtain ⟨rfl,hlt⟩:=hE
       rw[hs'] at hR
       have hlt':i'<C.m:=by simp_all
       cases hR with | row _ _ g1 g2=>exact .row _ _ (by grind) g2
      grind
     ·split at hE
      ·rename_i i' hs'
       obtain ⟨rfl,hlt⟩:=hE
       rw[hs'] at hR
       have hlt':i'<C.m:=by simp_all
       cases hR with | mp _ r g1=>exact .mp _ r (by grind)
      grind
     grind
    grind
   | row T sz n f=>
    simp only[abB] at he
    split at he
    ·rename_i T' sz' n' f' hob
     obtain ⟨rfl,rfl,rfl,he⟩:=he
     obtain ⟨v0,xs,u,hh,hw,hmax,hl,hc,hee⟩:=l7 (h.ob _ _ hob)
     refine (dP.row _ _ _ f v0 xs u (by grind) hw hmax (fun q hq=>by grind) (fun q r s hq hs=>hc q r s hq (by grind)) (fun q r s hq hs=>(hee q r s hq (by grind)).mono fun b cs hb=>nD hb):dP (gG E st w C.m) w k _).world fun b hb=>?_
     rcases hw.2 with ⟨rfl,_⟩ | ⟨g,cap,cur,rfl,_,hg,_⟩
     ·grind [Env.blk,aM]
     ·have:(gG E st w C.m).blk k=some g:=by grind [Env.blk,aM]
      rw[this] at hb;cases hb
      exact hsc _ _ _ hg
    grind
   | arr T n f=>
    simp only[abB] at he
    split at he
    ·rename_i T' n' f' hob
     obtain ⟨rfl,rfl,he⟩:=he
     obtain ⟨b,vs,hh,hw,hs,hvc⟩:=(h.ob _ _ hob).iD
     exact dP.wz (by rw[ehd k hk,←hhd0 k hk];exact hh) (by rw[hsc b _ _ hw];exact hw) hs fun q hq=>by
      obtain ⟨u,u1,u2,u3⟩:=hvc q hq
      exact ⟨u,u1,u2,by rw[←he q hq];exact u3.mono fun b cs hb=>nD hb⟩
    grind
   | map kt n get=>
    simp only[abB] at he
    split at he
    ·rename_i kt' n' get' hob
     obtain ⟨rfl,rfl,he⟩:=he
     obtain ⟨r,es,clock,hh,hw,h1,h2,h3,h4⟩:=(h.ob _ _ hob).xX
     have e:=funext he
     exact .map r es clock _ _ _ (by grind) (by rw[hcells r _ hw rfl];exact hw) h1 h2 h3 (by rw[←e];exact h4.mono fun b cs hb=>nD hb)
    grind
 ·rw[gy] at ho ho'
  have hi:=objLt i o ho
  have hj:=objLt j o' ho'
  obtain ⟨o1,h1⟩:=obj0 i hi
  obtain ⟨o2,h2⟩:=obj0 j hj
  rw[eblk i hi] at hb;rw[eblk j hj] at hb'
  exact h0.sep i j o1 o2 b h1 h2 hb hb'
 ·rw[gy] at ho
  have hi:=objLt i o ho
  obtain ⟨o1,h1⟩:=obj0 i hi
  rw[eblk i hi] at hb
  have hlt:=(h0.ob i o1 h1).iZ hb
  obtain ⟨g1,g2,g3⟩:=h0.own i o1 b h1 hb
  refine ⟨?_,g2,g3.imp_left (hmine b)⟩
  have hE:E.mem b=none:=by
   cases hm2:E.mem b with
   | none=>rfl
   | some cs=>
    rcases h.memnew b cs hm2 with x | x
    ·rw[hC] at x;have x':E0.mem b=some cs:=x;grind
    ·omega
  simp only[gG,hE]
  rw[if_neg]
  rintro ⟨j,oj,hj,hoj,hbj⟩
  have:=(h.own j oj b hoj hbj).2.1
  omega
 ·simp only[gG] at hb
  cases hE:E.mem b with
  | some c=>
   rw[hE] at hb;cases hb
   obtain ⟨T,fr,hw⟩:=h.mem b _ hE
   exact ⟨T,fr,by rw[hcells b _ hw rfl];exact hw⟩
  | none=>
   rw[hE] at hb
   simp only at hb
   split at hb
   ·split at hb
    ·rename_i c T fr hw
     cases hb;exact ⟨T,fr,by rw[hcells b _ hw rfl];exact hw⟩
    ·cases hb
   ·cases hb
 ·simp only[gG] at hb
  cases hE:E.mem b with
  | some c=>
   rw[hE] at hb;cases hb
   rcases h.memnew b _ hE with x | x
   ·simp_all
   ·exact .inr (by rw[hbase] at x;exact x)
  | none=>
   rw[hE] at hb
   simp only at hb
   split at hb
   ·rename_i hex
    obtain ⟨j,oj,hj,hoj,hbj⟩:=hex
    obtain ⟨_,g2,g3⟩:=h.own j oj b hoj hbj
    have g2:=g2.resolve_right (fun x=>by omega)
    have g3:=g3.resolve_right (fun x=>by omega)
    exact .inr ⟨by grind,g3⟩
   ·cases hb
 ·grind [ow,gG]
 ·rw[hos,h.fr.os,hC]
 ·rw[htape,h.fr.tape,hC]
 ·rw[hout,h.fr.output,hC]
 ·show w0.heap.size≤E.ws.heap.size;grind
 ·show E.ws.heap.size≤w1.heap.size;grind
 ·have hk':k<E.ws.heap.size:=hk
  rw[hEw] at hk'
  have hb':¬E.I k:=hbor
  rw[hlow k hk',h.fr.block k hk hb'];rfl
theorem o9:∀(l:List SV) (i k:Nat),look (uZ i l) k=if i≤k then l[k-i]? else none
 | [],i,k=>by simp[uZ,look]
 | o :: l,i,k=>by
  simp only[uZ,bq,o9 l (i+1) k]
  grind
theorem mJ {P:Program} {fn:Func} {tmps:Array Value} {R:Ending→World→Prop}:∀(l:List Nat) (w:World),l.Nodup→(∀D∈l,w.heap[D]?=some (.deferred (some []))) →
  (∀w1:World,w1.os=w.os→w1.tape=w.tape→w1.output=w.output→w1.heap.size=w.heap.size→(∀k,k∉l→w1.heap[k]?=w.heap[k]?)→∃v,(results fn tmps).run P w1=.ok v w1∧R (.returned v) w1) →
  LeavesInM Fence.wide 9 P fn tmps R (l.map fun D=>{ target:=.collected D,args:=#[] }) .returning w
 | [],w,_,_,h=>h w rfl rfl rfl rfl fun _ _=>rfl
 | D :: l,w,hn,hD,h=>by
  simp only[awv]
  refine ⟨by simp,.inl ⟨D,_,rfl,run_takeDeferred (hD D (by simp)),?_⟩⟩
  have hnd:=axw.1 hn
  refine mJ l _ hnd.2 (fun D' hD'=>?_) fun w1 h1 h2 h3 h4 h5=>h w1 (h1.trans rfl) (h2.trans rfl) (h3.trans rfl) (h4.trans (by simp_all)) fun k hk=>?_
  ·grind [World.putObj_heap_other]
  simp_all [World.putObj_heap_other]
theorem avC {P:Program} {Tb:Tab} {f:Nat} {fn:Func} {S:Spec} (hm:P.follows .mixedOrders=true) (hTb:Tb.Ok P) (hf:P.funcs[f]?=some fn) (hnm:(fn.name=="runtime.NumGoroutine")=false) (hb:fn.body.isSome=true)
  (h:∀a,S.pre a→aw5 P Tb fn S a):ay P f S:=by
 refine ⟨⟨fn,hf,hb,hnm⟩,fun a0 hpre E vs w hgl hh hA=>?_⟩
 obtain ⟨⟨h1,h2,h3⟩,hvc⟩:=h a0 hpre
 cases hbody:fn.body with
 | none=>grind
 | some c=>
  simp only[hbody] at hvc
  have hro:S.ro≤(S.objs a0).length:=aoH h2
  have hlen:(S.args a0).length≤fn.ntmps:=aoH h1
  obtain ⟨hsz,hrep⟩:=hA
  refine callsIn_wide.1 (callsIn_of_wp_marks (F:=Fence.wide) (n:=9) hf hbody trivial ?_ rfl)
  refine ad9 c { lM w E (S.objs a0) S.ro with nt:=fn.ntmps } ⟨P,Tb,fn.ntmps,S.ro,(S.objs a0).length,false,none,S.inl,S.gl,true⟩ _ hm hTb rfl rfl ⟨rfl,fun l xs hy=>(by cases hy),fun _=>⟨rfl,rfl⟩,fun i b hi hb=>?_,hro,hgl,fun _ _ hb=>hb⟩ hro (.inl rfl) _ _ E _ w hvc ⟨?_,fun t=>?_,?_,(fun D o hD _=>by grind [lM]),[],fun _=>rfl,rfl,awp,by simp⟩ _ ?_
  ·have hi':i<(S.objs a0).length:=hi
   exact (hh.ob i _ (by rw[gy];exact aav hi')).iZ hb
  ·simp;omega
  ·have hget:(mU (S.args a0) (S.objs a0)).get t=match (S.args a0)[t]? with | some s=>s | none=>.any:=by
    unfold mU St.get
    simp only[o9,akx,if_true,awo]
    cases (S.args a0)[t]?<;>rfl
   rw[hget]
   cases hs:(S.args a0)[t]? with
   | none=>exact .any _
   | some s=>
    have ht:t<vs.size:=by grind
    have hu:vs[t]?=some vs[t]:=acC ht
    have:(vs++Array.replicate (fn.ntmps-vs.size) undef).getD t undef=vs[t]:=by
     rw[ac9,aut ht,hu];rfl
    grind
  ·exact ⟨fun i o ho=>hh.ob i o ho,fun i j o o' b ho ho'=>hh.sep i j o o' b ho ho',fun i o b ho hb=>hh.own i o b ho hb,hh.mem,hh.mem0,hh.memnew,fun i hi=>hh.new i hi,hh.base,⟨hh.fr.os,hh.fr.tape,hh.fr.output,hh.fr.bsz,hh.fr.wsz,hh.fr.wos,hh.fr.isz,hh.fr.block,hh.fr.sync⟩,hh.hd0,hh.mno,hh.mkh,hh.kk⟩
  ·intro e st' E' a' w' hq hM
   have main:(match qm ⟨P,Tb,fn.ntmps,S.ro,(S.objs a0).length,false,none,S.inl,S.gl,true⟩ st' fn.results.toList with
     | some s=>match vg st' (S.objs a0).length 4 s with
      | some (p,d)=>(S.fresh=true→p)∧kY d (S.res a0)
      | none=>False
     | none=>False)∧aaW st' (S.objs a0).length S.ro (S.objs' a0) →
     LeavesInM Fence.wide 9 P fn a'.tmps (fun e w'=>∃v E',e=.returned v∧aS (E'.m S.fresh) v (S.res a0)∧bg (lM w E (S.objs a0) S.ro) E' (ow (S.post a0)) w') a'.defers .returning w':=by
    rintro ⟨hres,hobs⟩
    split at hres
    ·rename_i s hs
     split at hres
     ·rename_i p d hp
      obtain ⟨v,hv,hrun⟩:=pU hM hTb hs
      obtain ⟨_,l,_,hl1,hl2,hl3⟩:=hM.marks
      rw[hl1]
      refine mJ l w' hl2 (fun D hD=>(hl3 D hD).2) fun w1 g1 g2 g3 g4 g5=>?_
      have hnot:∀(b:Nat) (o:Obj),w'.heap[b]?=some o→stC o=true→b∉l:=fun b o hb ho hm=>by rw[(hl3 b hm).2] at hb;cases hb;cases ho
      refine ⟨v,hrun w1 (fun b cs T hb=>g5 b (hnot b _ hb rfl)),v,_,rfl,?_,aqm hro h3 hh ⟨fn.ntmps,rfl⟩ hM.heap hobs (fun b cs T hb=>g5 b (hnot b _ hb rfl)) (fun k hk=>g5 k fun hm=>?_) g1 g2 g3 g4 (fun b o hb ho=>g5 b (hnot b _ hb ho))⟩
      ·exact rH hres.2 (ai0 hM.heap (fun _ hb=>hb) 4 s p d v hp hv S.fresh hres.1)
      ·have:=(hl3 k hm).1.1
       have this:w.heap.size≤k:=this
       omega
     grind
    grind
   cases e with
   | normal=>exact main hq
   | ret=>exact main hq
   | _=>exact hq.elim
def awE (X:aY) (rs:List ResultVar) (n:Nat):Exit→St→Prop:=fun e st=>
 match e with
 | .normal | .ret=>(match qm X st rs with | some _=>True | none=>False)∧(match st.k with | none=>True | some k=>k=n)
 | _=>False
def apf (inl:List Nat) (P:Program) (Tb:Tab) (fn:Func) (S:ug) (a:S.A):Prop:=
 ((S.capt a).length+1).ble fn.ntmps=true∧∀l:Nat,
  match fn.body with
  | some c=>vc c ⟨P,Tb,fn.ntmps,0,0,false,some (l,S.xs a),inl,[],false⟩ ⟨uZ 0 (.p false (.val (.func (.yield l) #[] #[])) :: fG true (S.capt a)),[],0,some 0⟩ (awE ⟨P,Tb,fn.ntmps,0,0,false,some (l,S.xs a),inl,[],false⟩ fn.results.toList (S.xs a).length)
  | none=>False
def av5 (P:Program) (Tb:Tab) (fn:Func) (S:ug) (a:S.A):Prop:=apf [] P Tb fn S a
theorem apo (inl:List Nat) {P:Program} {Tb:Tab} {f:Nat} {fn:Func} {S:ug} (hm:P.follows .mixedOrders=true) (hTb:Tb.Ok P) (hf:P.funcs[f]?=some fn) (hnm:(fn.name=="runtime.NumGoroutine")=false) (hb:fn.body.isSome=true)
  (h:∀a,S.pre a→apf inl P Tb fn S a):aga P f S:=by
 refine ⟨⟨fn,hf,hb,hnm⟩,fun a0 hpre=>?_⟩
 obtain ⟨h1,hvc⟩:=h a0 hpre
 intro μ lb hsz hrep
 intro l J W hstab hy hJ0 hμ
 have hvc:=hvc l
 cases hbody:fn.body with
 | none=>grind
 | some c=>
  simp only[hbody] at hvc
  have hlen:(S.capt a0).length+1≤fn.ntmps:=aoH h1
  obtain ⟨C,hC⟩:∃C:Ctx,C={ w0:=W,bor:=fun _=>False,mem0:=μ,base:=W.heap.size,nt:=fn.ntmps,hd0:=fun _=>none,m:=0,ro:=0,kh:=0,wk:={ W with heap:=#[] },nm:=false,J:=J,tm:=fun b=>∃cs,μ b=some cs }:=⟨_,rfl⟩
  obtain ⟨E,hE⟩:∃E:Env,E={ hd:=fun _=>none,mem:=μ,tm:=fun b=>∃cs,μ b=some cs,ws:=W,I:=fun _=>False,k:=some 0 }:=⟨_,rfl⟩
  refine callsIn_of_wp_marks (F:=Fence.wide) (n:=9) hf hbody trivial ?_ rfl
  refine ad9 c C ⟨P,Tb,fn.ntmps,0,0,false,some (l,S.xs a0),inl,[],false⟩ _ hm hTb (by rw[hC]) (by rw[hC]) ⟨by rw[hC],fun l' xs hx=>?_,fun _=>⟨rfl,by rw[hC]⟩,fun i b hi hb=>by grind,by grind,fun p hp=>(by cases hp),fun hx=>(by cases hx)⟩ (by grind) (.inl rfl) _ _ E _ W hvc ⟨?_,fun t=>?_,?_,fun D o hD _=>by grind,[],fun _=>rfl,rfl,awp,by simp⟩ _ ?_
  ·cases hx
   refine ⟨⟨fun k x us I W1 hx hus hJ=>?_,by grind,by rw[hC],by simp_all⟩,rfl⟩
   have:=hy k x us I W1 hx ⟨hus.1,fun q u s hu hs=>(hus.2 q u s hu hs).mono fun b cs hb=>by
    simp_all [Ctx.agI]⟩ (by simp_all)
   simp_all
  ·grind
  ·have hget:St.get ⟨uZ 0 (.p false (.val (.func (.yield l) #[] #[])) :: fG true (S.capt a0)),[],0,some 0⟩ t=match (SV.p false (.val (.func (.yield l) #[] #[])) :: fG true (S.capt a0))[t]? with | some s=>s | none=>.any:=by
    unfold St.get
    simp only[o9,akx,if_true,awo]
    cases (SV.p false (.val (.func (.yield l) #[] #[])) :: fG true (S.capt a0))[t]?<;>rfl
   rw[hget]
   cases t with
   | zero=>
    have:(#[Value.func (.yield l) #[] #[]]++lb++Array.replicate (fn.ntmps-(#[Value.func (.yield l) #[] #[]]++lb).size) undef).getD 0 undef=.func (.yield l) #[] #[]:=by
     simp_all [aut]
    rw[this]
    exact .val _ _
   | succ t=>
    simp only[anI]
    rw[jW]
    cases hs:(S.capt a0)[t]? with
    | none=>exact .any _
    | some s=>
     have ht:t<lb.size:=by grind
     have hu:lb[t]?=some lb[t]:=acC ht
     have:(#[Value.func (.yield l) #[] #[]]++lb++Array.replicate (fn.ntmps-(#[Value.func (.yield l) #[] #[]]++lb).size) undef).getD (t+1) undef=lb[t]:=by
      rw[ac9,aut (by simp;omega),Array.getElem?_append_right (by simp)]
      simp[hu]
     rw[this]
     refine .p _ _ _ ?_
     have:=hrep t _ s hu hs
     refine this.mono fun b cs hb=>?_
     simp_all [Env.m]
  ·refine ⟨fun i o ho=>?_,fun i j o o' b ho=>?_,fun i o b ho=>?_,fun b cs hb=>?_,fun b cs hb=>?_,fun b cs hb=>?_,fun i _=>by rw[hE],by rw[hE,hC],⟨by rw[hC],by rw[hC],by rw[hC],by grind,by grind,by grind,fun b hb=>by simp_all,fun k _ _=>by rw[hE],by simp_all⟩,fun k hk=>by grind,by grind,by grind,by rw[hE]⟩
   ·cases ho
   ·cases ho
   ·cases ho
   ·rw[hE] at hb;exact hμ b cs hb
   all_goals simp_all
  ·intro e st' E' a' w' hq hM
   have main:(match qm ⟨P,Tb,fn.ntmps,0,0,false,some (l,S.xs a0),inl,[],false⟩ st' fn.results.toList with | some _=>True | none=>False)∧(match st'.k with | none=>True | some k=>k=(S.xs a0).length) →
     LeavesInM Fence.wide 9 P fn a'.tmps (fun e W'=>(∃v,e=.returned v)∧∃I k,J k I W'∧(k=some (S.xs a0).length∨k=none)) a'.defers .returning w':=by
    rintro ⟨hres,hk⟩
    split at hres
    ·rename_i s hs
     obtain ⟨v,hv,hrun⟩:=pU hM hTb hs
     obtain ⟨_,l,_,hl1,hl2,hl3⟩:=hM.marks
     rw[hl1]
     refine mJ l w' hl2 (fun D hD=>(hl3 D hD).2) fun w1 g1 g2 g3 g4 g5=>?_
     have hnot:∀(b:Nat) (cs:Array Value) (T:TypeId) (fr:Nat×Nat),w'.heap[b]?=some (Obj.cells cs T fr)→b∉l:=fun b cs T fr hb hm=>by grind
     refine ⟨v,hrun w1 (fun b cs T hb=>g5 b (hnot b _ _ _ hb)),⟨v,rfl⟩,fun b=>E'.I b∨(E'.ws.heap.size≤b∧b<w1.heap.size),E'.k,?_,?_⟩
     ·have hF:=hM.heap.fr
      have hs:=hF.sync
      rw[hC] at hs
      have hwos:=hF.wos
      refine hstab _ _ _ _ _ hs (fun b hb=>.inl hb) (fun b hb=>hb.imp id (fun x=>x.1)) (fun b hb=>hb.elim (fun x=>?_) (fun x=>x.2)) ?_ ?_ ?_ (by rw[g4];exact hF.wsz) (fun b hb hn=>?_)
      ·rw[g4];exact alk (hF.isz b x) hF.wsz
      ·rw[g1,hF.os,hwos.1]
      ·rw[g2,hF.tape,hwos.2.1]
      ·rw[g3,hF.output,hwos.2.2]
      ·rw[g5 b (fun hm=>by
        grind [Env.mine])]
       exact hF.block b hb hn
     ·have hkk:=hM.heap.kk
      grind
    grind
   cases e with
   | normal=>exact main hq
   | ret=>exact main hq
   | _=>exact hq.elim
theorem av1 {P:Program} {Tb:Tab} {f:Nat} {fn:Func} {S:ug} (hm:P.follows .mixedOrders=true) (hTb:Tb.Ok P) (hf:P.funcs[f]?=some fn) (hnm:(fn.name=="runtime.NumGoroutine")=false) (hb:fn.body.isSome=true)
  (h:∀a,S.pre a→av5 P Tb fn S a):aga P f S:=apo [] hm hTb hf hnm hb h
def aaG (P:Program) (t:Nat):Option (Option (List (Nat×Nat)×Bool×Bool)×Bool):=
 (P.underlying t).map fun d=>match d with
  | .struct fs=>(some (sJ fs,fs.all (fun f=>f.name != "_"),fs.all (fun f=>(P.info? f.type).isSome)),false)
  | .array _ _=>(none,false)
  | _=>(none,true)
def ahz (P:Program) (t:Nat):Option (Option Value×Nat×Nat):=(P.info? t).map fun i=>(i.zero,i.size,i.bytes)
def anR:Value→Bool
 | .agg _=>false
 | _=>true
theorem TI.mk' {P:Program} {t:Nat} {d:TD} {size bytes:Nat} {z:Value} {zs:List Value} (hd:d.Ok P t) (hi:ahz P t=some (some z,size,bytes)) (hz:z.cells.toList=zs)
  (h1:zs.all (fun u=>u.oneCell')=true) (hs:zs.length=size) (hna:d.isAgg=true∨anR z=true:=by first | exact .inl rfl | exact .inr rfl):TI.Ok P t ⟨d,size,bytes,zs⟩:=by
 unfold ahz at hi
 obtain ⟨I,hI,he⟩:=axy.1 hi
 simp only[Prod.mk.injEq] at he
 refine ⟨hd,⟨I,hI,he.2.1,he.2.2,z,he.1,hz,fun k u hu=>?_,?_⟩,fun hag=>⟨I,z,hI,he.1,?_⟩⟩
 ·grind
 ·grind
 ·have hna:=hna.resolve_left (by grind)
  cases z<;>first | rfl | grind [anR]
theorem TD.au {P:Program} {t:Nat} (h:(aaG P t).map (·.2)=some true):TD.other.Ok P t:=by
 unfold aaG at h
 cases hu:P.underlying t with
 | none=>grind
 | some d=>
  rw[hu] at h
  refine ⟨d,hu,fun fs e=>?_,fun n e e'=>?_⟩<;>· grind
theorem TD.mkStruct {P:Program} {t:Nat} {l:List (Nat×Nat)} (h:(aaG P t).map (·.1)=some (some (l,true,true))) (h2:P.stoodInHeld t=false) (h3:P.eqGuardType P.depth t=false):(TD.struct l).Ok P t:=by
 unfold aaG at h
 cases hu:P.underlying t with
 | none=>grind
 | some d=>
  rw[hu] at h
  cases d with
  | struct fs=>
   simp only[apr,Option.some.injEq,Prod.mk.injEq] at h
   exact ⟨fs,hu,h.1,h2,h.2.1,h3,h.2.2⟩
  | _=>simp at h
theorem Tab.avd {P:Program}:Tab.Ok P []:=fun t i h=>by cases h
theorem Tab.aj {P:Program} {k:Nat} {i:TI} {l:Tab} (h:TI.Ok P k i) (hl:Tab.Ok P l):Tab.Ok P ((k,i) :: l):=fun t j hj=>by
 rw[bq] at hj
 split at hj
 ·grind
 ·exact hl t j hj
abbrev U := BitVec 64
theorem uLt (x:U):x.toNat<18446744073709551616:=x.isLt
theorem arE (x y:U):bits .and .u64 (x.toNat:Int) (y.toNat:Int)=((x &&& y).toNat:Int):=by
 grind [u64_and_nat,uLt]
theorem aw0 (x y:U):bits .or .u64 (x.toNat:Int) (y.toNat:Int)=((x ||| y).toNat:Int):=by
 grind [u64_or_nat,uLt]
theorem avR (x y:U):bits .xor .u64 (x.toNat:Int) (y.toNat:Int)=((x ^^^ y).toNat:Int):=by
 grind [u64_xor_nat,uLt]
theorem aqA (x y:U):bits .andNot .u64 (x.toNat:Int) (y.toNat:Int)=((x &&& ~~~y).toNat:Int):=by
 grind [u64_andNot_nat,uLt]
theorem arN (x y:U):IntKind.u64.wrap ((x.toNat:Int)+(y.toNat:Int))=((x+y).toNat:Int):=by
 grind [IntKind.wrap_u64]
theorem arJ (x y:U):IntKind.u64.wrap ((x.toNat:Int)-(y.toNat:Int))=((x-y).toNat:Int):=by
 grind [IntKind.wrap_u64,uLt]
theorem arT (x:U) (k:Nat):IntKind.u64.wrap ((x.toNat:Int)*2 ^ (min k IntKind.u64.bits))=((x <<< k).toNat:Int):=by
 have e:((x.toNat:Int)*2 ^ (min k IntKind.u64.bits))=((x.toNat*2 ^ (min k 64):Nat):Int):=by simp[IntKind.bits]
 rw[e,IntKind.wrap_u64,BitVec.toNat_shiftLeft,Nat.shiftLeft_eq]
 rcases axd k 64 with h | h
 ·grind
 ·rw[Nat.min_eq_right h]
  obtain ⟨j,rfl⟩:∃j,k=64+j:=⟨k-64,by omega⟩
  have:x.toNat*2 ^ (64+j)=(x.toNat*2 ^ j)*18446744073709551616:=by grind
  omega
theorem avM (x:U) (k:Nat):((x.toNat:Int)).fdiv (2 ^ (min k IntKind.u64.bits))=((x >>> k).toNat:Int):=by
 have e:((2:Int) ^ (min k IntKind.u64.bits))=((2 ^ (min k 64):Nat):Int):=by simp[IntKind.bits]
 rw[e,Int.fdiv_eq_ediv_of_nonneg _ (aa1 _),←Int.natCast_ediv,BitVec.toNat_ushiftRight,Nat.shiftRight_eq_div_pow]
 rcases axd k 64 with h | h
 ·grind
 ·rw[Nat.min_eq_right h]
  have h1:x.toNat / 2 ^ 64=0:=axr x.isLt
  have h2:x.toNat / 2 ^ k=0:=axr (alk x.isLt (Nat.pow_le_pow_right (by omega) h))
  rw[h1,h2]
theorem aiv {x y:U}:((x.toNat:Int)=(y.toNat:Int))↔x=y:=by
 grind [BitVec.eq_of_toNat_eq]
theorem aiA (x y:U):((x.toNat:Int)==(y.toNat:Int))=(x==y):=by
 rw[arR];simp[aiv]
theorem am9 (x y:U):((x.toNat:Int) != (y.toNat:Int))=(x != y):=by
 simp[bne,aiA]
theorem awG (x y:U):decide ((x.toNat:Int)<(y.toNat:Int))=decide (x<y):=by
 simp[BitVec.lt_def]
theorem awL (x y:U):decide ((x.toNat:Int)≤(y.toNat:Int))=decide (x≤y):=by
 simp[BitVec.le_def]
theorem ko {n:Int} (h1:-9223372036854775808≤n) (h2:n<9223372036854775808):IntKind.i64.wrap n=n:=by
 grind [IntKind.wrap,IntKind.bits,IntKind.signed]
theorem aui (x:U):((x.toNat:Int)==0)=(x==0#64):=aiA x 0#64
theorem avz (x:U):((x.toNat:Int) != 0)=(x != 0#64):=am9 x 0#64
theorem auE (x:U):((x.toNat:Int)==1)=(x==1#64):=aiA x 1#64
theorem atS (x:U):((x.toNat:Int) != 1)=(x != 1#64):=am9 x 1#64
theorem avw (x:U):bits .and .u64 (x.toNat:Int) 1=((x &&& 1#64).toNat:Int):=arE x 1#64
theorem aur (x:U):IntKind.u64.wrap ((x.toNat:Int)+1)=((x+1#64).toNat:Int):=arN x 1#64
theorem auP (x:U):IntKind.u64.wrap ((x.toNat:Int)-1)=((x-1#64).toNat:Int):=arJ x 1#64
theorem auM (k:Nat):IntKind.u64.wrap (1*2 ^ (min k IntKind.u64.bits))=((1#64 <<< k).toNat:Int):=arT 1#64 k
theorem atH (x:U):((x.toNat:Int)=0)=(x=0#64):=propext (aiv (x:=x) (y:=0#64))
theorem asS (x:U):((x.toNat:Int)=1)=(x=1#64):=propext (aiv (x:=x) (y:=1#64))
theorem auK (x y:U):((x.toNat:Int)=(y.toNat:Int))=(x=y):=propext aiv
theorem amY (x:U) (k:Nat):(x >>> k &&& 1#64==1#64)=x.getLsbD k:=by
 rw[arR,beq_iff_eq]
 constructor
 ·intro h
  have:=congrArg (fun b:U=>b.getLsbD 0) h
  simpa using this
 grind
theorem ajq (x:U) (k:Nat):(x >>> k &&& 1#64==0#64)=!x.getLsbD k:=by
 rw[arR,beq_iff_eq]
 constructor
 ·intro h
  have:=congrArg (fun b:U=>b.getLsbD 0) h
  simpa using this
 grind
end Go.Sx
namespace Go.Sx
open Go Go.RowKit
theorem ap2 {μ:Nat→Option (Array Value)} {v:Value} (h:vOk v=true):aS μ v (adD v):=by
 cases v with
 | agg cs=>
  refine .agg cs _ (by simp) (fun k u hu=>?_) (fun k u s hu hs=>?_)
  ·exact aot.1 h u (aa0 (by simpa using hu))
  ·simp only[alh,aer,hu,apr,Option.some.injEq] at hs
   subst hs;exact .val u
 | _=>exact .val _
theorem bg.below {C:Ctx} {E:Env} {st:St} {w w':World} (h:bg C E st w) (hb:Below w.heap.size w w'):bg C E st w':=by
 refine ⟨fun i o ho=>(h.ob i o ho).world fun b hbk=>hb.block b ((h.ob i o ho).iZ hbk),h.sep,h.own,fun b cs hm=>?_,h.mem0,h.memnew,h.new,h.base,⟨hb.os.trans h.fr.os,hb.tape.trans h.fr.tape,hb.output.trans h.fr.output,h.fr.bsz,aiT h.fr.wsz hb.size,h.fr.wos,h.fr.isz,fun k hk hI=>?_,h.fr.sync⟩,h.hd0,h.mno,h.mkh,h.kk⟩
 ·obtain ⟨T,fr,hw⟩:=h.mem b cs hm
  exact ⟨T,fr,(hb.block b (acG.1 hw).1).trans hw⟩
 ·rw[hb.block k (alk hk h.fr.wsz)];exact h.fr.block k hk hI
theorem ars {gl:List (Nat×Array Value)} {P:Program} {f:Nat} {fn:Func} (hf:P.funcs[f]?=some fn) (hb:fn.body.isSome=true) (hnm:(fn.name=="runtime.NumGoroutine")=false) {α:Type} {vals:α→List Value} {pre:α→Prop} {ret:α→Value} {pv:α→PV}
  (hv:∀a,pre a→∀μ,aS μ (ret a) (pv a)) (h:∀a,pre a→∀w:World,(∀p∈gl,∃T fr,w.heap[p.1]?=some (.cells p.2 T fr))→Calls P f (vals a).toArray w fun e w'=>e=.returned (ret a)∧Below w.heap.size w w') :
  ay P f { A:=α,args:=fun a=>(vals a).map fun v=>.p false (adD v),objs:=fun _=>[],pre:=pre,res:=pv,objs':=fun _=>[],fresh:=true,ro:=0,gl:=gl }:=by
 refine ⟨⟨fn,hf,hb,hnm⟩,fun a hpre E vs w hgl hh hA=>?_⟩
 have hvs:vs=(vals a).toArray:=by
  obtain ⟨h1,h2⟩:=hA
  have h1:vs.size=(vals a).length:=h1.trans (by simp)
  apply axe
  intro k
  rcases axd k vs.size with hk | hk
  ·have hk2:k<(vals a).length:=by omega
   have hs:=h2 k vs[k] (.p false (adD (vals a)[k])) (acC hk) (by grind)
   rw[acC hk]
   have hp:∀{u:Value} {d:PV},aL E u (.p false d)→aS (E.m false) u d:=fun hx=>by cases hx with | p _ _ _ hp=>exact hp
   grind [arp]
  grind
 subst hvs
 exact (h a hpre w fun p hp=>hh.mem _ _ (hgl p hp)).mono fun e w' ⟨he,hw⟩=>⟨ret a,E,he,hv a hpre _,hh.below hw⟩
theorem atI {gl:List (Nat×Array Value)} {P:Program} {f:Nat} {fn:Func} (hf:P.funcs[f]?=some fn) (hb:fn.body.isSome=true) (hnm:(fn.name=="runtime.NumGoroutine")=false) {α:Type} {vals:α→List Value} {pre:α→Prop} {ret:α→Value}
  (hv:∀a,pre a→vOk (ret a)=true) (h:∀a,pre a→∀w:World,(∀p∈gl,∃T fr,w.heap[p.1]?=some (.cells p.2 T fr))→Calls P f (vals a).toArray w fun e w'=>e=.returned (ret a)∧Below w.heap.size w w') :
  ay P f { A:=α,args:=fun a=>(vals a).map fun v=>.p false (adD v),objs:=fun _=>[],pre:=pre,res:=fun a=>adD (ret a),objs':=fun _=>[],fresh:=true,ro:=0,gl:=gl }:=
 ars hf hb hnm (fun a hp _=>ap2 (hv a hp)) h
theorem ahp {P:Program} {f:Nat} {fn:Func} (hf:P.funcs[f]?=some fn) (hb:fn.body.isSome=true) (hnm:(fn.name=="runtime.NumGoroutine")=false) {α:Type} {vals:α→List Value} {pre:α→Prop} {ret:α→Value}
  (hv:∀a,pre a→vOk (ret a)=true) (h:∀a,pre a→∀w:World,Calls P f (vals a).toArray w fun e w'=>e=.returned (ret a)∧Below w.heap.size w w') :
  ay P f { A:=α,args:=fun a=>(vals a).map fun v=>.p false (adD v),objs:=fun _=>[],pre:=pre,res:=fun a=>adD (ret a),objs':=fun _=>[],fresh:=true,ro:=0 }:=
 atI (gl:=[]) hf hb hnm hv fun a hp w _=>h a hp w
end Go.Sx
namespace Go.Sx
open Go
theorem ah {t:Bool} {A B:Prop} {p:Prop} (e:t=true↔p) (h:p→A) (h':¬p→B):oW t A B:=by
 grind [gV]
theorem aX {t:Bool} {A B:Prop} {p:Prop} (e:t=true↔¬p) (h:¬p→A) (h':p→B):oW t A B:=
 ah e h fun hh=>h' (Classical.byContradiction hh)
theorem aC {t b:Bool} {A B:Prop} (e:t=b) (h:b=true→A) (h':b=false→B):oW t A B:=
 gV (fun ht=>h (e▸ht)) (fun ht=>h' (e▸ht))
theorem aB {a b:Int} {p:Prop} (h:a<b↔p):decide (a<b)=true↔p:=decide_eq_true_iff.trans h
theorem fZ {a b:Int} {p:Prop} (h:a≤b↔p):decide (a≤b)=true↔p:=decide_eq_true_iff.trans h
theorem uT {a b:Int} {p:Prop} (h:a=b↔p):(a==b)=true↔p:=(beq_iff_eq).trans h
theorem bK {a b:Int} {p:Prop} (h:¬a=b↔p):(a != b)=true↔p:=(bne_iff_ne).trans h
theorem aH {k:Nat} (h:k<4611686018427387904):IntKind.i64.wrap ((k:Int)+1)=((k+1:Nat):Int):=by
 grind [ko]
theorem amD {k:Nat} (h:0<k) (h2:k<4611686018427387904):IntKind.i64.wrap ((k:Int)-1)=((k-1:Nat):Int):=by
 grind [ko]
theorem dB {n:Int} (h1:-9223372036854775808≤n) (h2:n<9223372036854775808):IntKind.i64.wrap n=n:=ko h1 h2
theorem dO {x y:UInt8} {n:Int} (h:(y.toNat:Int)=n):(((x.toNat:Nat):Int)==n)=true↔x=y:=by
 rw[beq_iff_eq,←h]
 grind [UInt8.toNat_inj]
def strOf (l:List UInt8):ByteArray:=⟨l.toArray⟩
def bAt (l:List UInt8) (k:Nat):UInt8:=(strOf l).data.getD k 0
theorem avB (l:List UInt8) (k:Nat):bAt l k=l.getD k 0:=by simp[bAt,strOf]
theorem bZ (l:List UInt8):(strOf l).size=l.length:=by simp[strOf,ByteArray.size]
theorem ahO {l:List UInt8} {k:Nat} (h:k<l.length):(strOf l)[k]?=some (bAt l k):=by
 grind [strOf,bZ,avB,ByteArray.getElem_eq_getElem_data]
theorem uV (a b:List UInt8):strOf a++strOf b=strOf (a++b):=by
 apply ByteArray.ext
 simp[strOf,ByteArray.data_append]
theorem ahF {a b:List UInt8} (h:strOf a=strOf b):a=b:=by
 simp_all [strOf]
theorem xC {x:Nat} (h:x<9223372036854775808):IntKind.i64.wrap (x:Int)=(x:Int):=ko (by omega) (by omega)
theorem ai8:IntKind.i64.wrap 0=0:=rfl
theorem zA (x y:U):bits .and .u64 (x.toNat:Int) (y.toNat:Int)=((x &&& y).toNat:Int):=arE x y
theorem zB (x y:U):bits .or .u64 (x.toNat:Int) (y.toNat:Int)=((x ||| y).toNat:Int):=aw0 x y
theorem zC (x y:U):bits .xor .u64 (x.toNat:Int) (y.toNat:Int)=((x ^^^ y).toNat:Int):=avR x y
theorem zD (x y:U):bits .andNot .u64 (x.toNat:Int) (y.toNat:Int)=((x &&& ~~~y).toNat:Int):=aqA x y
theorem zE (x:U):bits .and .u64 (x.toNat:Int) 1=((x &&& 1#64).toNat:Int):=avw x
theorem zF (x y:U):IntKind.u64.wrap ((x.toNat:Int)+(y.toNat:Int))=((x+y).toNat:Int):=arN x y
theorem zG (x:U):IntKind.u64.wrap ((x.toNat:Int)+1)=((x+1#64).toNat:Int):=aur x
theorem zH (x y:U):IntKind.u64.wrap ((x.toNat:Int)-(y.toNat:Int))=((x-y).toNat:Int):=arJ x y
theorem zI (x:U):IntKind.u64.wrap ((x.toNat:Int)-1)=((x-1#64).toNat:Int):=auP x
theorem zJ (k:Nat):IntKind.u64.wrap (1*2 ^ (min k IntKind.u64.bits))=((1#64 <<< k).toNat:Int):=auM k
theorem zK (x:U) (k:Nat):IntKind.u64.wrap ((x.toNat:Int)*2 ^ (min k IntKind.u64.bits))=((x <<< k).toNat:Int):=arT x k
theorem zL (x:U) (k:Nat):((x.toNat:Int)).fdiv (2 ^ (min k IntKind.u64.bits))=((x >>> k).toNat:Int):=avM x k
theorem zM (x:U):((x.toNat:Int)==0)=(x==0#64):=aui x
theorem zN (x:U):((x.toNat:Int) != 0)=(x != 0#64):=avz x
theorem zO (x:U):((x.toNat:Int)==1)=(x==1#64):=auE x
theorem zP (x:U):((x.toNat:Int) != 1)=(x != 1#64):=atS x
theorem zQ (x y:U):((x.toNat:Int)==(y.toNat:Int))=(x==y):=aiA x y
theorem zR (x y:U):((x.toNat:Int) != (y.toNat:Int))=(x != y):=am9 x y
theorem zS (x y:U):decide ((x.toNat:Int)<(y.toNat:Int))=decide (x<y):=awG x y
theorem zT (x y:U):decide ((x.toNat:Int)≤(y.toNat:Int))=decide (x≤y):=awL x y
theorem zU (x:U):((x.toNat:Int)=0)=(x=0#64):=atH x
theorem zV (x:U):((x.toNat:Int)=1)=(x=1#64):=asS x
theorem zW (x y:U):((x.toNat:Int)=(y.toNat:Int))=(x=y):=auK x y
theorem zX (x:U) (k:Nat):(x >>> k &&& 1#64==1#64)=x.getLsbD k:=amY x k
theorem zY (x:U) (k:Nat):(x >>> k &&& 1#64==0#64)=!x.getLsbD k:=ajq x k
theorem zZ (n:Nat):((n:Int)).toNat=n:=aen n
theorem yA {p:Prop} [Decidable p]:(decide p=true)↔p:=decide_eq_true_iff
theorem yB {p:Prop} [Decidable p]:(decide p=false)↔¬p:=decide_eq_false_iff_not
theorem yC {b:Bool}:((!b)=true)↔b=false:=by cases b<;>simp
theorem yD {b:Bool}:((!b)=false)↔b=true:=by cases b<;>simp
theorem yE {α:Type} [BEq α] [LawfulBEq α] {a b:α}:(a==b)=true↔a=b:=beq_iff_eq
theorem yF {α:Type} [BEq α] [LawfulBEq α] {a b:α}:(a != b)=true↔¬a=b:=bne_iff_ne
theorem yG {α:Type} {a b:α}:(a≠b)=¬(a=b):=rfl
theorem yH {α:Type} [BEq α] [LawfulBEq α] {a b:α}:(a==b)=false↔¬a=b:=beq_eq_false_iff_ne
theorem yI {α:Type} [BEq α] [LawfulBEq α] {a b:α}:(a != b)=false↔a=b:=bne_eq_false_iff_eq
theorem yJ {p:Prop}:(¬¬p)↔p:=akB
theorem yK {b:Bool}:(¬b=true)=(b=false):=by cases b<;>simp
theorem yL:(!true)=false:=rfl
theorem yM:(!false)=true:=rfl
theorem zz:(∀(x y:U),bits .and .u64 (x.toNat:Int) (y.toNat:Int)=((x &&& y).toNat:Int)) ∧
  (∀(x y:U),bits .or .u64 (x.toNat:Int) (y.toNat:Int)=((x ||| y).toNat:Int)) ∧
  (∀(x y:U),bits .xor .u64 (x.toNat:Int) (y.toNat:Int)=((x ^^^ y).toNat:Int)) ∧
  (∀(x y:U),bits .andNot .u64 (x.toNat:Int) (y.toNat:Int)=((x &&& ~~~y).toNat:Int)) ∧
  (∀(x:U),bits .and .u64 (x.toNat:Int) 1=((x &&& 1#64).toNat:Int)) ∧
  (∀(x y:U),IntKind.u64.wrap ((x.toNat:Int)+(y.toNat:Int))=((x+y).toNat:Int)) ∧
  (∀(x:U),IntKind.u64.wrap ((x.toNat:Int)+1)=((x+1#64).toNat:Int)) ∧
  (∀(x y:U),IntKind.u64.wrap ((x.toNat:Int)-(y.toNat:Int))=((x-y).toNat:Int)) ∧
  (∀(x:U),IntKind.u64.wrap ((x.toNat:Int)-1)=((x-1#64).toNat:Int)) ∧
  (∀(k:Nat),IntKind.u64.wrap (1*2 ^ (min k IntKind.u64.bits))=((1#64 <<< k).toNat:Int)) ∧
  (∀(x:U) (k:Nat),IntKind.u64.wrap ((x.toNat:Int)*2 ^ (min k IntKind.u64.bits))=((x <<< k).toNat:Int)) ∧
  (∀(x:U) (k:Nat),((x.toNat:Int)).fdiv (2 ^ (min k IntKind.u64.bits))=((x >>> k).toNat:Int)) ∧
  (∀(x:U),((x.toNat:Int)==0)=(x==0#64)) ∧
  (∀(x:U),((x.toNat:Int) != 0)=(x != 0#64)) ∧
  (∀(x:U),((x.toNat:Int)==1)=(x==1#64)) ∧
  (∀(x:U),((x.toNat:Int) != 1)=(x != 1#64)) ∧
  (∀(x y:U),((x.toNat:Int)==(y.toNat:Int))=(x==y)) ∧
  (∀(x y:U),((x.toNat:Int) != (y.toNat:Int))=(x != y)) ∧
  (∀(x y:U),decide ((x.toNat:Int)<(y.toNat:Int))=decide (x<y)) ∧
  (∀(x y:U),decide ((x.toNat:Int)≤(y.toNat:Int))=decide (x≤y)) ∧
  (∀(x:U),((x.toNat:Int)=0)=(x=0#64)) ∧
  (∀(x:U),((x.toNat:Int)=1)=(x=1#64)) ∧
  (∀(x y:U),((x.toNat:Int)=(y.toNat:Int))=(x=y)) ∧
  (∀(x:U) (k:Nat),(x >>> k &&& 1#64==1#64)=x.getLsbD k) ∧
  (∀(x:U) (k:Nat),(x >>> k &&& 1#64==0#64)=!x.getLsbD k) ∧
  (∀(n:Nat),((n:Int)).toNat=n) ∧
  (∀{p:Prop} [Decidable p],(decide p=true)↔p) ∧
  (∀{p:Prop} [Decidable p],(decide p=false)↔¬p) ∧
  (∀{b:Bool},((!b)=true)↔b=false) ∧
  (∀{b:Bool},((!b)=false)↔b=true) ∧
  (∀{α:Type} [BEq α] [LawfulBEq α] {a b:α},(a==b)=true↔a=b) ∧
  (∀{α:Type} [BEq α] [LawfulBEq α] {a b:α},(a != b)=true↔¬a=b) ∧
  (∀{α:Type} {a b:α},(a≠b)=¬(a=b)) ∧
  (∀{α:Type} [BEq α] [LawfulBEq α] {a b:α},(a==b)=false↔¬a=b) ∧
  (∀{α:Type} [BEq α] [LawfulBEq α] {a b:α},(a != b)=false↔a=b) ∧
  (∀{p:Prop},(¬¬p)↔p) ∧
  (∀{b:Bool},(¬b=true)=(b=false)) ∧
  ((!true)=false) ∧
  ((!false)=true):=
 ⟨@zA,@zB,@zC,@zD,@zE,@zF,@zG,@zH,@zI,@zJ,@zK,@zL,@zM,@zN,@zO,@zP,@zQ,@zR,@zS,@zT,@zU,@zV,@zW,@zX,@zY,@zZ,@yA,@yB,@yC,@yD,@yE,@yF,@yG,@yH,@yI,@yJ,@yK,@yL,@yM⟩
theorem ai {a b:Prop} (h:a) (k:b):a∧b:=⟨h,k⟩
theorem ei {α:Sort _} {p:α→Prop} (w:α) (h:p w):∃x,p x:=⟨w,h⟩
theorem nof {p:Prop} (h:false=true):p:=absurd h Bool.false_ne_true
end Go.Sx
namespace Go.Sx
open Go Go.RowKit
def iV (w:World) (b:Nat):Option (Array Value):=match w.heap[b]? with
 | some (.cells cs _ _)=>some cs
 | _=>none
def E0 (w:World):Env:={ hd:=fun _=>none,mem:=iV w,tm:=fun b=>w.heap.size≤b,ws:=w,I:=fun _=>False,k:=none }
theorem amx {w:World} {b:Nat} {cs:Array Value} (h:iV w b=some cs):∃T fr,w.heap[b]?=some (.cells cs T fr):=by
 grind [iV]
theorem apU {w:World} {b:Nat} {cs:Array Value} {T:TypeId} {fr:Nat×Nat} (h:w.heap[b]?=some (.cells cs T fr)):iV w b=some cs:=by
 grind [iV]
theorem apB (hd:Nat→Option Value):nZ hd [] 0=fun _=>False:=by
 funext b
 apply propext
 constructor
 ·rintro ⟨k,o,_,h,_⟩;simp at h
 grind
theorem avT (w:World):bg (lM w (E0 w) [] 0) (E0 w) (ow []) w:=by
 have ho:∀i,(ow []).obj i=none:=fun _=>rfl
 refine ⟨fun i o h=>?_,fun i j o o' b h=>?_,fun i o b h=>?_,fun b cs h=>amx h,fun b cs h=>h,fun b cs h=>.inl h,fun i _=>rfl,rfl,?_,fun k _=>rfl,abm _,abm _,rfl⟩
 ·grind
 ·grind
 ·grind
 ·exact ⟨rfl,rfl,rfl,abm _,abm _,⟨rfl,rfl,rfl⟩,fun b hb=>hb.elim,fun k _ _=>rfl,⟨rfl,(apB _).symm,rfl⟩⟩
theorem aj0 {gl:List (Nat×Array Value)} {l:List Nat} {P:Program} {f:Nat} {α:Type} {args:α→List SV} {pre:α→Prop}
  (h:ay P f { A:=α,args:=args,objs:=fun _=>[],pre:=pre,res:=fun _=>.val (.bool true),objs':=fun _=>[],fresh:=true,ro:=0,inl:=l,gl:=gl }) (a:α) (hp:pre a) (W:World) (hgl:∀p∈gl,iV W p.1=some p.2) (vs:Array Value)
  (hA:l8 (E0 W) vs (args a)):Calls P f vs W fun e W'=>e=.returned (.bool true)∧Below W.heap.size W W':=by
 refine (h.2 a hp (E0 W) vs W hgl (avT W) hA).mono ?_
 rintro e w' ⟨v,E',rfl,hv,hh⟩
 obtain ⟨_,hI,hws⟩:=hh.fr.sync
 rw[hv.aO]
 refine ⟨rfl,hh.fr.os,hh.fr.tape,hh.fr.output,?_,fun k hk=>?_⟩
 ·have:=hh.fr.wsz;grind
 ·have:=hh.fr.block k (by grind) (by rw[hI];rintro ⟨j,o,_,h,_⟩;simp at h)
  grind
theorem aok {P:Program} {f:Nat} {α:Type} {args:α→List SV} {pre:α→Prop}
  (h:ay P f { A:=α,args:=args,objs:=fun _=>[],pre:=pre,res:=fun _=>.val (.bool true),objs':=fun _=>[],fresh:=true,ro:=0 }) (a:α) (hp:pre a) (W:World) (vs:Array Value)
  (hA:l8 (E0 W) vs (args a)):Calls P f vs W fun e W'=>e=.returned (.bool true)∧Below W.heap.size W W':=
 aj0 (gl:=[]) (l:=[]) h a hp W (fun p hp=>by cases hp) vs hA
def Rel (μ:Nat→Option (Array Value)) (cs:List Value) (l:List PV):Prop:=
 l.length=cs.length∧∀(k:Nat) (u:Value) (s:PV),cs[k]?=some u→l[k]?=some s→u.oneCell'=true∧aS μ u s
theorem Rel.nil (μ:Nat→Option (Array Value)):Rel μ [] []:=⟨rfl,fun k u s h=>by simp at h⟩
theorem Rel.one {μ:Nat→Option (Array Value)} {u:Value} {s:PV} (h1:u.oneCell'=true) (h2:aS μ u s):Rel μ [u] [s]:=
 ⟨rfl,fun k v t hv ht=>by
  grind⟩
theorem Rel.append {μ:Nat→Option (Array Value)} {a b:List Value} {l m:List PV} (h:Rel μ a l) (k:Rel μ b m):Rel μ (a++b) (l++m):=by
 refine ⟨by simp[h.1,k.1],fun i u s hu hs=>?_⟩
 by_cases hi:i<a.length
 ·rw[al7 hi] at hu
  rw[al7 (by rw[h.1];exact hi)] at hs
  exact h.2 i u s hu hs
 ·rw[aex (by omega)] at hu
  rw[aex (by rw[h.1];omega),h.1] at hs
  exact k.2 _ u s hu hs
theorem Rel.flatten {μ:Nat→Option (Array Value)}:∀{a:List (List Value)} {l:List (List PV)},a.length=l.length→(∀(i:Nat) x y,a[i]?=some x→l[i]?=some y→Rel μ x y)→Rel μ a.flatten l.flatten
 | [],[],_,_=>Rel.nil μ
 | x :: a,y :: l,hl,h=>by
  simp only[List.flatten_cons]
  exact (h 0 x y rfl rfl).append (Rel.flatten (by simpa using hl) fun i u v hu hv=>h (i+1) u v hu hv)
def Shape (P:Program):Nat→TypeId→List PV→Prop
 | 0,_,_=>False
 | n+1,t,l=>match P.underlying t with
  | some .bool=>∃b,l=[.val (.bool b)]
  | some (.int k)=>∃m,(Lit.int k m).wf=true∧l=[.val (.int k m)]
  | some .string=>∃s:ByteArray,s.size≤maxLen∧l=[.val (.string s)]
  | some (.slice e)=>∃(m:Nat) (f:Nat→List PV),m≤maxLen∧l=[.seq m f]∧∀j,j<m→Shape P n e (f j)
  | some (.struct fs)=>∃ls:List (List PV),l=ls.flatten∧ls.length=fs.size∧∀(i:Nat) (f:Field) (x:List PV),fs[i]?=some f→ls[i]?=some x→Shape P n f.type x
  | some (.array m e)=>∃ls:List (List PV),l=ls.flatten∧ls.length=m∧∀(i:Nat) (x:List PV),ls[i]?=some x→Shape P n e x
  | _=>False
def ac8 (P:Program):List Field→Nat→Nat→Bool
 | [],at_,n=>at_==n
 | f :: fs,at_,n=>(f.offset==at_)&&ac8 P fs (at_+P.cellsOf f.type) n
def aj5 (P:Program) (S:List TypeId) (t:TypeId):Bool:=
 match P.underlying t with
 | some .bool=>true
 | some (.int _)=>true
 | some .string=>true
 | some (.slice e)=>S.contains e&&(P.cellsOf e != 0)
 | some (.struct fs)=>(fs.toList.all fun f=>S.contains f.type)&&ac8 P fs.toList 0 (P.cellsOf t)
 | some (.array m e)=>S.contains e&&(P.cellsOf t==m*P.cellsOf e)
 | _=>false
def Closed (P:Program) (S:List TypeId):Prop:=∀t∈S,aj5 P S t=true
theorem acO {P:Program} {cs:List Value}:∀(fs:List Field) (at_ n:Nat),ac8 P fs at_ n=true→cs.length=n→(fs.map fun f=>(cs.drop f.offset).take (P.cellsOf f.type)).flatten=cs.drop at_
 | [],at_,n,h,hn=>by
  simp_all [ac8]
 | f :: fs,at_,n,h,hn=>by
  simp only[ac8,abj,beq_iff_eq] at h
  simp only[awv,List.flatten_cons]
  rw[acO fs _ n h.2 hn,h.1,←List.drop_drop,axh]
theorem aes {cs:List Value} (sz:Nat):∀(m:Nat),m*sz≤cs.length→((List.range m).map fun i=>(cs.drop (i*sz)).take sz).flatten=cs.take (m*sz)
 | 0,_=>by simp
 | m+1,h=>by
  rw[ave,aoZ,List.flatten_append,aes sz m (by grind)]
  simp_all [axK,List.take_add]
section
variable {H : Type} {enc : TypeId × Value → H} {P : Program} {w w' : World} {S : List TypeId}
theorem ahX {base:Nat} {a:Addr} {n:Nat} {cs:List Value} (h:w.cells? base a n=some cs):cs.length=n∧∀(k:Nat) u,cs[k]?=some u→w.cell? (a.add k)=some u:=by
 unfold World.cells? at h
 split at h
 ·have h1:=mapM_some_length h
  refine ⟨by simpa using h1,fun k u hu=>?_⟩
  have hk:k<n:=by
   grind
  have:=mapM_some_get h k k (by simp[hk])
  rw[this,hu]
 ·cases h
theorem atf {b o len cap sz:Nat} {f:Nat→List PV} {cells:Array Value} {T:TypeId} {fr:Nat×Nat} (hb:w.heap[b]?=some (.cells cells T fr)) (hlc:len≤cap) (hm:len≤maxLen)
  (hl:∀j,j<len→(f j).length=sz) (hc:∀j k s,j<len→(f j)[k]?=some s→∃u,cells[o+(j*sz+k)]?=some u∧u.oneCell'=true∧aS (iV w) u s) :
  aS (iV w) (.slice (some ⟨b,o,none⟩) len cap) (.seq len f):=by
 refine .seq b o len cap sz f cells (fun j k=>cells.getD (o+(j*sz+k)) undef) (apU hb) hlc hm hl (fun j k s hj hs=>?_) (fun j k s hj hs=>?_)
 ·obtain ⟨u,h1,h2,_⟩:=hc j k s hj hs
  simp_all
 ·obtain ⟨u,h1,_,h3⟩:=hc j k s hj hs
  simp_all
theorem aiN (hS:Closed P S) {base:Nat} {sp:Nat→Bool} {held:Bool}:∀(n:Nat) (t:TypeId) (cs:List Value) (x:DataW H×List MemPlace),t∈S →
  DataW.trod enc P w base sp held n t cs=some x→∃l,Shape P n t l∧Rel (iV w) cs l
 | 0,_,_,_,_,h=>by simp[DataW.trod] at h
 | n+1,t,cs,x,ht,h=>by
  have hok:=hS t ht
  have ih:=aiN hS (base:=base) (sp:=sp) (held:=held) n
  unfold aj5 at hok
  cases hu:P.underlying t with
  | none=>grind
  | some d=>
   rw[hu] at hok
   have hsh:∀l,Shape P (n+1) t l=(match some d with
    | some .bool=>∃b,l=[.val (.bool b)]
    | some (.int k)=>∃m,(Lit.int k m).wf=true∧l=[.val (.int k m)]
    | some .string=>∃s:ByteArray,s.size≤maxLen∧l=[.val (.string s)]
    | some (.slice e)=>∃(m:Nat) (f:Nat→List PV),m≤maxLen∧l=[.seq m f]∧∀j,j<m→Shape P n e (f j)
    | some (.struct fs)=>∃ls:List (List PV),l=ls.flatten∧ls.length=fs.size∧∀(i:Nat) (f:Field) (x:List PV),fs[i]?=some f→ls[i]?=some x→Shape P n f.type x
    | some (.array m e)=>∃ls:List (List PV),l=ls.flatten∧ls.length=m∧∀(i:Nat) (x:List PV),ls[i]?=some x→Shape P n e x
    | _=>False):=fun l=>by rw[←hu];rfl
   cases d<;>simp only at hok<;>try (cases hok;done)
   case bool=>
    obtain ⟨b,rfl,rfl⟩:=DataW.trod_bool hu h
    exact ⟨[.val (.bool b)],by grind,Rel.one rfl (.val _)⟩
   case int k=>
    obtain ⟨m,rfl,rfl,hw⟩:=DataW.trod_int hu h
    exact ⟨[.val (.int k m)],by grind,Rel.one rfl (.val _)⟩
   case string=>
    obtain ⟨s,rfl,rfl,hs⟩:=DataW.trod_string hu h
    exact ⟨[.val (.string s)],by grind,Rel.one rfl (.val _)⟩
   case slice e=>
    simp only[abj,awt,decide_eq_true_eq,bne_iff_ne] at hok
    rcases DataW.trod_slice hu h with ⟨rfl,rfl⟩ | ⟨a,len,cap,elems,rest,n',hn',rfl,rfl,hb,hlc,hcm,hel,hget,_⟩
    ·exact ⟨[.seq 0 fun _=>[]],by grind,Rel.one rfl (.nil _)⟩
    ·obtain rfl:n=n':=by omega
     have each:∀i,∃l,i<len→(Shape P n e l∧∃q,w.cells? base (a.add (i*P.cellsOf e)) (P.cellsOf e)=some q∧Rel (iV w) q l):=fun i=>by
      by_cases hi:i<len
      ·have hg:=hget i hi
       rw[aav (by omega)] at hg
       cases hc:w.cells? base (a.add (i*P.cellsOf e)) (P.cellsOf e) with
       | none=>grind
       | some q=>
        grind
      ·exact ⟨[],fun h=>absurd h hi⟩
     obtain ⟨f,hf⟩:=Classical.axiomOfChoice each
     refine ⟨[.seq len f],by grind,Rel.one rfl ?_⟩
     rcases atL len with h0 | hpos
     ·subst h0;exact .emp a cap f
     ·have hc0:∀j k s,j<len→(f j)[k]?=some s→∃u,w.cell? (a.add (j*P.cellsOf e+k))=some u∧u.oneCell'=true∧aS (iV w) u s:=by
       intro j k s hj hs
       obtain ⟨_,q,hq,hr⟩:=hf j hj
       obtain ⟨hql,hqc⟩:=ahX hq
       have hk:k<q.length:=by rw[←hr.1];grind
       have hqk:q[k]?=some q[k]:=aav hk
       obtain ⟨g1,g2⟩:=hr.2 k _ s hqk hs
       grind [Addr.add_add]
      have hlen:∀j,j<len→(f j).length=P.cellsOf e:=fun j hj=>by
       obtain ⟨_,q,hq,hr⟩:=hf j hj
       rw[hr.1];grind [ahX]
      obtain ⟨b,o,spot⟩:=a
      have h00:=hlen 0 hpos
      obtain ⟨u,hu0,_⟩:=hc0 0 0 ((f 0)[0]'(by omega)) hpos (aav _)
      have hz:((⟨b,o,spot⟩:Addr).add (0*P.cellsOf e+0))=⟨b,o,spot⟩:=by simp[Addr.add]
      rw[hz] at hu0
      unfold World.cell? at hu0
      cases hh:w.heap[b]? with
      | none=>grind
      | some ob=>
       cases ob<;>try (simp[hh] at hu0;done)
       rename_i cells T fr
       cases spot with
       | some q=>grind
       | none=>
        refine atf hh hlc (aiT hlc hcm) hlen fun j k s hj hs=>?_
        grind [Addr.add_lit,World.cell?]
   case struct fs=>
    simp only[abj] at hok
    obtain ⟨xs,n',hn',rfl,hl,hxl,hget⟩:=DataW.trod_struct hu h
    obtain rfl:n=n':=by omega
    have each:∀i:Nat,∃l,∀f:Field,fs[i]?=some f→Shape P n f.type l∧Rel (iV w) ((cs.drop f.offset).take (P.cellsOf f.type)) l:=fun i=>by
     cases hfi:fs[i]? with
     | none=>simp_all
     | some f=>
      have hi:i<fs.size:=(acG.1 hfi).1
      have hg:=hget i f hfi
      rw[aav (by omega)] at hg
      have hS':f.type∈S:=by
       grind
      obtain ⟨l,h1,h2⟩:=ih f.type _ _ hS' hg
      exact ⟨l,fun g hg'=>by grind⟩
    obtain ⟨g,hg⟩:=Classical.axiomOfChoice each
    refine ⟨((List.range fs.size).map g).flatten,?_,?_⟩
    ·grind
    ·have e:=acO (cs:=cs) fs.toList 0 _ hok.2 hl
     grind [Rel.flatten]
   case array m e=>
    simp only[abj,awt,decide_eq_true_eq,beq_iff_eq] at hok
    obtain ⟨xs,n',hn',rfl,hl,hxl,hget⟩:=DataW.trod_array hu h
    obtain rfl:n=n':=by omega
    have each:∀i,∃l,i<m→Shape P n e l∧Rel (iV w) ((cs.drop (i*P.cellsOf e)).take (P.cellsOf e)) l:=fun i=>by
     by_cases hi:i<m
     ·grind
     ·exact ⟨[],fun h=>absurd h hi⟩
    obtain ⟨g,hg⟩:=Classical.axiomOfChoice each
    refine ⟨((List.range m).map g).flatten,?_,?_⟩
    ·grind
    ·have e1:=aes (cs:=cs) (P.cellsOf e) m (by omega)
     grind [Rel.flatten]
theorem abd {α β:Type} {f:α→Option β}:∀{l:List α} {xs:List β},xs.length=l.length→(∀(i:Nat) a,l[i]?=some a→f a=xs[i]?)→l.mapM f=some xs
 | [],xs,hl,_=>by
  grind
 | a :: l,[],hl,_=>by simp at hl
 | a :: l,x :: xs,hl,h=>by
  rw[List.mapM_cons,h 0 a rfl,abd (f:=f) (l:=l) (xs:=xs) (by simpa using hl) (fun i b hb=>h (i+1) b hb)];rfl
theorem ak7 (hh:∀b,b<w.heap.size→w'.heap[b]?=w.heap[b]?) {base:Nat} {a:Addr} {n:Nat} {cs:List Value} (hn:n≠0) (h:w.cells? base a n=some cs):w'.cells? base a n=some cs:=by
 have hlt:=World.cells?_block h (axR hn)
 simp_all [World.cells?,ChangeShapes.block_add,World.cell?]
theorem ah3 (hS:Closed P S) (hh:∀b,b<w.heap.size→w'.heap[b]?=w.heap[b]?) {base:Nat} {sp:Nat→Bool} {held:Bool}:∀(n:Nat) (t:TypeId) (cs:List Value) (x:DataW H×List MemPlace),t∈S →
  DataW.trod enc P w base (fun _=>true) held n t cs=some x→(∀p∈x.2,sp p.block=true)→DataW.trod enc P w' base sp held n t cs=some x
 | 0,_,_,_,_,h,_=>by simp[DataW.trod] at h
 | n+1,t,cs,x,ht,h,hp=>by
  have hok:=hS t ht
  have ih:=ah3 hS hh (base:=base) (sp:=sp) (held:=held) n
  unfold aj5 at hok
  cases hu:P.underlying t with
  | none=>grind
  | some d=>
   rw[hu] at hok
   cases d<;>simp only at hok<;>try (cases hok;done)
   case bool=>
    obtain ⟨b,rfl,rfl⟩:=DataW.trod_bool hu h
    simp_all [DataW.trod]
   case int k=>
    obtain ⟨m,rfl,rfl,hw⟩:=DataW.trod_int hu h
    simp_all [DataW.trod]
   case string=>
    obtain ⟨s,rfl,rfl,hs⟩:=DataW.trod_string hu h
    simp_all [DataW.trod]
   case slice e=>
    simp only[abj,awt,decide_eq_true_eq,bne_iff_ne] at hok
    rcases DataW.trod_slice hu h with ⟨rfl,rfl⟩ | ⟨a,len,cap,elems,rest,n',hn',rfl,rfl,hb,hlc,hcm,hel,hget,hrest,_⟩
    ·simp_all [DataW.trod]
    ·obtain rfl:n=n':=by omega
     obtain ⟨hrl,hrget⟩:=hrest rfl
     have step:∀(i:Nat) (y:DataW H×List MemPlace),y∈elems++rest→(w.cells? base (a.add (i*P.cellsOf e)) (P.cellsOf e)).bind (DataW.trod enc P w base (fun _=>true) held n e)=some y →
       (w'.cells? base (a.add (i*P.cellsOf e)) (P.cellsOf e)).bind (DataW.trod enc P w' base sp held n e)=some y:=by
      intro i y hy hb
      cases hc:w.cells? base (a.add (i*P.cellsOf e)) (P.cellsOf e) with
      | none=>grind
      | some q=>
       grind [ak7]
     have he:(List.range len).mapM (fun i=>(w'.cells? base (a.add (i*P.cellsOf e)) (P.cellsOf e)).bind (DataW.trod enc P w' base sp held n e))=some elems:=by
      grind [abd]
     have hr:(if sp a.block=true then (List.range (cap-len)).mapM (fun j=>(w'.cells? base (a.add ((len+j)*P.cellsOf e)) (P.cellsOf e)).bind (DataW.trod enc P w' base sp held n e)) else some [])=some rest:=by
      by_cases hsp:sp a.block=true
      ·rw[if_pos hsp]
       grind [abd]
      ·rw[if_neg hsp]
       have h0:rest.length=0:=by
        rcases atL rest.length with h0 | h0
        ·exact h0
        ·exfalso
         refine hsp (hp (.cell a.block (a.off+0)) (acE.2 (.inl ?_)))
         unfold MemPlace.row
         refine aup.2 ⟨0,auh.2 (Nat.mul_pos (by omega) (axR hok.2)),rfl⟩
       grind
     simp_all [DataW.trod]
   case struct fs=>
    simp only[abj] at hok
    obtain ⟨xs,n',hn',rfl,hl,hxl,hget⟩:=DataW.trod_struct hu h
    grind [ChangeShapes.trod_struct_mk,abd]
   case array m e=>
    simp only[abj,awt,decide_eq_true_eq,beq_iff_eq] at hok
    obtain ⟨xs,n',hn',rfl,hl,hxl,hget⟩:=DataW.trod_array hu h
    obtain rfl:n=n':=by omega
    have hm:(List.range m).mapM (fun i=>DataW.trod enc P w' base sp held n e ((cs.drop (i*P.cellsOf e)).take (P.cellsOf e)))=some xs:=by
     grind [abd]
    simp_all [DataW.trod]
theorem ac6 (hS:Closed P S) (hh:∀b,b<w.heap.size→w'.heap[b]?=w.heap[b]?) {base:Nat} {sp:Nat→Bool} {held:Bool}:∀{ts:List TypeId} {vs:List Value} {ds:List (DataW H)} {ps:List MemPlace},(∀t∈ts,t∈S) →
  DataW.TrodAll enc P w base (fun _=>true) held ts vs ds ps→(∀p∈ps,sp p.block=true)→DataW.TrodAll enc P w' base sp held ts vs ds ps
 | [],[],[],ps,_,h,_=>h
 | t :: ts,v :: vs,d :: ds,ps,hts,⟨p,q,⟨fuel,h1⟩,h2,he⟩,hp=>by
  subst he
  exact ⟨p,q,⟨fuel,ah3 hS hh fuel t _ _ (hts t (by simp)) h1 fun x hx=>hp x (acE.2 (.inl hx))⟩,ac6 hS hh (fun t ht=>hts t (by simp[ht])) h2 fun x hx=>hp x (acE.2 (.inr hx)),rfl⟩
 | [],[],_ :: _,_,_,h,_=>h.elim
 | [],_ :: _,_,_,_,h,_=>h.elim
 | _ :: _,[],_,_,_,h,_=>h.elim
 | _ :: _,_ :: _,[],_,_,h,_=>h.elim
theorem avx {v:Value} {cs:Array Value} {l:List PV} (hv:v=.agg cs) (h:Rel (iV w) v.cells.toList l):aL (E0 w) v (.p false (.agg l)):=by
 subst hv
 have h':Rel (iV w) cs.toList l:=h
 refine .p false _ _ (.agg cs l (by rw[h'.1];simp) (fun k u hu=>?_) (fun k u s hu hs=>(h'.2 k u s (by simpa using hu) hs).2))
 have hk:k<cs.size:=(acG.1 hu).1
 have hl:k<l.length:=by rw[h'.1];simpa using hk
 exact (h'.2 k u _ (by simpa using hu) (aav hl)).1
theorem apt {t:TypeId} {fs:Array Field} {r:Reach} {b:Nat} {v:Value} (hu:P.underlying t=some (.struct fs)) (h:Value.okWide P w r b t v):∃cs,v=.agg cs:=by
 grind [Value.okWide]
theorem an3 {t:TypeId} {k:IntKind} {n:Nat} {l:List PV} (hu:P.underlying t=some (.int k)) (h:Shape P n t l):∃m,(Lit.int k m).wf=true∧l=[.val (.int k m)]:=by
 cases n with
 | zero=>exact h.elim
 | succ n=>grind [Shape]
theorem anA {t:TypeId} {n:Nat} {l:List PV} (hu:P.underlying t=some .bool) (h:Shape P n t l):∃b,l=[.val (.bool b)]:=by
 cases n with
 | zero=>exact h.elim
 | succ n=>grind [Shape]
theorem akI {t:TypeId} {n:Nat} {l:List PV} (hu:P.underlying t=some .string) (h:Shape P n t l):∃s:ByteArray,s.size≤maxLen∧l=[.val (.string s)]:=by
 cases n with
 | zero=>exact h.elim
 | succ n=>grind [Shape]
def ajK (P:Program) (n:Nat):List TypeId→List (List PV)→Prop
 | [],[]=>True
 | t :: ts,l :: ls=>Shape P n t l∧ajK P n ts ls
 | _,_=>False
theorem ahl {n:Nat}:∀(ts:List TypeId) (ls:List (List PV)),ls.length=ts.length→(∀(i:Nat) t x,ts[i]?=some t→ls[i]?=some x→Shape P n t x)→ajK P n ts ls
 | [],[],_,_=>trivial
 | t :: ts,l :: ls,hl,h=>⟨h 0 t l rfl rfl,ahl ts ls (by simpa using hl) fun i t x ht hx=>h (i+1) t x ht hx⟩
 | [],_ :: _,hl,_=>by simp at hl
 | _ :: _,[],hl,_=>by simp at hl
def AR (E:Env):List Value→List SV→Prop
 | [],[]=>True
 | v :: vs,s :: ss=>aL E v s∧AR E vs ss
 | _,_=>False
theorem AR.get {E:Env}:∀(vs:List Value) (ss:List SV),AR E vs ss→vs.length=ss.length∧∀(k:Nat) u s,vs[k]?=some u→ss[k]?=some s→aL E u s
 | [],[],_=>⟨rfl,fun k u s h=>by simp at h⟩
 | v :: vs,s :: ss,h=>by
  obtain ⟨h1,h2⟩:=AR.get vs ss h.2
  refine ⟨by simp[h1],fun k u t hu ht=>?_⟩
  cases k with
  | zero=>simp at hu ht;subst hu;subst ht;exact h.1
  | succ k=>simp at hu ht;exact h2 k u t hu ht
 | [],_ :: _,h=>h.elim
 | _ :: _,[],h=>h.elim
theorem amE {E:Env} {vs:List Value} {ss:List SV} (h:AR E vs ss):l8 E vs.toArray ss:=by
 obtain ⟨h1,h2⟩:=AR.get vs ss h
 exact ⟨by simpa using h1,fun k u s hu hs=>h2 k u s (by simpa using hu) hs⟩
end
end Go.Sx
namespace Go.Sx
open Go
def arM (X:aY) (fn:Func) (args:List SV) (st:St) (K:SV→St→Prop):Prop:=
 aa3 args fun args=>args.length.ble fn.ntmps=true ∧
  match fn.body with
  | some c=>vk ⟨uZ 0 args,st.ob,st.no,st.k⟩ fun st0=>vc c ⟨X.P,X.Tb,fn.ntmps,X.ro,X.m,true,none,X.inl,X.gl,X.nw⟩ st0 fun e st'=>
    match e with
    | .normal | .ret=>match qm ⟨X.P,X.Tb,fn.ntmps,X.ro,X.m,true,none,X.inl,X.gl,X.nw⟩ st' fn.results.toList with
     | some s=>K s st'
     | none=>False
    | _=>False
  | none=>False
theorem og {X:aY} {f:Nat} {fn:Func} {args:List SV} {st:St} {K:SV→St→Prop} (hm:X.P.follows .mixedOrders=true) (hTb:X.Tb.Ok X.P) (hf:X.P.funcs[f]?=some fn) (hnm:(fn.name=="runtime.NumGoroutine")=false) (hb:fn.body.isSome=true)
  (h:arM X fn args st K):aau X f args st K:=by
 refine ⟨⟨fn,hf,hb,hnm⟩,fun C E vs w hCm hCro hrm hlent hgl hnw hh hA=>?_⟩
 unfold arM at h
 rw[abq] at h
 obtain ⟨h1,hvc⟩:=h
 cases hbody:fn.body with
 | none=>grind
 | some c=>
  simp only[hbody,xJ] at hvc
  have hlen:args.length≤fn.ntmps:=aoH h1
  obtain ⟨hsz,hrep⟩:=hA
  obtain ⟨C',hC'⟩:∃C':Ctx,C'={ C with nt:=fn.ntmps,kh:=st.no,hd0:=E.hd,mem0:=E.mem,wk:=w,nm:=true,J:=fun k I ws=>k=E.k∧I=E.I∧ws=E.ws }:=⟨_,rfl⟩
  have hmno:=hh.mno
  have hmkh:=hh.mkh
  refine callsIn_wide.1 (callsIn_of_wp_marks (F:=Fence.wide) (n:=9) hf hbody trivial ?_ rfl)
  refine ad9 c C' ⟨X.P,X.Tb,fn.ntmps,X.ro,X.m,true,none,X.inl,X.gl,X.nw⟩ _ hm hTb (by rw[hC']) (by grind) ⟨by grind,fun l xs hy=>(by cases hy),fun hx=>(by cases hx),fun i b hi hb=>?_,by grind,fun p hp=>(by rw[hC'];exact hh.mem0 _ _ (hgl p hp)),by simp_all⟩ (by grind) (.inl rfl) _ _ E _ w hvc ⟨?_,fun t=>?_,?_,(fun D o hD _=>by grind),[],fun _=>rfl,rfl,awp,by simp⟩ _ ?_
  ·rw[hC'] at hi hb ⊢
   have hi:i<C.m:=hi
   have hb:(E.hd i).bind aM=some b:=hb
   rw[hh.hd0 i (by omega)] at hb
   grind
  ·grind
  ·have hget:St.get ⟨uZ 0 args,st.ob,st.no,st.k⟩ t=match args[t]? with | some s=>s | none=>.any:=by
    unfold St.get
    simp only[o9,akx,if_true,awo]
    cases args[t]?<;>rfl
   rw[hget]
   cases hs:args[t]? with
   | none=>exact .any _
   | some s=>
    have ht:t<vs.size:=by grind
    have hu:vs[t]?=some vs[t]:=acC ht
    have:(vs++Array.replicate (fn.ntmps-vs.size) undef).getD t undef=vs[t]:=by
     rw[ac9,aut ht,hu];rfl
    grind
  ·rw[hC']
   exact ⟨fun i o ho=>hh.ob i o ho,fun i j o o' b ho ho'=>hh.sep i j o o' b ho ho',fun i o b ho hb=>hh.own i o b ho hb,hh.mem,fun _ _ h=>h,fun _ _ h=>.inl h,fun i hi=>hh.new i hi,hh.base,⟨hh.fr.os,hh.fr.tape,hh.fr.output,hh.fr.bsz,hh.fr.wsz,hh.fr.wos,hh.fr.isz,hh.fr.block,rfl,rfl,rfl⟩,fun _ _=>rfl,abm _,by grind,hh.kk⟩
  ·intro e st' E' a' w' hq hM
   have main:(match qm ⟨X.P,X.Tb,fn.ntmps,X.ro,X.m,true,none,X.inl,X.gl,X.nw⟩ st' fn.results.toList with
     | some s=>K s st'
     | none=>False) →
     LeavesInM Fence.wide 9 X.P fn a'.tmps (fun e w'=>∃v E' s st',e=.returned v∧aL E' v s∧(E.Le E'∧E'.ws=E.ws∧E'.I=E.I)∧bg C E' st' w'∧jm w w'∧K s st') a'.defers .returning w':=by
    intro hres
    split at hres
    ·rename_i s hs
     obtain ⟨v,hv,hrun⟩:=pU (X:=⟨X.P,X.Tb,fn.ntmps,X.ro,X.m,true,none,X.inl,X.gl,X.nw⟩) hM hTb hs
     obtain ⟨hknc,l,hl0,hl1,hl2,hl3⟩:=hM.marks
     have hnil:l=[]:=hl0 (by rw[hC'])
     rw[hl1]
     refine mJ l w' hl2 (fun D hD=>(hl3 D hD).2) fun w1 g1 g2 g3 g4 g5=>?_
     have hnot:∀(b:Nat) (cs:Array Value) (T:TypeId) (fr:Nat×Nat),w'.heap[b]?=some (Obj.cells cs T fr)→b∉l:=fun b cs T fr hb hm=>by grind
     obtain ⟨hEk,hEI,hEw⟩:E'.k=E.k∧E'.I=E.I∧E'.ws=E.ws:=by have:=hM.heap.fr.sync;simp_all
     have hhd:∀k,k<st.no→E'.hd k=E.hd k:=fun k hk=>by have:=hM.heap.hd0 k (by grind);simp_all
     have hmem:∀b cs,E.mem b=some cs→E'.mem b=some cs:=fun b cs hb=>hM.heap.mem0 b cs (by simp_all)
     have hbase:E'.tm=E.tm:=by rw[hM.heap.base,hC',hh.base]
     have hlow:∀D∈l,w.heap.size≤D:=fun D hD=>by grind
     refine ⟨v,hrun w1 (fun b cs T hb=>g5 b (hnot b _ _ _ hb)),v,E',s,st',rfl,hv,⟨⟨fun i v hi=>?_,hmem,hbase⟩,hEw,hEI⟩,?_,fun D o hD ho=>?_,hres⟩
     ·rw[hhd i (Classical.byContradiction fun hge=>by rw[hh.new i (by omega)] at hi;cases hi)];exact hi
     ·have hH:=hM.heap
      rw[hC'] at hH
      refine ⟨fun i o ho=>(hH.ob i o ho).world fun b hb=>?_,hH.sep,fun i o b ho hb=>hH.own i o b ho hb,fun b cs hb=>?_,fun b cs hb=>hmem b cs (hh.mem0 b cs hb),fun b cs hb=>?_,hH.new,hH.base,⟨g1.trans hH.fr.os,g2.trans hH.fr.tape,g3.trans hH.fr.output,hH.fr.bsz,by rw[g4];exact hH.fr.wsz,hH.fr.wos,hH.fr.isz,fun k hk hI=>?_,?_⟩,fun k hk=>?_,by have:st.no≤st'.no:=hH.mno;omega,hmkh,hH.kk⟩
      ·grind
      ·obtain ⟨T,fr,hw⟩:=hH.mem b cs hb
       grind
      ·rcases hH.memnew b cs hb with h2 | h2
       ·rcases hh.memnew b cs h2 with h3 | h3
        all_goals grind [Env.mine]
       grind
      ·rw[g5 k fun hm=>by
        grind]
       exact hH.fr.block k hk hI
      ·rw[hEk,hEI,hEw];exact hh.fr.sync
      ·rw[hhd k (by omega)];exact hh.hd0 k hk
     ·have hD':=hknc D o (by grind) ho
      grind
    grind
   cases e with
   | normal=>exact main hq
   | ret=>exact main hq
   | _=>exact hq.elim
theorem aqw {P:Program} {f:Nat} {S:Spec} (l:List Nat) (h:ay P f { S with inl:=l }):ay P f S:=h
end Go.Sx
namespace Go.Sx
open Go Go.RowKit Go.Sort
theorem aku {P:Program} {f:Nat} {S:Spec} (h:ay P f S) {β:Type} (g:β→S.A) {args:β→List SV} {objs objs':β→List Ob} {res:β→PV} {pre:β→Prop}
  (ha:∀b,pre b→S.args (g b)=args b) (ho:∀b,pre b→S.objs (g b)=objs b) (ho':∀b,pre b→S.objs' (g b)=objs' b) (hr:∀b,pre b→S.res (g b)=res b) (hp:∀b,pre b→S.pre (g b)) :
  ay P f { A:=β,args:=args,objs:=objs,pre:=pre,res:=res,objs':=objs',fresh:=S.fresh,ro:=S.ro,inl:=S.inl,gl:=S.gl }:=by
 refine ⟨h.1,fun b hpre E vs w hg hh hA=>?_⟩
 have h2:=h.2 (g b) (hp b hpre) E vs w hg
 grind [Spec.post]
end Go.Sx
namespace Go.Sx
open Go Go.RowKit
def av6 (P:Program) (Tb:Tab) (fn:Func) (S:uh) (a:S.A):Prop:=
 (S.args a).length.ble fn.ntmps=true ∧
  match fn.body with
  | some c=>vc c ⟨P,Tb,fn.ntmps,0,0,false,none,[],[],true⟩ (mU (S.args a) []) fun e st'=>
    match e with
    | .normal | .ret=>match qm ⟨P,Tb,fn.ntmps,0,0,false,none,[],[],true⟩ st' fn.results.toList with
     | some (.row i)=>match st'.obj i with
      | some (.row T sz n f)=>T=S.T∧sz=1∧n=(S.vals a).length∧∀k,k<n→f k=fO (S.vals a) k
      | _=>False
     | _=>False
    | _=>False
  | none=>False
theorem apz {P:Program} {Tb:Tab} {f:Nat} {fn:Func} {S:uh} (hm:P.follows .mixedOrders=true) (hTb:Tb.Ok P) (hf:P.funcs[f]?=some fn) (hnm:(fn.name=="runtime.NumGoroutine")=false) (hb:fn.body.isSome=true)
  (h:∀a,S.pre a→av6 P Tb fn S a):aaV P f S:=by
 refine ⟨⟨fn,hf,hb,hnm⟩,fun a0 hpre E vs w hh hA=>?_⟩
 obtain ⟨h1,hvc⟩:=h a0 hpre
 cases hbody:fn.body with
 | none=>grind
 | some c=>
  simp only[hbody] at hvc
  have hlen:(S.args a0).length≤fn.ntmps:=aoH h1
  obtain ⟨hsz,hrep⟩:=hA
  refine callsIn_wide.1 (callsIn_of_wp_marks (F:=Fence.wide) (n:=9) hf hbody trivial ?_ rfl)
  refine ad9 c { lM w E [] 0 with nt:=fn.ntmps } ⟨P,Tb,fn.ntmps,0,0,false,none,[],[],true⟩ _ hm hTb rfl rfl ⟨rfl,fun l xs hy=>(by cases hy),fun _=>⟨rfl,rfl⟩,fun i b hi hb=>absurd hi (aeo _),abm _,fun p hp=>(by cases hp),fun _ _ hb=>hb⟩ (abm _) (.inl rfl) _ _ E _ w hvc ⟨?_,fun t=>?_,?_,(fun D o hD _=>by grind [lM]),[],fun _=>rfl,rfl,awp,by simp⟩ _ ?_
  ·simp;omega
  ·have hget:(mU (S.args a0) []).get t=match (S.args a0)[t]? with | some s=>s | none=>.any:=by
    unfold mU St.get
    simp only[o9,akx,if_true,awo]
    cases (S.args a0)[t]?<;>rfl
   rw[hget]
   cases hs:(S.args a0)[t]? with
   | none=>exact .any _
   | some s=>
    have ht:t<vs.size:=by grind
    have hu:vs[t]?=some vs[t]:=acC ht
    have:(vs++Array.replicate (fn.ntmps-vs.size) undef).getD t undef=vs[t]:=by
     rw[ac9,aut ht,hu];rfl
    grind
  ·exact ⟨fun i o ho=>hh.ob i o ho,fun i j o o' b ho ho'=>hh.sep i j o o' b ho ho',fun i o b ho hb=>hh.own i o b ho hb,hh.mem,hh.mem0,hh.memnew,fun i hi=>hh.new i hi,hh.base,⟨hh.fr.os,hh.fr.tape,hh.fr.output,hh.fr.bsz,hh.fr.wsz,hh.fr.wos,hh.fr.isz,hh.fr.block,hh.fr.sync⟩,hh.hd0,hh.mno,hh.mkh,hh.kk⟩
  ·intro e st' E' a' w' hq hM
   have main:(match qm ⟨P,Tb,fn.ntmps,0,0,false,none,[],[],true⟩ st' fn.results.toList with
     | some (.row i)=>match st'.obj i with
      | some (.row T sz n f)=>T=S.T∧sz=1∧n=(S.vals a0).length∧∀k,k<n→f k=fO (S.vals a0) k
      | _=>False
     | _=>False) →
     LeavesInM Fence.wide 9 P fn a'.tmps (fun e w'=>∃v,e=.returned v∧vT v=true∧Below w.heap.size w w'∧w'.ownsRow w.heap.size S.T 1 v (S.vals a0).length (S.vals a0)∧(S.vals a0).length≤maxLen) a'.defers .returning w':=by
    intro hres
    split at hres
    ·rename_i i hs
     split at hres
     ·rename_i T sz n fr hob
      obtain ⟨rfl,rfl,rfl,hfr⟩:=hres
      obtain ⟨v,hv,hrun⟩:=pU hM hTb hs
      obtain ⟨_,l,_,hl1,hl2,hl3⟩:=hM.marks
      rw[hl1]
      refine mJ l w' hl2 (fun D hD=>(hl3 D hD).2) fun w1 g1 g2 g3 g4 g5=>?_
      have hnot:∀(b:Nat) (cs:Array Value) (T:TypeId) (fr:Nat×Nat),w'.heap[b]?=some (Obj.cells cs T fr)→b∉l:=fun b cs T fr hb hm=>by grind
      obtain ⟨hEk,hEI,hEw⟩:E'.k=none∧E'.I=nZ E.hd [] 0∧E'.ws=w:=hM.heap.fr.sync
      have hnI:∀b,¬E'.I b:=fun b hb=>by
       rw[hEI] at hb
       obtain ⟨k,o,_,h2,_⟩:=hb
       simp at h2
      cases hv with
      | row _ _ hd hsl=>
      have hO:=hM.heap.ob i _ hob
      cases hO with
      | row _ _ _ _ v' xs u hhd hw hmax hl hc he=>
      rw[hd] at hhd
      obtain rfl:=Option.some.inj hhd
      have hxl:xs.length=(S.vals a0).length:=by have:=hw.1;omega
      have hxs:xs=S.vals a0:=by
       apply axE hxl
       intro j hj1 hj2
       have hk:=hfr j hj2
       have hk0:(fr j)[0]?=some (.val ((S.vals a0).getD j undef)):=by rw[hk];rfl
       have c1:=(hc j 0 _ hj2 hk0).1
       have c2:=(he j 0 _ hj2 hk0).aO
       grind
      subst hxs
      refine ⟨v,hrun w1 (fun b cs T hb=>g5 b (hnot b _ _ _ hb)),v,rfl,hsl,⟨g1.trans hM.heap.fr.os,g2.trans hM.heap.fr.tape,g3.trans hM.heap.fr.output,?_,fun k hk=>?_⟩,⟨hw.1,?_⟩,hmax⟩
      ·have:=hM.heap.fr.wsz
       grind
      ·rw[g5 k fun hm=>by have:=(hl3 k hm).1.1;have this:w.heap.size≤k:=this;omega]
       have:=hM.heap.fr.block k (by grind) (hnI k)
       grind
      ·rcases hw.2 with h2 | ⟨g,cap,cur,rfl,_,hg,rest⟩
       ·exact .inl h2
       ·refine .inr ⟨g,cap,cur,rfl,?_,?_,rest⟩
        ·have hbk:E'.blk i=some g:=by grind [Env.blk,aM]
         rcases (hM.heap.own i _ g hob hbk).2.1 with h3 | h3
         ·exact h3
         ·exact absurd h3.1 (aeo _)
        grind
     grind
    grind
   cases e with
   | normal=>exact main hq
   | ret=>exact main hq
   | _=>exact hq.elim
theorem auc {X:aY} {f:Nat} {args:List SV} {st:St} {K:SV→St→Prop} {S:uh} (h:aaV X.P f S) (a:S.A) (hp:S.pre a) (h1:∀v∈S.vals a,v.oneCell'=true) (hargs:nK st [] args (S.args a)) (hl:jO args (S.args a)=false)
  (hK:K (.row st.no) ⟨st.fr,(st.no,some (.row S.T 1 (S.vals a).length (fO (S.vals a)))) :: st.ob,st.no+1,st.k⟩):aau X f args st K:=by
 refine ⟨h.1,fun C E vs w hCm hCro hrm hlent hgl _ hh hA=>?_⟩
 have hheap:bg (lM w (aN E st w [] false [] 0 fun b=>w.heap.size≤b) [] 0) _ _ _:=pO hh (js:=[]) rfl (lend:=false) (os:=[]) (ro:=0) (t:=fun b=>w.heap.size≤b) trivial (fun h=>by cases h)
 obtain ⟨hal,hag⟩:=qC st [] _ _ hargs
 obtain ⟨hsz,hvs⟩:=hA
 have hA2:l8 (aN E st w [] false [] 0 fun b=>w.heap.size≤b) vs (S.args a):=by
  refine ⟨by omega,fun k u c hu hc=>?_⟩
  have hka:k<args.length:=by grind
  have hs:args[k]?=some args[k]:=aav hka
  obtain ⟨l1,l2⟩:=lZ args (S.args a) k
  grind [qF]
 refine (h.2 a hp _ vs w hheap hA2).mono ?_
 rintro e w' ⟨v,rfl,hsl,hb,hw,hmax⟩
 have hw0:w'.ownsRow 0 S.T 1 v (S.vals a).length (S.vals a):=by
  refine ⟨hw.1,?_⟩
  rcases hw.2 with h2 | ⟨g,cap,cur,h2,_,rest⟩
  all_goals grind
 refine ⟨v,E.add st.no v,.row st.no,_,rfl,.row _ _ (Env.kX _ _ _) hsl,⟨Env.uL (hh.new st.no (abm _)),rfl,rfl⟩,?_,fun D o hD _=>(hb.block D (acG.1 hD).1).trans hD,hK⟩
 refine hh.step (i:=st.no) (o:=.row S.T 1 (S.vals a).length (fO (S.vals a))) (abm _) (Nat.lt_succ_self _) rfl ?_ (fun k o' hk ho=>?_) ?_ hb.os hb.tape hb.output hb.size (fun k hk=>.inl (hb.block k hk)) (fun b hbv=>.inl ?_)
 ·have:=mq st.fr st.ob st.no (st.no+1) (c:=st.k) (c':=st.k) st.no (some (.row S.T 1 (S.vals a).length (fO (S.vals a)))) st.no
  grind
 ·have:=mq st.fr st.ob st.no (st.no+1) (c:=st.k) (c':=st.k) st.no (some (.row S.T 1 (S.vals a).length (fO (S.vals a)))) k
  rw[if_neg (fun e=>hk e.symm)] at this
  simp_all
 ·refine .row S.T 1 _ _ v (S.vals a) (fun j _=>(S.vals a).getD j undef) (Env.kX _ _ _) hw0 hmax (fun j _=>rfl) (fun j k s hj hs=>?_) (fun j k s hj hs=>?_)
  ·simp_all [arx,fO]
  ·have hk:k=0:=by
    grind [fO]
   subst hk
   simp only[fO,axo,Option.some.injEq] at hs
   subst hs
   exact .val _
 ·rcases hw.2 with ⟨rfl,_⟩ | ⟨g,cap,cur,rfl,hg,_⟩
  all_goals grind [aM]
end Go.Sx
namespace Go.Sx
open Go
def avQ (X:aY) (rs:List ResultVar) (n:Nat):Exit→St→Prop:=fun e st=>
 match e with
 | .normal | .ret=>match qm X st rs with
  | some (.p _ (.val (.bool b)))=>match st.k with
   | some k=>b=true∧k=n
   | none=>b=false
  | _=>False
 | _=>False
def atK (inl:List Nat) (P:Program) (Tb:Tab) (fn:Func) (S:afh) (a:S.A) (l:Nat):Prop:=
 (S.args l a).length.ble fn.ntmps=true ∧
  match fn.body with
  | some c=>vc c ⟨P,Tb,fn.ntmps,(S.objs l a).length,(S.objs l a).length,true,some (l,S.ys a),inl,[],false⟩ ⟨uZ 0 (S.args l a),wH 0 (S.objs l a),(S.objs l a).length,some 0⟩ (avQ ⟨P,Tb,fn.ntmps,(S.objs l a).length,(S.objs l a).length,true,some (l,S.ys a),inl,[],false⟩ fn.results.toList (S.ys a).length)
  | none=>False
theorem ao3 (inl:List Nat) {P:Program} {Tb:Tab} {f:Nat} {fn:Func} {S:afh} (hm:P.follows .mixedOrders=true) (hTb:Tb.Ok P) (hf:P.funcs[f]?=some fn) (hnm:(fn.name=="runtime.NumGoroutine")=false) (hb:fn.body.isSome=true)
  (h:∀a,S.pre a→∀l,atK inl P Tb fn S a l):ajj P f S:=by
 refine ⟨⟨fn,hf,hb,hnm⟩,fun a0 hpre l J E vs w hstab htmE hy hJ0 hh hA=>?_⟩
 obtain ⟨h1,hvc⟩:=h a0 hpre l
 cases hbody:fn.body with
 | none=>grind
 | some c=>
  simp only[hbody] at hvc
  have hlen:(S.args l a0).length≤fn.ntmps:=aoH h1
  obtain ⟨hsz,hrep⟩:=hA
  obtain ⟨_,hEI,hEw⟩:E.k=none∧E.I=nZ E.hd (S.objs l a0) (S.objs l a0).length∧E.ws=w:=hh.fr.sync
  have hnob:∀b,¬E.I b:=fun b hb=>by
   rw[hEI] at hb
   obtain ⟨k,o,k1,k2,_⟩:=hb
   grind
  have hlent:∀i b,i<(S.objs l a0).length→(E.hd i).bind aM=some b→b<w.heap.size:=fun i b hi hb=>
   (hh.ob i _ (by rw[gy];exact aav hi)).iZ hb
  obtain ⟨C,hC⟩:∃C:Ctx,C={ w0:=w,bor:=nZ E.hd (S.objs l a0) (S.objs l a0).length,mem0:=E.mem,base:=w.heap.size,nt:=fn.ntmps,hd0:=E.hd,m:=(S.objs l a0).length,ro:=(S.objs l a0).length,kh:=(S.objs l a0).length,wk:={ w with heap:=#[] },nm:=true,J:=J,tm:=E.tm }:=⟨_,rfl⟩
  obtain ⟨E1,hE1⟩:∃E1:Env,E1={ E with ws:=w,I:=fun _=>False,k:=some 0 }:=⟨_,rfl⟩
  have hle:E.Le E1:=by rw[hE1];exact ⟨fun _ _ h=>h,fun _ _ h=>h,rfl⟩
  refine callsIn_of_wp_marks (F:=Fence.wide) (n:=9) hf hbody trivial ?_ rfl
  refine ad9 c C ⟨P,Tb,fn.ntmps,(S.objs l a0).length,(S.objs l a0).length,true,some (l,S.ys a0),inl,[],false⟩ _ hm hTb (by rw[hC]) (by rw[hC]) ⟨by rw[hC],fun l' xs hx=>?_,fun hx=>(by cases hx),fun i b hi hb=>?_,by grind,fun p hp=>(by cases hp),fun hx=>(by cases hx)⟩ (by grind) (.inl rfl) _ _ E1 _ w hvc ⟨?_,fun t=>?_,?_,fun D o hD _=>by grind,[],fun _=>rfl,rfl,awp,by simp⟩ _ ?_
  ·cases hx
   refine ⟨⟨fun k x us I W1 hx hus hJ=>?_,by grind,by rw[hC],by simp_all⟩,rfl⟩
   have:=hy k x us I W1 hx ⟨hus.1,fun q u s hu hs=>(hus.2 q u s hu hs).mono fun b cs hb=>by
    simp_all [Ctx.agI,Env.m]⟩ (by simp_all)
   simp_all
  ·rw[hC] at hi hb ⊢
   grind
  ·grind
  ·have hget:St.get ⟨uZ 0 (S.args l a0),wH 0 (S.objs l a0),(S.objs l a0).length,some 0⟩ t=match (S.args l a0)[t]? with | some s=>s | none=>.any:=by
    unfold St.get
    simp only[o9,akx,if_true,awo]
    cases (S.args l a0)[t]?<;>rfl
   rw[hget]
   cases hs:(S.args l a0)[t]? with
   | none=>exact .any _
   | some s=>
    have ht:t<vs.size:=by grind
    have hu:vs[t]?=some vs[t]:=acC ht
    have:(vs++Array.replicate (fn.ntmps-vs.size) undef).getD t undef=vs[t]:=by
     rw[ac9,aut ht,hu];rfl
    rw[this]
    exact (hrep t _ s hu hs).mono hle
  ·rw[hC,hE1]
   refine ⟨fun i o ho=>(hh.ob i o ho).mono (E:=E) (E':={ E with ws:=w,I:=fun _=>False,k:=some 0 }) ⟨fun _ _ h=>h,fun _ _ h=>h,rfl⟩,fun i j o o' b ho ho'=>hh.sep i j o o' b ho ho',fun i o b ho hb=>?_,hh.mem,fun _ _ h=>h,fun _ _ h=>.inl h,fun i hi=>hh.new i hi,hh.base,⟨rfl,rfl,rfl,abm _,abm _,⟨rfl,rfl,rfl⟩,fun b hb=>hb.elim,fun k _ _=>rfl,hJ0⟩,fun _ _=>rfl,abm _,abm _,rfl⟩
   obtain ⟨q1,q2,q3⟩:=hh.own i o b ho hb
   refine ⟨q1,q2,q3.imp (fun x=>?_) id⟩
   rcases x with x | x
   ·rw[hEw] at x;exact .inl x
   grind
  ·intro e st' E' a' w' hq hM
   have main:(match qm ⟨P,Tb,fn.ntmps,(S.objs l a0).length,(S.objs l a0).length,true,some (l,S.ys a0),inl,[],false⟩ st' fn.results.toList with
     | some (.p _ (.val (.bool b)))=>match st'.k with
      | some k=>b=true∧k=(S.ys a0).length
      | none=>b=false
     | _=>False) →
     LeavesInM Fence.wide 9 P fn a'.tmps (fun e W'=>∃I,(∀b,I b→b<W'.heap.size)∧((e=.returned (.bool true)∧J (some (S.ys a0).length) I W')∨(e=.returned (.bool false)∧J none I W'))) a'.defers .returning w':=by
    intro hres
    split at hres
    ·rename_i b0 t hs
     obtain ⟨v,hv,hrun⟩:=pU hM hTb hs
     obtain rfl:v=.bool t:=by
      cases hv with
      | p _ _ _ hp=>exact hp.aO
     obtain ⟨_,l1,hl0,hl1,hl2,hl3⟩:=hM.marks
     rw[hl1]
     refine mJ l1 w' hl2 (fun D hD=>(hl3 D hD).2) fun w1 g1 g2 g3 g4 g5=>?_
     have hnot:∀(b:Nat) (cs:Array Value) (T:TypeId) (fr:Nat×Nat),w'.heap[b]?=some (Obj.cells cs T fr)→b∉l1:=fun b cs T fr hb hm=>by grind
     have hJ:J E'.k (fun b=>E'.I b∨(E'.ws.heap.size≤b∧b<w1.heap.size)) w1:=by
      have hF:=hM.heap.fr
      have hs:=hF.sync
      rw[hC] at hs
      have hwos:=hF.wos
      refine hstab _ _ _ _ _ hs (fun b hb=>.inl hb) (fun b hb=>hb.imp id (fun x=>x.1)) (fun b hb=>hb.elim (fun x=>?_) (fun x=>x.2)) ?_ ?_ ?_ (by rw[g4];exact hF.wsz) (fun b hb hn=>?_)
      ·rw[g4];exact alk (hF.isz b x) hF.wsz
      ·rw[g1,hF.os,hwos.1]
      ·rw[g2,hF.tape,hwos.2.1]
      ·rw[g3,hF.output,hwos.2.2]
      ·rw[g5 b (fun hm=>by
        grind)]
       exact hF.block b hb hn
     refine ⟨.bool t,hrun w1 (fun b cs T hb=>g5 b (hnot b _ _ _ hb)),(fun b=>E'.I b∨(E'.ws.heap.size≤b∧b<w1.heap.size)),fun b hb=>hb.elim (fun x=>?_) (fun x=>x.2),?_⟩
     ·rw[g4];exact alk (hM.heap.fr.isz b x) hM.heap.fr.wsz
     ·have hkk:=hM.heap.kk
      grind
    grind
   cases e with
   | normal=>exact main hq
   | ret=>exact main hq
   | _=>exact hq.elim
end Go.Sx
namespace Go.Sx
open Go Go.RowKit
structure xR where
 A:Type
 fix:Nat
 args:A→List SV
 objs:A→List Ob
 pre:A→Prop
 res:A→SV
 objs':A→List Ob
 inl:List Nat:=[]
 gl:List (Nat×Array Value):=[]
def agJ (w:World) (E:Env) (l:List Ob) (base fix:Nat):Ctx:=
 { w0:=w,bor:=fun _=>False,mem0:=E.mem,base:=base,nt:=0,hd0:=E.hd,m:=0,ro:=0,kh:=fix,wk:={ w with heap:=#[] },nm:=false,J:=fun k I ws=>k=none∧I=nZ E.hd l 0∧ws=w,tm:=fun b=>base≤b }
def rW (P:Program) (f:Nat) (S:xR):Prop:=
 (∃fn,P.funcs[f]?=some fn∧fn.body.isSome=true∧(fn.name=="runtime.NumGoroutine")=false) ∧
 ∀(a:S.A),S.pre a→∀(base:Nat) (E:Env) (vs:Array Value) (w:World),(∀p∈S.gl,E.mem p.1=some p.2) →
  bg (agJ w E (S.objs a) base S.fix) E (ow (S.objs a)) w→l8 E vs (S.args a) →
  Calls P f vs w fun e w'=>∃v E',e=.returned v∧aL E' v (S.res a)∧bg (agJ w E (S.objs a) base S.fix) E' (ow (S.objs' a)) w'
def amL (st:St) (js:List Nat) (s c:SV):Prop:=
 match c with
 | .tup l=>match s with
  | .tup l'=>nK st js l' l
  | _=>False
 | .agg l=>match s with
  | .agg l'=>nK st js l' l
  | _=>False
 | c=>acW st js s c
def amu (js:List Nat) (c:SV):SV:=
 match c with
 | .tup l=>.tup (rC js l)
 | .agg l=>.agg (rC js l)
 | c=>uD js c
def ad8 (s c:SV):Bool:=
 match c with
 | .tup l=>match s with
  | .tup l'=>jO l' l
  | _=>true
 | .agg l=>match s with
  | .agg l'=>jO l' l
  | _=>true
 | c=>jO [s] [c]
def agM:Nat→Nat→List Nat→Bool
 | 0,_,_=>true
 | n+1,k,j :: l=>(j.beq k).and (agM n (k+1) l)
 | _+1,_,[]=>false
theorem aiF:∀(n k:Nat) (l:List Nat),agM n k l=true→∀q,q<n→l[q]?=some (k+q)
 | 0,_,_,_,q,h=>by omega
 | n+1,k,[],h,_,_=>by grind [agM]
 | n+1,k,j :: l,h,q,hq=>by
  simp only[agM,abj] at h
  have:=acD h.1
  subst this
  cases q with
  | zero=>rfl
  | succ q=>
   have:=aiF n (j+1) l h.2 q (by omega)
   grind
def aoV (X:aY) (rs:List ResultVar) (fix:Nat) (res:SV) (os:List Ob):Exit→St→Prop:=fun e st=>
 match e with
 | .normal | .ret=>match qm X st rs with
  | some s=>∃js:List Nat,(distinct js=true∧agM fix 0 js=true∧(ad8 s res).or (kP st js os)=false)∧amL st js s res∧qh st js js os
  | none=>False
 | _=>False
def avv (P:Program) (Tb:Tab) (fn:Func) (S:xR) (a:S.A):Prop:=
 ((S.args a).length.ble fn.ntmps=true∧S.fix.ble (S.objs a).length=true∧S.fix.ble (S.objs' a).length=true) ∧
  match fn.body with
  | some c=>vc c ⟨P,Tb,fn.ntmps,0,0,false,none,S.inl,S.gl,true⟩ (mU (S.args a) (S.objs a)) (aoV ⟨P,Tb,fn.ntmps,0,0,false,none,S.inl,S.gl,true⟩ fn.results.toList S.fix (S.res a) (S.objs' a))
  | none=>False
theorem dP.alL {E:Env} {w:World} {i:Nat} {o:Ob} (h:dP E w i o) {b:Nat} (hb:E.blk i=some b):∃x,w.heap[b]?=some x∧stC x=true:=by
 cases h with
 | cells b' T vs cs hh hw _ _ _=>simp[Env.blk,hh,aM] at hb;subst hb;exact ⟨_,hw,rfl⟩
 | row T sz n f v xs u hh hw _ _ _ _=>
  rcases hw.2 with ⟨rfl,_⟩ | ⟨g,cap,cur,rfl,_,hg,_⟩
  ·grind [Env.blk,aM]
  ·simp[Env.blk,hh,aM] at hb;subst hb;exact ⟨_,hg,rfl⟩
 | arr b' T vs n f u hh hw _ _ _=>simp[Env.blk,hh,aM] at hb;subst hb;exact ⟨_,hw,rfl⟩
 | map r es clock kt n get hh hw _ _ _ _=>simp[Env.blk,hh,aM] at hb;subst hb;exact ⟨_,hw,rfl⟩
theorem bg.avi {C:Ctx} {E:Env} {st:St} {w:World} (h:bg C E st w) {j:Nat} {o:Ob} (ho:st.obj j=some o):j<st.no:=by
 obtain ⟨v,hv⟩:=(h.ob j o ho).alH
 refine Classical.byContradiction fun hn=>?_
 rw[h.new j (by omega)] at hv;cases hv
theorem aqo {C:Ctx} {E:Env} {st:St} {w:World} (h:bg C E st w) {js:List Nat} {t:Nat→Prop} {os:List Ob} {s c:SV} (hm:amL st js s c) (hl:ad8 s c=false) {v:Value} (hv:aL E v s) :
  aL (aN E st w js false os 0 t) v c:=by
 have many:∀(l' l:List SV) (vs:Array Value),nK st js l' l→jO l' l=false→vs.size=l'.length→(∀(k:Nat) (u:Value) (s:SV),vs[k]?=some u→l'[k]?=some s→aL E u s) →
   vs.size=l.length∧∀(k:Nat) (u:Value) (s:SV),vs[k]?=some u→l[k]?=some s→aL (aN E st w js false os 0 t) u s:=by
  intro l' l vs ha hlnd hs he
  obtain ⟨h1,h2⟩:=qC st js l' l ha
  refine ⟨by omega,fun k u c hu hc=>?_⟩
  have hk:k<l'.length:=by grind
  have hs':l'[k]?=some l'[k]:=aav hk
  obtain ⟨q1,q2⟩:=lZ l' l k
  grind [qF]
 have one:acW st js s c→jO [s] [c]=false→aL (aN E st w js false os 0 t) v c:=by
  intro ha hlnd
  obtain ⟨q1,q2⟩:=lZ [s] [c] 0
  grind [qF]
 unfold amL at hm
 unfold ad8 at hl
 split at hm
 ·split at hm
  ·simp only at hl
   cases hv with
   | tup vs l hs he=>
    obtain ⟨g1,g2⟩:=many _ _ vs hm hl hs he
    exact .tup vs _ g1 g2
  grind
 ·split at hm
  ·simp only at hl
   cases hv with
   | agg vs l hs h1 he=>
    obtain ⟨g1,g2⟩:=many _ _ vs hm hl hs he
    exact .agg vs _ g1 h1 g2
  grind
 grind
theorem apE {C:Ctx} {E:Env} {st:St} {w:World} (h:bg C E st w) {js:List Nat} (hd:distinct js=true) {os:List Ob} (hm:qh st js js os) (hl:kP st js os=false) (hge:lu C.m js=true) {fix:Nat} (hfix:fix≤os.length) :
  bg (agJ w (aN E st w js false os 0 fun b=>C.base≤b) os C.base fix) (aN E st w js false os 0 fun b=>C.base≤b) (ow os) w:=by
 have h0:=pO h hd (lend:=false) (ro:=0) (t:=fun b=>C.base≤b) hm (fun e=>by grind)
 obtain ⟨hlen,hget⟩:=qD st js js os hm
 refine ⟨h0.ob,h0.sep,fun k o b ho hb=>?_,h0.mem,h0.mem0,fun b cs hb=>.inl hb,h0.new,rfl,⟨rfl,rfl,rfl,aiT h.fr.bsz h.fr.wsz,abm _,⟨rfl,rfl,rfl⟩,h0.fr.isz,fun _ _ _=>rfl,⟨rfl,rfl,rfl⟩⟩,fun _ _=>rfl,hfix,akx _,rfl⟩
 obtain ⟨g1,g2,g3⟩:=h0.own k o b ho hb
 have g3:=g3.resolve_right (fun x=>aeo _ x.2)
 rw[gy] at ho
 have hk:k<js.length:=by grind
 have hj:js[k]?=some js[k]:=aav hk
 have hM:=hget k _ o hj ho
 have hob:∃o',st.obj js[k]=some o':=by
  unfold obM at hM
  grind
 obtain ⟨o',ho'⟩:=hob
 have hbj:E.blk js[k]=some b:=by
  have:(aN E st w js false os 0 fun b=>C.base≤b).blk k=E.blk js[k]:=by grind [Env.blk,aN]
  grind
 have hbase:=(h.own _ o' b ho' hbj).2.1
 have:=qV js hge k _ hj
 exact ⟨g1,.inl (hbase.resolve_right (fun x=>by omega)),.inl g3⟩
noncomputable def ag5 (E:Env) (st:St) (w:World) (js:List Nat) (os:List Ob):Env:={ aN E st w js false os 0 E.tm with ws:=E.ws,I:=E.I,k:=E.k }
theorem af7 (E:Env) (st:St) (w:World) (js:List Nat) (os:List Ob):(aN E st w js false os 0 E.tm).Le (ag5 E st w js os):=⟨fun _ _ h=>h,fun _ _ h=>h,rfl⟩
theorem aq9 {C:Ctx} {E:Env} {st:St} {w:World} (h:bg C E st w) (hm0:C.m=0) {js:List Nat} (hd:distinct js=true) (hfix:∀k,k<C.kh→js[k]?=some k) {os:List Ob} (hm:qh st js js os) (hl:kP st js os=false) (hlen':C.kh≤os.length)
  (hk:E.k=none) {w1:World} (hlow:∀k,k<E.ws.heap.size→¬E.I k→w1.heap[k]?=w.heap[k]?) (hos:w1.os=w.os) (htape:w1.tape=w.tape) (hout:w1.output=w.output) (hsz:w1.heap.size=w.heap.size) (hcells:∀(b:Nat) (o:Obj),w.heap[b]?=some o→stC o=true→w1.heap[b]?=w.heap[b]?) :
  bg C (ag5 E st w js os) (ow os) w1:=by
 have h0:=pO h hd (lend:=false) (ro:=0) (t:=E.tm) hm (fun e=>by grind)
 obtain ⟨hlen,hget⟩:=qD st js js os hm
 have hle:=af7 E st w js os
 have memback:∀b cs,(aN E st w js false os 0 E.tm).mem b=some cs→E.mem b=some cs:=fun b cs hb=>o8 hb
 refine ⟨fun k o ho=>?_,h0.sep,fun k o b ho hb=>?_,fun b cs hb=>?_,fun b cs hb=>fM (os:=os) (ro:=0) (t:=E.tm) (h.mem0 b cs hb),fun b cs hb=>?_,h0.new,h.base,⟨hos.trans h.fr.os,htape.trans h.fr.tape,hout.trans h.fr.output,h.fr.bsz,by show E.ws.heap.size≤w1.heap.size;rw[hsz];exact h.fr.wsz,h.fr.wos,h.fr.isz,fun k hk' hI=>?_,h.fr.sync⟩,fun k hk'=>?_,?_,h.mkh,hk⟩
 ·refine ((h0.ob k o ho).mono hle).world fun b hb=>?_
  obtain ⟨x,hx,hxc⟩:=(h0.ob k o ho).alL (b:=b) hb
  grind
 ·obtain ⟨g1,g2,g3⟩:=h0.own k o b ho hb
  rw[gy] at ho
  have hk:k<js.length:=by grind
  have hj:js[k]?=some js[k]:=aav hk
  have hM:=hget k _ o hj ho
  have hob:∃o',st.obj js[k]=some o':=by
   unfold obM at hM
   grind
  obtain ⟨o',ho'⟩:=hob
  have hbj:E.blk js[k]=some b:=by
   have:(aN E st w js false os 0 E.tm).blk k=E.blk js[k]:=by grind [Env.blk,aN]
   rw[←this];exact hb
  obtain ⟨q1,q2,q3⟩:=h.own _ o' b ho' hbj
  refine ⟨g1,.inl (q2.resolve_right (fun x=>by omega)),.inl (q3.resolve_right (fun x=>by omega))⟩
 ·obtain ⟨T,fr,hw⟩:=h.mem b cs (memback b cs hb)
  exact ⟨T,fr,by rw[hcells b _ hw rfl];exact hw⟩
 ·exact h.memnew b cs (memback b cs hb)
 ·rw[hlow k hk' hI];exact h.fr.block k hk' hI
 ·show (js[k]?).bind E.hd=C.hd0 k
  rw[hfix k hk']
  exact h.hd0 k hk'
 ·show C.kh≤os.length
  exact hlen'
theorem auI {P:Program} {Tb:Tab} {f:Nat} {fn:Func} {S:xR} (hm:P.follows .mixedOrders=true) (hTb:Tb.Ok P) (hf:P.funcs[f]?=some fn) (hnm:(fn.name=="runtime.NumGoroutine")=false) (hb:fn.body.isSome=true)
  (h:∀a,S.pre a→avv P Tb fn S a):rW P f S:=by
 refine ⟨⟨fn,hf,hb,hnm⟩,fun a0 hpre base E vs w hgl hh hA=>?_⟩
 obtain ⟨⟨h1,h2,h3⟩,hvc⟩:=h a0 hpre
 cases hbody:fn.body with
 | none=>grind
 | some c=>
  simp only[hbody] at hvc
  have hfix:S.fix≤(S.objs a0).length:=aoH h2
  have hfix':S.fix≤(S.objs' a0).length:=aoH h3
  have hlen:(S.args a0).length≤fn.ntmps:=aoH h1
  obtain ⟨hsz,hrep⟩:=hA
  refine callsIn_wide.1 (callsIn_of_wp_marks (F:=Fence.wide) (n:=9) hf hbody trivial ?_ rfl)
  refine ad9 c { agJ w E (S.objs a0) base S.fix with nt:=fn.ntmps } ⟨P,Tb,fn.ntmps,0,0,false,none,S.inl,S.gl,true⟩ _ hm hTb rfl rfl ⟨rfl,fun l xs hy=>(by cases hy),fun _=>⟨rfl,rfl⟩,fun i b hi hb=>absurd hi (aeo _),abm _,hgl,fun _ _ hb=>hb⟩ (abm _) (.inl rfl) _ _ E _ w hvc ⟨?_,fun t=>?_,?_,(fun D o hD _=>by grind [agJ]),[],fun _=>rfl,rfl,awp,by simp⟩ _ ?_
  ·simp;omega
  ·have hget:(mU (S.args a0) (S.objs a0)).get t=match (S.args a0)[t]? with | some s=>s | none=>.any:=by
    unfold mU St.get
    simp only[o9,akx,if_true,awo]
    cases (S.args a0)[t]?<;>rfl
   rw[hget]
   cases hs:(S.args a0)[t]? with
   | none=>exact .any _
   | some s=>
    have ht:t<vs.size:=by grind
    have hu:vs[t]?=some vs[t]:=acC ht
    have:(vs++Array.replicate (fn.ntmps-vs.size) undef).getD t undef=vs[t]:=by
     rw[ac9,aut ht,hu];rfl
    grind
  ·exact ⟨fun i o ho=>hh.ob i o ho,fun i j o o' b ho ho'=>hh.sep i j o o' b ho ho',fun i o b ho hb=>hh.own i o b ho hb,hh.mem,hh.mem0,hh.memnew,fun i hi=>hh.new i hi,hh.base,⟨hh.fr.os,hh.fr.tape,hh.fr.output,hh.fr.bsz,hh.fr.wsz,hh.fr.wos,hh.fr.isz,hh.fr.block,hh.fr.sync⟩,hh.hd0,hh.mno,hh.mkh,hh.kk⟩
  ·intro e st' E' a' w' hq hM
   have main:(match qm ⟨P,Tb,fn.ntmps,0,0,false,none,S.inl,S.gl,true⟩ st' fn.results.toList with
     | some s=>∃js:List Nat,(distinct js=true∧agM S.fix 0 js=true∧(ad8 s (S.res a0)).or (kP st' js (S.objs' a0))=false)∧amL st' js s (S.res a0)∧qh st' js js (S.objs' a0)
     | none=>False) →
     LeavesInM Fence.wide 9 P fn a'.tmps (fun e w'=>∃v E',e=.returned v∧aL E' v (S.res a0)∧bg (agJ w E (S.objs a0) base S.fix) E' (ow (S.objs' a0)) w') a'.defers .returning w':=by
    intro hres
    split at hres
    ·rename_i s hs
     obtain ⟨js,⟨hd,hfj,hlnd⟩,hr,hobs⟩:=hres
     obtain ⟨hl1',hl2'⟩:=avj.1 hlnd
     obtain ⟨v,hv,hrun⟩:=pU hM hTb hs
     obtain ⟨_,l,_,hl1,hl2,hl3⟩:=hM.marks
     rw[hl1]
     refine mJ l w' hl2 (fun D hD=>(hl3 D hD).2) fun w1 g1 g2 g3 g4 g5=>?_
     have hnot:∀(b:Nat) (o:Obj),w'.heap[b]?=some o→stC o=true→b∉l:=fun b o hb ho hm=>by rw[(hl3 b hm).2] at hb;cases hb;cases ho
     obtain ⟨hEk,hEI,hEw⟩:E'.k=none∧E'.I=nZ E.hd (S.objs a0) 0∧E'.ws=w:=hM.heap.fr.sync
     have hG:=aq9 hM.heap rfl hd (fun k hk=>by have:=aiF S.fix 0 js hfj k hk;grind) hobs hl2' hfix' hEk (w1:=w1) (fun k hk hI=>g5 k fun hm=>?_) g1 g2 g3 g4 (fun b o hb ho=>g5 b (hnot b _ hb ho))
     ·refine ⟨v,hrun w1 (fun b cs T hb=>g5 b (hnot b _ hb rfl)),v,ag5 E' st' w' js (S.objs' a0),rfl,?_,?_⟩
      ·exact (aqo hM.heap (t:=E'.tm) (os:=S.objs' a0) hr hl1' hv).mono (af7 _ _ _ _ _)
      ·exact ⟨hG.ob,hG.sep,hG.own,hG.mem,hG.mem0,hG.memnew,hG.new,hG.base,⟨hG.fr.os,hG.fr.tape,hG.fr.output,hG.fr.bsz,hG.fr.wsz,hG.fr.wos,hG.fr.isz,hG.fr.block,hG.fr.sync⟩,hG.hd0,hG.mno,hG.mkh,hG.kk⟩
     ·rcases (hl3 k hm).1.2 with hx | hx
      all_goals grind
    grind
   cases e with
   | normal=>exact main hq
   | ret=>exact main hq
   | _=>exact hq.elim
def ag4:Nat→List Ob→List Nat
 | _,[]=>[]
 | n,_ :: l=>n :: ag4 (n+1) l
def agO:Nat→List Ob→Nat
 | n,[]=>n
 | n,_ :: l=>agO (n+1) l
def aak:Nat→List Ob→List Ob
 | 0,l=>l
 | _+1,[]=>[]
 | n+1,_ :: l=>aak n l
def adO:Nat→List Nat→List Nat→List Nat
 | 0,_,l=>l
 | _+1,[],l=>l
 | n+1,j :: js,l=>j :: adO n js l
def sF (no fix:Nat) (js:List Nat) (os:List Ob):List Nat:=adO fix js (ag4 no (aak fix os))
def uY (st:St) (js:List Nat) (fix:Nat) (os:List Ob):St:=⟨st.fr,mh (sF st.no fix js os) (sF st.no fix js os) os (jM js st.ob),agO st.no (aak fix os),st.k⟩
theorem aeJ:∀(n:Nat) (l:List Ob),aak n l=l.drop n
 | 0,l=>by rw[aak];rfl
 | n+1,[]=>by rw[aak];rfl
 | n+1,_ :: l=>by rw[aak,aeJ n l];rfl
theorem aiH:∀(l:List Ob) (n k:Nat),(ag4 n l)[k]?=if k<l.length then some (n+k) else none
 | [],n,k=>by simp[ag4]
 | _ :: l,n,0=>by simp[ag4]
 | _ :: l,n,k+1=>by
  rw[ag4,anI,aiH l (n+1) k,apl]
  grind
theorem alZ:∀(l:List Ob) (n:Nat),agO n l=n+l.length
 | [],n=>by simp[agO]
 | _ :: l,n=>by rw[agO,alZ l (n+1),apl];omega
theorem ahZ:∀(n:Nat) (js l:List Nat) (k:Nat),n≤js.length→(adO n js l)[k]?=if k<n then js[k]? else l[k-n]?
 | 0,_,l,k,_=>by simp[adO]
 | n+1,[],l,k,h=>by simp at h
 | n+1,j :: js,l,0,h=>by simp[adO]
 | n+1,j :: js,l,k+1,h=>by
  rw[adO,anI,ahZ n js l k (by simpa using h),anI,show k+1-(n+1)=k-n by omega]
  by_cases hk:k<n
  ·rw[if_pos hk,if_pos (by omega)]
  ·rw[if_neg hk,if_neg (by omega)]
theorem acu {no fix:Nat} {js:List Nat} {os:List Ob} (h:fix≤js.length) (h2:fix≤os.length) (k:Nat):(sF no fix js os)[k]?=if k<fix then js[k]? else if k<os.length then some (no+(k-fix)) else none:=by
 unfold sF
 rw[ahZ _ _ _ _ h,aiH,aeJ,List.length_drop]
 grind
theorem aik {no fix:Nat} {js:List Nat} {os:List Ob} (h:fix≤js.length) (h2:fix≤os.length):(sF no fix js os).length=os.length:=by
 have h1:(sF no fix js os)[os.length]?=none:=by simp_all [acu,if_neg]
 have h3:∀k,k<os.length→∃x,(sF no fix js os)[k]?=some x:=fun k hk=>by
  rw[acu h h2]
  by_cases hkf:k<fix
  ·rw[if_pos hkf];exact ⟨_,aav (by omega)⟩
  simp_all [if_neg]
 have h4:=List.getElem?_eq_none_iff.1 h1
 refine Nat.le_antisymm h4 ?_
 grind
theorem aem:∀(l:List Nat),(∀k k' i:Nat,l[k]?=some i→l[k']?=some i→k=k')→distinct l=true
 | [],_=>rfl
 | j :: l,h=>by
  simp only[distinct,abj,aoF]
  refine ⟨?_,aem l fun k k' i h1 h2=>by have:=h (k+1) (k'+1) i (by simpa using h1) (by simpa using h2);omega⟩
  cases hc:iK j l with
  | false=>rfl
  | true=>
   obtain ⟨q,hq⟩:=auF ((fU j l).1 hc)
   have:=h 0 (q+1) j rfl (by simpa using hq)
   omega
noncomputable def ame (E E' : Env) (no fix n : Nat) : Env :=
  { hd := fun k => if k < no then E.hd k else if k < no + n then E'.hd (k - no + fix) else none
    mem := E'.mem, tm := E.tm, ws := E.ws, I := E.I, k := E.k }
theorem ae1 {E' E2:Env} {js:List Nat} (htm:∀b,E'.tm b→E2.tm b) (hmem:∀b cs,E'.mem b=some cs→E2.mem b=some cs) (hhd:∀k j,js[k]?=some j→E2.hd j=E'.hd k) {v:Value} {s:SV} (h:aL E' v s):aL E2 v (uD js s):=by
 cases h with
 | p fr v d hp=>
  refine .p fr v d (hp.mono fun b cs hm=>?_)
  cases fr with
  | false=>exact hmem b cs hm
  | true=>
   simp_all [Env.m]
 | el i sz j off b n cap hh=>exact .any _
 | sub i sz lo n b n' cap c a hh hle hc ha=>exact .any _
 | full a n f h=>exact .any _
 | asl i N lo n b c a hh hle hc ha=>exact .any _
 | mp i r hh=>
  simp only[uD,fT]
  cases hj:js[i]? with
  | none=>exact .any _
  | some j=>exact .mp _ r ((hhd i j hj).trans hh)
 | own i off b hh=>
  simp only[uD,fT]
  cases hj:js[i]? with
  | none=>exact .any _
  | some j=>exact .own j off b ((hhd i j hj).trans hh)
 | row i v hh hs=>
  simp only[uD,fT]
  cases hj:js[i]? with
  | none=>exact .any _
  | some j=>exact .row j _ ((hhd i j hj).trans hh) hs
 | agg=>exact .any _
 | tup=>exact .any _
 | fn=>exact .any _
 | bnd=>exact .any _
 | any=>exact .any _
theorem aq0 {E' E2:Env} {js:List Nat} (htm:∀b,E'.tm b→E2.tm b) (hmem:∀b cs,E'.mem b=some cs→E2.mem b=some cs) (hhd:∀k j,js[k]?=some j→E2.hd j=E'.hd k) {v:Value} {s:SV} (h:aL E' v s):aL E2 v (amu js s):=by
 have many:∀(vs:Array Value) (l:List SV),vs.size=l.length→(∀(k:Nat) (u:Value) (s:SV),vs[k]?=some u→l[k]?=some s→aL E' u s) →
   vs.size=(rC js l).length∧∀(k:Nat) (u:Value) (s:SV),vs[k]?=some u→(rC js l)[k]?=some s→aL E2 u s:=by
  grind [uq,aaA,ae1]
 unfold amu
 split
 ·cases h with
  | tup vs l hl he=>obtain ⟨g1,g2⟩:=many vs _ hl he;exact .tup vs _ g1 g2
 ·cases h with
  | agg vs l hl h1 he=>obtain ⟨g1,g2⟩:=many vs _ hl he;exact .agg vs _ g1 h1 g2
 grind [ae1]
theorem atz {X:aY} {f:Nat} {args:List SV} {st:St} {K:SV→St→Prop} {S:xR} (hS:rW X.P f S) (a:S.A) (js:List Nat)
  (hc:distinct js=true∧lu X.m js=true∧S.fix.ble (S.objs a).length=true∧S.fix.ble (S.objs' a).length=true∧X.nw=true∧(jO args (S.args a)).or (kP st js (S.objs a))=false)
  (hgls:S.gl=[]∨S.gl=X.gl) (hargs:nK st js args (S.args a)) (hobs:qh st js js (S.objs a)) (hpre:S.pre a)
  (hK:K (amu (sF st.no S.fix js (S.objs' a)) (S.res a)) (uY st js S.fix (S.objs' a))):aau X f args st K:=by
 obtain ⟨hfn,hS⟩:=hS
 obtain ⟨hd,hge,hf1,hf2,hnw,hlb⟩:=hc
 have hf1:=aoH hf1
 have hf2:=aoH hf2
 obtain ⟨hl1,hl2⟩:=avj.1 hlb
 refine ⟨hfn,fun C E vs w hCm hCro hrm hlent hgl hnw' hh hA=>?_⟩
 have htr:=hnw' hnw
 rw[←hCm] at hge
 obtain ⟨hol,hget⟩:=qD st js js _ hobs
 have hheap:=apE hh hd hobs hl2 hge hf1
 obtain ⟨Ec,hEc⟩:∃Ec,Ec=aN E st w js false (S.objs a) 0 (fun b=>C.base≤b):=⟨_,rfl⟩
 obtain ⟨hal,hag⟩:=qC st js _ _ hargs
 obtain ⟨hsz,hvs⟩:=hA
 have hA':l8 Ec vs (S.args a):=by
  refine ⟨by omega,fun k u c hu hc=>?_⟩
  have hka:k<args.length:=by grind
  have hs:args[k]?=some args[k]:=aav hka
  obtain ⟨q1,q2⟩:=lZ args (S.args a) k
  grind [qF]
 rw[←hEc] at hheap
 have hmemc:∀b cs,E.mem b=some cs→Ec.mem b=some cs:=fun b cs hb=>by grind [fM]
 have hmemb:∀b cs,Ec.mem b=some cs→E.mem b=some cs:=fun b cs hb=>by grind [o8]
 have hhdc:∀k,Ec.hd k=(js[k]?).bind E.hd:=fun k=>by rw[hEc];rfl
 refine (hS a hpre C.base Ec vs w (fun p hp=>hmemc _ _ (hh.mem0 _ _ (hgl p (hgls.elim (fun e=>by grind) (fun e=>e▸hp))))) hheap hA').mono ?_
 rintro e w' ⟨v,E',rfl,hv,h'⟩
 obtain ⟨hEk,hEI,hEw⟩:E'.k=none∧E'.I=nZ Ec.hd (S.objs a) 0∧E'.ws=w:=h'.fr.sync
 have hob:∀(k j:Nat),js[k]?=some j→∃o o',(S.objs a)[k]?=some o∧st.obj j=some o':=by
  intro k j hj
  have hk:k<(S.objs a).length:=by grind
  have ho:=aav hk
  have hM:=hget k j _ hj ho
  unfold obM at hM
  grind
 have blkc:∀k j:Nat,js[k]?=some j→Ec.blk k=E.blk j:=fun k j hj=>by grind [Env.blk]
 -- given blocks
 have given:∀b,E'.I b→∃(k j:Nat) (o:Ob),js[k]?=some j∧st.obj j=some o∧E.blk j=some b:=by
  intro b hb
  rw[hEI] at hb
  obtain ⟨k,o,_,ho,hbk⟩:=hb
  have hk:k<js.length:=by grind
  have hj:js[k]?=some js[k]:=aav hk
  obtain ⟨_,o',_,ho'⟩:=hob k _ hj
  exact ⟨k,_,o',hj,ho',by rw[←blkc k _ hj];exact hbk⟩
 have givenB:∀b,E'.I b→C.base≤b∧E.mine b∧b<w.heap.size:=by
  intro b hb
  obtain ⟨k,j,o,hj,ho,hbj⟩:=given b hb
  have:=qV js hge k j hj
  obtain ⟨_,q2,q3⟩:=hh.own j o b ho hbj
  exact ⟨q2.resolve_right (fun x=>by omega),q3.resolve_right (fun x=>by omega),(hh.ob j o ho).iZ hbj⟩
 have keep:∀b,b<w.heap.size→¬E'.I b→w'.heap[b]?=w.heap[b]?:=fun b hb hn=>by
  have:=h'.fr.block b (by grind) hn
  grind
 have hwsz:w.heap.size≤w'.heap.size:=by have:=h'.fr.wsz;grind
 have mineB:∀b,E'.mine b→C.base≤b∧E.mine b:=by
  rintro b (hb | hb)
  ·rw[hEw] at hb
   exact ⟨aiT (aiT hh.fr.bsz hh.fr.wsz) hb,.inl (aiT hh.fr.wsz hb)⟩
  grind
 have hfj:S.fix≤js.length:=by omega
 obtain ⟨q,hq⟩:∃q,q=(S.objs' a).length-S.fix:=⟨_,rfl⟩
 obtain ⟨J,hJ⟩:∃J,J=sF st.no S.fix js (S.objs' a):=⟨_,rfl⟩
 have hJget:∀k,J[k]?=if k<S.fix then js[k]? else if k<(S.objs' a).length then some (st.no+(k-S.fix)) else none:=fun k=>by grind [acu]
 have hJlen:J.length=(S.objs' a).length:=by grind [aik]
 have jlt:∀k j:Nat,js[k]?=some j→j<st.no:=by
  intro k j hj
  obtain ⟨_,o',_,ho'⟩:=hob k j hj
  exact hh.avi ho'
 have hJd:∀k k' i:Nat,J[k]?=some i→J[k']?=some i→k=k':=by
  intro k k' i h1 h2
  rw[hJget] at h1 h2
  by_cases c1:k<S.fix
  ·rw[if_pos c1] at h1
   by_cases c2:k'<S.fix
   ·rw[if_pos c2] at h2;grind [yU]
   grind
  grind
 have hJdist:=aem J hJd
 obtain ⟨E2,hE2⟩:∃E2,E2=ame E E' st.no S.fix q:=⟨_,rfl⟩
 have hhd2:∀k j:Nat,J[k]?=some j→E2.hd j=E'.hd k:=by
  intro k j hj
  rw[hJget] at hj
  rw[hE2]
  by_cases c1:k<S.fix
  ·rw[if_pos c1] at hj
   have:=jlt _ _ hj
   show (if j<st.no then E.hd j else _)=_
   rw[if_pos this]
   have h0:=h'.hd0 k c1
   rw[h0]
   show E.hd j=Ec.hd k
   grind
  ·rw[if_neg c1] at hj
   split at hj
   ·rename_i c2
    cases hj
    show (if st.no+(k-S.fix)<st.no then _ else if st.no+(k-S.fix)<st.no+q then E'.hd (st.no+(k-S.fix)-st.no+S.fix) else none)=_
    grind
   ·cases hj
 have hle:E.Le E2:=by
  rw[hE2]
  refine ⟨fun i u hi=>?_,fun b cs hb=>h'.mem0 b cs (hmemc b cs hb),rfl⟩
  have:i<st.no:=by
   refine Classical.byContradiction fun hn=>?_
   rw[hh.new i (by omega)] at hi;cases hi
  show (if i<st.no then E.hd i else _)=_
  grind
 have htm:∀b,E'.tm b→E2.tm b:=fun b hb=>by
  rw[h'.base] at hb
  rw[hE2]
  show E.tm b
  rw[hh.base]
  exact htr b hb
 have hmem2:∀b cs,E'.mem b=some cs→E2.mem b=some cs:=fun b cs hb=>by rw[hE2];exact hb
 have hcnt:(uY st js S.fix (S.objs' a)).no=st.no+q:=by
  show agO st.no (aak S.fix (S.objs' a))=_
  rw[alZ,aeJ,List.length_drop,hq]
 -- the objects now
 have look2:∀j,(∀p:Nat,J[p]?=some j→(uY st js S.fix (S.objs' a)).obj j=((S.objs' a)[p]?).map (xO J))∧(j∉J→(uY st js S.fix (S.objs' a)).obj j=if j∈js then none else st.obj j):=by
  intro j
  obtain ⟨h1,h2⟩:=vY J J (S.objs' a) (jM js st.ob) hJdist hJlen j
  refine ⟨fun p hp=>?_,fun hj=>?_⟩
  ·grind [St.obj,uY]
  ·unfold St.obj uY;simp only;rw[←hJ,h2 hj,nN]
   grind
 have cases2:∀j o,(uY st js S.fix (S.objs' a)).obj j=some o→(st.obj j=some o∧j∉js∧j∉J)∨∃(p:Nat) (o0:Ob),J[p]?=some j∧(S.objs' a)[p]?=some o0∧o=xO J o0:=by
  grind [List.getElem?_of_mem]
 have blk2:∀k j:Nat,J[k]?=some j→E2.blk j=E'.blk k:=fun k j hj=>by grind [Env.blk]
 have oldlt:∀j o,st.obj j=some o→j<st.no:=fun j o ho=>hh.avi ho
 have blkO:∀j,j<st.no→E2.blk j=E.blk j:=fun j hj=>by
  grind [Env.blk,ame]
 have notGiven:∀j o b,st.obj j=some o→j∉js→E.blk j=some b→¬E'.I b:=by
  intro j o b ho hn hb hI
  obtain ⟨k,j',o',hj',ho',hb'⟩:=given b hI
  have:=hh.sep j j' o o' b ho ho' hb hb'
  grind
 have newB:∀k o b,(S.objs' a)[k]?=some o→E'.blk k=some b→E'.mem b=none∧E'.mine b:=by
  intro k o b ho hb
  obtain ⟨q1,_,q3⟩:=h'.own k o b (by grind [gy]) hb
  exact ⟨q1,q3.resolve_right (fun x=>aeo _ x.2)⟩
 have hG:bg C E2 (uY st js S.fix (S.objs' a)) w':=by
  refine ⟨fun j o ho=>?_,fun i j o o' b ho ho' hb hb'=>?_,fun j o b ho hb=>?_,fun b cs hb=>?_,fun b cs hb=>hle.mem _ _ (hh.mem0 b cs hb),fun b cs hb=>?_,fun i hi=>?_,?_,?_,fun k hk=>?_,?_,hh.mkh,?_⟩
  ·rcases cases2 j o ho with ⟨h1,h2,_⟩ | ⟨p,o0,hp,h0,rfl⟩
   ·refine ((hh.ob j o h1).mono hle).world fun b hb=>?_
    rw[blkO j (oldlt j o h1)] at hb
    exact keep b ((hh.ob j o h1).iZ hb) (notGiven j o b h1 h2 hb)
   ·have hrep:=h'.ob p o0 (by grind [gy])
    have hhk:=hhd2 p j hp
    cases hrep with
    | cells b T vs cs hh' hw hl h1' he=>
     exact .cells b T vs _ (hhk.trans hh') hw (by grind [uq]) h1' fun k u s hu hs=>by
      rw[aaA] at hs
      grind [ae1]
    | row T sz n f v xs u hh' hw hmax hl hc he=>exact .row T sz n f v xs u (hhk.trans hh') hw hmax hl hc fun j k s hj hs=>(he j k s hj hs).mono hmem2
    | arr b T vs n f u hh' hw hs hc he=>exact .arr b T vs n f u (hhk.trans hh') hw hs hc fun k hk=>(he k hk).mono hmem2
    | map r es clock kt n get hh' hw h1 h2 h3 h4=>exact .map r es clock kt n get (hhk.trans hh') hw h1 h2 h3 (h4.mono hmem2)
  ·rcases cases2 i o ho with ⟨h1,h2,h3⟩ | ⟨p,o0,hp,h0,rfl⟩
   ·rw[blkO i (oldlt i o h1)] at hb
    rcases cases2 j o' ho' with ⟨g1,g2,g3⟩ | ⟨p',o0',hp',h0',rfl⟩
    ·rw[blkO j (oldlt j o' g1)] at hb'
     exact hh.sep i j o o' b h1 g1 hb hb'
    ·rw[blk2 p' j hp'] at hb'
     have hm:=(newB p' o0' b h0' hb').2
     rcases hm with hm | hm
     ·rw[hEw] at hm
      have:=(hh.ob i o h1).iZ hb
      omega
     grind
   ·rw[blk2 p i hp] at hb
    rcases cases2 j o' ho' with ⟨g1,g2,g3⟩ | ⟨p',o0',hp',h0',rfl⟩
    ·rw[blkO j (oldlt j o' g1)] at hb'
     have hm:=(newB p o0 b h0 hb).2
     rcases hm with hm | hm
     ·rw[hEw] at hm
      have:=(hh.ob j o' g1).iZ hb'
      omega
     grind
    ·rw[blk2 p' j hp'] at hb'
     have:=h'.sep p p' o0 o0' b (by grind [gy]) (by grind [gy]) hb hb'
     grind
  ·rcases cases2 j o ho with ⟨h1,h2,h3⟩ | ⟨p,o0,hp,h0,rfl⟩
   ·rw[blkO j (oldlt j o h1)] at hb
    obtain ⟨q1,q2,q3⟩:=hh.own j o b h1 hb
    have hlt:=(hh.ob j o h1).iZ hb
    refine ⟨?_,q2,?_⟩
    ·rw[hE2]
     show E'.mem b=none
     cases hm:E'.mem b with
     | none=>rfl
     | some cs=>
      rcases h'.memnew b cs hm with x | ⟨x,y⟩
      ·have:=hmemb b cs x;grind
      ·rcases y with y | y
       all_goals grind
    ·rw[hE2];exact q3
   ·rw[blk2 p j hp] at hb
    obtain ⟨q1,q2⟩:=newB p o0 b h0 hb
    obtain ⟨m1,m2⟩:=mineB b q2
    exact ⟨by rw[hE2];exact q1,.inl m1,.inl (by rw[hE2];exact m2)⟩
  ·rw[hE2] at hb;exact h'.mem b cs hb
  ·rw[hE2] at hb
   rcases h'.memnew b cs hb with x | ⟨_,y⟩
   ·have:=hh.memnew b cs (hmemb b cs x)
    rw[hE2];exact this
   ·obtain ⟨m1,m2⟩:=mineB b y
    exact .inr ⟨m1,by rw[hE2];exact m2⟩
  ·rw[hcnt] at hi
   rw[hE2]
   show (if i<st.no then E.hd i else if i<st.no+q then _ else none)=none
   grind
  ·rw[hE2];exact hh.base
  ·rw[hE2]
   exact ⟨h'.fr.os.trans hh.fr.os,h'.fr.tape.trans hh.fr.tape,h'.fr.output.trans hh.fr.output,hh.fr.bsz,aiT hh.fr.wsz hwsz,hh.fr.wos,hh.fr.isz,fun k hk hI=>by
    have hkw:k<w.heap.size:=alk hk hh.fr.wsz
    rw[keep k hkw (fun hx=>by
     rcases (givenB k hx).2.1 with hy | hy
     ·have hk':k<E.ws.heap.size:=hk;omega
     ·exact hI hy)]
    exact hh.fr.block k hk hI,hh.fr.sync⟩
  ·rw[hE2]
   have:=hh.mno
   show (if k<st.no then E.hd k else _)=_
   rw[if_pos (by omega)];exact hh.hd0 k hk
  ·rw[hcnt];have:=hh.mno;omega
  ·rw[hE2];exact hh.kk
 refine ⟨v,E2,_,_,rfl,aq0 htm hmem2 hhd2 hv,⟨hle,by rw[hE2];rfl,by rw[hE2];rfl⟩,hG,?_,by grind⟩
 intro D o ho hc
 have hD:=(acG.1 ho).1
 rw[keep D hD fun hI=>by
  obtain ⟨k,j,o',hj,ho',hb⟩:=given D hI
  obtain ⟨x,hx,hxc⟩:=(hh.ob j o' ho').alL hb
  grind]
 exact ho
end Go.Sx
namespace Go.Sx.Pn
open Go Go.Proofs Go.Sx
set_option maxRecDepth 20000
def tab:Tab:=[(1,⟨.other,1,8,[.nilFunc]⟩),(2,⟨.int .i64,1,8,[.int .i64 0]⟩),(3,⟨.int .i64,1,8,[.int .i64 0]⟩),(4,⟨.bool,1,1,[.bool false]⟩),(5,⟨.int .u8,1,1,[.int .u8 0]⟩),(6,⟨.int .u8,1,1,[.int .u8 0]⟩),(7,⟨.struct [(0,2),(1,3),(2,4),(3,6)],4,24,[.int .i64 0,.int .i64 0,.bool false,.int .u8 0]⟩),(8,⟨.struct [(0,2),(1,3),(2,4),(3,6)],4,24,[.int .i64 0,.int .i64 0,.bool false,.int .u8 0]⟩),(9,⟨.string,1,16,[.string ByteArray.empty]⟩),(10,⟨.string,1,16,[.string ByteArray.empty]⟩),(11,⟨.string,1,16,[.string ByteArray.empty]⟩),(12,⟨.int .u64,1,8,[.int .u64 0]⟩),(15,⟨.other,1,8,[.pointer none]⟩),(16,⟨.other,1,8,[.pointer none]⟩),(17,⟨.other,1,8,[.pointer none]⟩),(20,⟨.other,1,16,[.nilIface]⟩),(21,⟨.int .i32,1,4,[.int .i32 0]⟩),(22,⟨.slice 9,1,24,[.slice none 0 0]⟩),(23,⟨.slice 97,1,24,[.slice none 0 0]⟩),(24,⟨.slice 100,1,24,[.slice none 0 0]⟩),(25,⟨.struct [(0,3),(1,22),(2,23),(3,24)],4,80,[.int .i64 0,.slice none 0 0,.slice none 0 0,.slice none 0 0]⟩),(26,⟨.struct [(0,3),(1,22),(2,23),(3,24)],4,80,[.int .i64 0,.slice none 0 0,.slice none 0 0,.slice none 0 0]⟩),(27,⟨.other,1,8,[.nilFunc]⟩),(28,⟨.other,1,8,[.nilFunc]⟩),(29,⟨.slice 92,1,24,[.slice none 0 0]⟩),(30,⟨.slice 3,1,24,[.slice none 0 0]⟩),(31,⟨.struct [(0,3),(1,22),(2,29),(3,30),(4,30)],5,104,[.int .i64 0,.slice none 0 0,.slice none 0 0,.slice none 0 0,.slice none 0 0]⟩),(32,⟨.struct [(0,3),(1,22),(2,29),(3,30),(4,30)],5,104,[.int .i64 0,.slice none 0 0,.slice none 0 0,.slice none 0 0,.slice none 0 0]⟩),(33,⟨.int .i64,1,8,[.int .i64 0]⟩),(36,⟨.slice 98,1,24,[.slice none 0 0]⟩),(37,⟨.slice 101,1,24,[.slice none 0 0]⟩),(38,⟨.struct [(0,3),(1,22),(2,36),(3,37)],4,80,[.int .i64 0,.slice none 0 0,.slice none 0 0,.slice none 0 0]⟩),(39,⟨.struct [(0,3),(1,22),(2,36),(3,37)],4,80,[.int .i64 0,.slice none 0 0,.slice none 0 0,.slice none 0 0]⟩),(40,⟨.other,1,8,[.nilFunc]⟩),(42,⟨.other,1,8,[.nilFunc]⟩),(44,⟨.other,1,8,[.nilFunc]⟩),(46,⟨.other,1,8,[.nilFunc]⟩),(47,⟨.other,1,8,[.nilFunc]⟩),(48,⟨.other,1,8,[.nilFunc]⟩),(49,⟨.slice 111,1,24,[.slice none 0 0]⟩),(50,⟨.struct [(0,3),(1,49)],2,32,[.int .i64 0,.slice none 0 0]⟩),(51,⟨.struct [(0,3),(1,49)],2,32,[.int .i64 0,.slice none 0 0]⟩),(52,⟨.other,1,8,[.nilFunc]⟩),(53,⟨.other,1,8,[.nilFunc]⟩),(54,⟨.other,1,8,[.nilFunc]⟩),(55,⟨.slice 4,1,24,[.slice none 0 0]⟩),(56,⟨.struct [(0,30),(1,55),(2,55),(3,55),(4,30)],5,120,[.slice none 0 0,.slice none 0 0,.slice none 0 0,.slice none 0 0,.slice none 0 0]⟩),(57,⟨.struct [(0,30),(1,55),(2,55),(3,55),(4,30)],5,120,[.slice none 0 0,.slice none 0 0,.slice none 0 0,.slice none 0 0,.slice none 0 0]⟩),(60,⟨.other,1,8,[.nilFunc]⟩),(62,⟨.other,1,8,[.nilFunc]⟩),(63,⟨.other,1,8,[.nilFunc]⟩),(64,⟨.other,1,8,[.nilFunc]⟩),(65,⟨.other,1,8,[.nilFunc]⟩),(67,⟨.other,1,8,[.nilFunc]⟩),(68,⟨.other,1,8,[.nilFunc]⟩),(69,⟨.other,1,8,[.nilFunc]⟩),(70,⟨.slice 77,1,24,[.slice none 0 0]⟩),(72,⟨.other,1,8,[.nilFunc]⟩),(75,⟨.other,1,8,[.nilFunc]⟩),(76,⟨.struct [(0,3),(1,4)],2,16,[.int .i64 0,.bool false]⟩),(77,⟨.struct [(0,3),(1,4)],2,16,[.int .i64 0,.bool false]⟩),(79,⟨.other,1,8,[.nilFunc]⟩),(81,⟨.other,1,8,[.nilFunc]⟩),(82,⟨.other,1,8,[.nilFunc]⟩),(84,⟨.other,1,8,[.nilFunc]⟩),(87,⟨.other,1,8,[.nilFunc]⟩),(88,⟨.slice 90,1,24,[.slice none 0 0]⟩),(89,⟨.struct [(0,3),(1,3),(2,88)],3,40,[.int .i64 0,.int .i64 0,.slice none 0 0]⟩),(90,⟨.struct [(0,3),(1,3),(2,88)],3,40,[.int .i64 0,.int .i64 0,.slice none 0 0]⟩),(91,⟨.struct [(0,9),(1,3),(2,90),(5,90),(8,3),(9,4)],10,120,[.string ByteArray.empty,.int .i64 0,.int .i64 0,.int .i64 0,.slice none 0 0,.int .i64 0,.int .i64 0,.slice none 0 0,.int .i64 0,.bool false]⟩),(92,⟨.struct [(0,9),(1,3),(2,90),(5,90),(8,3),(9,4)],10,120,[.string ByteArray.empty,.int .i64 0,.int .i64 0,.int .i64 0,.slice none 0 0,.int .i64 0,.int .i64 0,.slice none 0 0,.int .i64 0,.bool false]⟩),(93,⟨.other,1,8,[.pointer none]⟩),(95,⟨.other,1,8,[.nilFunc]⟩),(96,⟨.struct [(0,70),(1,3)],2,32,[.slice none 0 0,.int .i64 0]⟩),(97,⟨.struct [(0,70),(1,3)],2,32,[.slice none 0 0,.int .i64 0]⟩),(98,⟨.struct [(0,70),(1,3)],2,32,[.slice none 0 0,.int .i64 0]⟩),(99,⟨.struct [(0,30),(1,30),(2,90)],5,88,[.slice none 0 0,.slice none 0 0,.int .i64 0,.int .i64 0,.slice none 0 0]⟩),(100,⟨.struct [(0,30),(1,30),(2,90)],5,88,[.slice none 0 0,.slice none 0 0,.int .i64 0,.int .i64 0,.slice none 0 0]⟩),(101,⟨.struct [(0,30),(1,30),(2,90)],5,88,[.slice none 0 0,.slice none 0 0,.int .i64 0,.int .i64 0,.slice none 0 0]⟩),(102,⟨.other,1,8,[.nilFunc]⟩),(103,⟨.struct [(0,3),(1,29)],2,32,[.int .i64 0,.slice none 0 0]⟩),(104,⟨.struct [(0,3),(1,29)],2,32,[.int .i64 0,.slice none 0 0]⟩),(105,⟨.struct [(0,104),(2,39),(6,30),(7,30),(8,30)],9,184,[.int .i64 0,.slice none 0 0,.int .i64 0,.slice none 0 0,.slice none 0 0,.slice none 0 0,.slice none 0 0,.slice none 0 0,.slice none 0 0]⟩),(106,⟨.struct [(0,104),(2,39),(6,30),(7,30),(8,30)],9,184,[.int .i64 0,.slice none 0 0,.int .i64 0,.slice none 0 0,.slice none 0 0,.slice none 0 0,.slice none 0 0,.slice none 0 0,.slice none 0 0]⟩),(109,⟨.other,1,8,[.nilFunc]⟩),(111,⟨.struct [(0,70),(1,3)],2,32,[.slice none 0 0,.int .i64 0]⟩),(113,⟨.other,1,8,[.nilFunc]⟩),(114,⟨.other,1,8,[.nilFunc]⟩),(115,⟨.other,1,8,[.nilFunc]⟩),(116,⟨.other,1,8,[.nilFunc]⟩),(117,⟨.other,1,8,[.nilFunc]⟩),(118,⟨.other,1,8,[.nilFunc]⟩),(119,⟨.other,1,8,[.nilFunc]⟩),(121,⟨.other,1,8,[.nilFunc]⟩),(122,⟨.other,1,8,[.nilFunc]⟩),(123,⟨.other,1,8,[.nilFunc]⟩),(124,⟨.map 9 3,1,8,[.map none]⟩),(126,⟨.other,1,8,[.nilFunc]⟩),(127,⟨.other,1,8,[.nilFunc]⟩),(128,⟨.other,1,8,[.nilFunc]⟩),(129,⟨.other,1,8,[.nilFunc]⟩),(130,⟨.other,1,8,[.nilFunc]⟩),(131,⟨.array 24 4,24,24,[.bool false,.bool false,.bool false,.bool false,.bool false,.bool false,.bool false,.bool false,.bool false,.bool false,.bool false,.bool false,.bool false,.bool false,.bool false,.bool false,.bool false,.bool false,.bool false,.bool false,.bool false,.bool false,.bool false,.bool false]⟩),(132,⟨.array 24 4,24,24,[.bool false,.bool false,.bool false,.bool false,.bool false,.bool false,.bool false,.bool false,.bool false,.bool false,.bool false,.bool false,.bool false,.bool false,.bool false,.bool false,.bool false,.bool false,.bool false,.bool false,.bool false,.bool false,.bool false,.bool false]⟩),(135,⟨.other,1,8,[.nilFunc]⟩),(136,⟨.other,1,8,[.nilFunc]⟩),(137,⟨.other,1,8,[.nilFunc]⟩),(142,⟨.other,1,8,[.pointer none]⟩),(144,⟨.other,1,8,[.nilFunc]⟩),(146,⟨.other,1,8,[.nilFunc]⟩),(147,⟨.struct [(0,32),(5,57),(10,3)],11,232,[.int .i64 0,.slice none 0 0,.slice none 0 0,.slice none 0 0,.slice none 0 0,.slice none 0 0,.slice none 0 0,.slice none 0 0,.slice none 0 0,.slice none 0 0,.int .i64 0]⟩),(148,⟨.struct [(0,32),(5,57),(10,3)],11,232,[.int .i64 0,.slice none 0 0,.slice none 0 0,.slice none 0 0,.slice none 0 0,.slice none 0 0,.slice none 0 0,.slice none 0 0,.slice none 0 0,.slice none 0 0,.int .i64 0]⟩),(149,⟨.other,1,8,[.nilFunc]⟩),(150,⟨.other,1,8,[.nilFunc]⟩),(151,⟨.other,1,8,[.nilFunc]⟩),(152,⟨.other,1,8,[.nilFunc]⟩),(153,⟨.other,1,8,[.nilFunc]⟩),(154,⟨.other,1,8,[.nilFunc]⟩),(155,⟨.other,1,8,[.nilFunc]⟩),(156,⟨.other,1,8,[.nilFunc]⟩),(157,⟨.other,1,8,[.nilFunc]⟩),(158,⟨.other,1,8,[.nilFunc]⟩),(159,⟨.other,1,8,[.nilFunc]⟩),(160,⟨.other,1,8,[.nilFunc]⟩),(161,⟨.other,1,8,[.nilFunc]⟩),(162,⟨.other,1,8,[.nilFunc]⟩),(163,⟨.other,1,8,[.nilFunc]⟩),(164,⟨.other,1,8,[.nilFunc]⟩),(165,⟨.other,1,8,[.nilFunc]⟩),(166,⟨.other,1,8,[.nilFunc]⟩),(171,⟨.other,1,8,[.nilFunc]⟩),(172,⟨.other,1,8,[.nilFunc]⟩),(173,⟨.other,1,8,[.nilFunc]⟩),(174,⟨.other,1,8,[.nilFunc]⟩),(175,⟨.other,1,8,[.nilFunc]⟩),(176,⟨.other,1,8,[.nilFunc]⟩),(177,⟨.other,1,8,[.nilFunc]⟩),(178,⟨.other,1,8,[.pointer none]⟩),(179,⟨.other,1,8,[.nilFunc]⟩),(180,⟨.array 3 179,3,24,[.nilFunc,.nilFunc,.nilFunc]⟩),(181,⟨.struct [(0,32),(5,124),(6,180)],9,136,[.int .i64 0,.slice none 0 0,.slice none 0 0,.slice none 0 0,.slice none 0 0,.map none,.nilFunc,.nilFunc,.nilFunc]⟩),(182,⟨.struct [(0,32),(5,124),(6,180)],9,136,[.int .i64 0,.slice none 0 0,.slice none 0 0,.slice none 0 0,.slice none 0 0,.map none,.nilFunc,.nilFunc,.nilFunc]⟩),(183,⟨.other,1,8,[.nilFunc]⟩),(184,⟨.other,1,8,[.nilFunc]⟩),(185,⟨.other,1,8,[.nilFunc]⟩),(186,⟨.other,1,8,[.nilFunc]⟩),(187,⟨.other,1,8,[.nilFunc]⟩),(188,⟨.other,1,8,[.nilFunc]⟩),(189,⟨.other,1,8,[.nilFunc]⟩),(190,⟨.other,1,8,[.nilFunc]⟩),(194,⟨.other,1,8,[.nilFunc]⟩),(196,⟨.array 6 4,6,6,[.bool false,.bool false,.bool false,.bool false,.bool false,.bool false]⟩),(198,⟨.other,1,8,[.nilFunc]⟩),(199,⟨.other,1,8,[.nilFunc]⟩),(200,⟨.other,1,8,[.nilFunc]⟩),(201,⟨.other,1,8,[.nilFunc]⟩),(202,⟨.other,1,8,[.nilFunc]⟩),(203,⟨.other,1,8,[.nilFunc]⟩),(204,⟨.other,1,8,[.nilFunc]⟩),(205,⟨.other,1,8,[.nilFunc]⟩),(206,⟨.other,1,8,[.nilFunc]⟩),(207,⟨.other,1,8,[.nilFunc]⟩),(209,⟨.other,1,8,[.nilFunc]⟩),(210,⟨.other,1,8,[.nilFunc]⟩),(211,⟨.string,1,16,[.string ByteArray.empty]⟩),(212,⟨.other,1,8,[.nilFunc]⟩),(213,⟨.other,1,8,[.nilFunc]⟩),(217,⟨.other,1,8,[.nilFunc]⟩),(219,⟨.other,1,8,[.nilFunc]⟩),(220,⟨.other,1,8,[.nilFunc]⟩),(221,⟨.slice 30,1,24,[.slice none 0 0]⟩),(222,⟨.other,1,8,[.nilFunc]⟩),(223,⟨.other,1,8,[.nilFunc]⟩),(224,⟨.other,1,8,[.nilFunc]⟩),(225,⟨.other,1,8,[.nilFunc]⟩),(226,⟨.other,1,8,[.nilFunc]⟩),(227,⟨.other,1,8,[.nilFunc]⟩),(228,⟨.other,1,8,[.nilFunc]⟩),(229,⟨.other,1,8,[.nilFunc]⟩),(230,⟨.other,1,8,[.nilFunc]⟩),(231,⟨.other,1,8,[.nilFunc]⟩),(232,⟨.other,1,8,[.nilFunc]⟩),(233,⟨.other,1,8,[.nilFunc]⟩),(242,⟨.int .u64,1,8,[.int .u64 0]⟩),(243,⟨.other,1,8,[.nilFunc]⟩),(246,⟨.other,1,8,[.nilFunc]⟩),(248,⟨.other,1,8,[.nilFunc]⟩),(249,⟨.other,1,8,[.nilFunc]⟩),(250,⟨.other,1,8,[.pointer none]⟩),(251,⟨.other,1,8,[.nilFunc]⟩),(252,⟨.other,1,8,[.nilFunc]⟩),(253,⟨.other,1,8,[.nilFunc]⟩),(254,⟨.other,1,8,[.nilFunc]⟩),(255,⟨.other,1,8,[.nilFunc]⟩),(256,⟨.other,1,8,[.nilFunc]⟩),(258,⟨.other,1,8,[.nilFunc]⟩),(261,⟨.other,1,8,[.nilFunc]⟩),(262,⟨.other,1,8,[.nilFunc]⟩),(263,⟨.other,1,8,[.nilFunc]⟩),(264,⟨.other,1,8,[.nilFunc]⟩),(265,⟨.struct [(0,3),(1,3),(2,264)],3,24,[.int .i64 0,.int .i64 0,.nilFunc]⟩),(266,⟨.struct [(0,3),(1,3),(2,264)],3,24,[.int .i64 0,.int .i64 0,.nilFunc]⟩),(267,⟨.array 5 266,15,120,[.int .i64 0,.int .i64 0,.nilFunc,.int .i64 0,.int .i64 0,.nilFunc,.int .i64 0,.int .i64 0,.nilFunc,.int .i64 0,.int .i64 0,.nilFunc,.int .i64 0,.int .i64 0,.nilFunc]⟩),(269,⟨.other,1,8,[.nilFunc]⟩),(270,⟨.other,1,8,[.nilFunc]⟩),(271,⟨.other,1,8,[.nilFunc]⟩),(275,⟨.other,1,8,[.nilFunc]⟩),(276,⟨.int .i64,1,8,[.int .i64 0]⟩),(278,⟨.other,1,8,[.nilFunc]⟩),(279,⟨.other,1,8,[.nilFunc]⟩),(280,⟨.other,1,8,[.nilFunc]⟩),(282,⟨.other,1,8,[.nilFunc]⟩),(283,⟨.other,1,8,[.nilFunc]⟩),(284,⟨.int .u32,1,4,[.int .u32 0]⟩),(285,⟨.other,1,8,[.nilFunc]⟩),(286,⟨.int .u64,1,8,[.int .u64 0]⟩),(287,⟨.other,1,8,[.nilFunc]⟩),(288,⟨.other,1,8,[.nilFunc]⟩),(289,⟨.other,1,8,[.nilFunc]⟩),(290,⟨.slice 3,1,24,[.slice none 0 0]⟩),(293,⟨.other,1,8,[.nilFunc]⟩),(294,⟨.slice 5,1,24,[.slice none 0 0]⟩),(295,⟨.other,1,8,[.nilFunc]⟩),(297,⟨.other,1,8,[.nilFunc]⟩),(298,⟨.other,1,8,[.nilFunc]⟩),(299,⟨.slice 55,1,24,[.slice none 0 0]⟩),(300,⟨.other,1,8,[.nilFunc]⟩),(301,⟨.other,1,8,[.nilFunc]⟩),(302,⟨.int .u64,1,8,[.int .u64 0]⟩),(303,⟨.other,1,8,[.nilFunc]⟩),(304,⟨.other,1,8,[.nilFunc]⟩),(305,⟨.other,1,8,[.nilFunc]⟩),(306,⟨.other,1,8,[.pointer none]⟩),(310,⟨.other,1,8,[.nilFunc]⟩),(311,⟨.other,1,8,[.nilFunc]⟩),(312,⟨.other,1,8,[.pointer none]⟩),(314,⟨.other,1,8,[.nilFunc]⟩),(317,⟨.array 24 5,24,24,[.int .u8 0,.int .u8 0,.int .u8 0,.int .u8 0,.int .u8 0,.int .u8 0,.int .u8 0,.int .u8 0,.int .u8 0,.int .u8 0,.int .u8 0,.int .u8 0,.int .u8 0,.int .u8 0,.int .u8 0,.int .u8 0,.int .u8 0,.int .u8 0,.int .u8 0,.int .u8 0,.int .u8 0,.int .u8 0,.int .u8 0,.int .u8 0]⟩),(318,⟨.other,1,8,[.nilFunc]⟩),(320,⟨.other,1,8,[.nilFunc]⟩),(323,⟨.array 256 4,256,256,(List.replicate 256 (.bool false))⟩),(327,⟨.other,1,8,[.pointer none]⟩),(330,⟨.array 20 286,20,160,[.int .u64 0,.int .u64 0,.int .u64 0,.int .u64 0,.int .u64 0,.int .u64 0,.int .u64 0,.int .u64 0,.int .u64 0,.int .u64 0,.int .u64 0,.int .u64 0,.int .u64 0,.int .u64 0,.int .u64 0,.int .u64 0,.int .u64 0,.int .u64 0,.int .u64 0,.int .u64 0]⟩),(331,⟨.array 65 5,65,65,[.int .u8 0,.int .u8 0,.int .u8 0,.int .u8 0,.int .u8 0,.int .u8 0,.int .u8 0,.int .u8 0,.int .u8 0,.int .u8 0,.int .u8 0,.int .u8 0,.int .u8 0,.int .u8 0,.int .u8 0,.int .u8 0,.int .u8 0,.int .u8 0,.int .u8 0,.int .u8 0,.int .u8 0,.int .u8 0,.int .u8 0,.int .u8 0,.int .u8 0,.int .u8 0,.int .u8 0,.int .u8 0,.int .u8 0,.int .u8 0,.int .u8 0,.int .u8 0,.int .u8 0,.int .u8 0,.int .u8 0,.int .u8 0,.int .u8 0,.int .u8 0,.int .u8 0,.int .u8 0,.int .u8 0,.int .u8 0,.int .u8 0,.int .u8 0,.int .u8 0,.int .u8 0,.int .u8 0,.int .u8 0,.int .u8 0,.int .u8 0,.int .u8 0,.int .u8 0,.int .u8 0,.int .u8 0,.int .u8 0,.int .u8 0,.int .u8 0,.int .u8 0,.int .u8 0,.int .u8 0,.int .u8 0,.int .u8 0,.int .u8 0,.int .u8 0,.int .u8 0]⟩),(337,⟨.other,1,8,[.nilFunc]⟩),(338,⟨.other,1,8,[.nilFunc]⟩),(339,⟨.array 32 5,32,32,[.int .u8 0,.int .u8 0,.int .u8 0,.int .u8 0,.int .u8 0,.int .u8 0,.int .u8 0,.int .u8 0,.int .u8 0,.int .u8 0,.int .u8 0,.int .u8 0,.int .u8 0,.int .u8 0,.int .u8 0,.int .u8 0,.int .u8 0,.int .u8 0,.int .u8 0,.int .u8 0,.int .u8 0,.int .u8 0,.int .u8 0,.int .u8 0,.int .u8 0,.int .u8 0,.int .u8 0,.int .u8 0,.int .u8 0,.int .u8 0,.int .u8 0,.int .u8 0]⟩),(340,⟨.array 64 5,64,64,[.int .u8 0,.int .u8 0,.int .u8 0,.int .u8 0,.int .u8 0,.int .u8 0,.int .u8 0,.int .u8 0,.int .u8 0,.int .u8 0,.int .u8 0,.int .u8 0,.int .u8 0,.int .u8 0,.int .u8 0,.int .u8 0,.int .u8 0,.int .u8 0,.int .u8 0,.int .u8 0,.int .u8 0,.int .u8 0,.int .u8 0,.int .u8 0,.int .u8 0,.int .u8 0,.int .u8 0,.int .u8 0,.int .u8 0,.int .u8 0,.int .u8 0,.int .u8 0,.int .u8 0,.int .u8 0,.int .u8 0,.int .u8 0,.int .u8 0,.int .u8 0,.int .u8 0,.int .u8 0,.int .u8 0,.int .u8 0,.int .u8 0,.int .u8 0,.int .u8 0,.int .u8 0,.int .u8 0,.int .u8 0,.int .u8 0,.int .u8 0,.int .u8 0,.int .u8 0,.int .u8 0,.int .u8 0,.int .u8 0,.int .u8 0,.int .u8 0,.int .u8 0,.int .u8 0,.int .u8 0,.int .u8 0,.int .u8 0,.int .u8 0,.int .u8 0]⟩)]
theorem gJ:tab.Ok Tryz.prog:=
  Tab.aj (TI.mk' (z:=(.nilFunc)) (TD.au (by kernel_rfl)) (by kernel_rfl) rfl rfl rfl)<|Tab.aj (TI.mk' (z:=(.int .i64 0)) (show Tryz.prog.underlying 2=some (.int .i64) by kernel_rfl) (by kernel_rfl) rfl rfl rfl)<|Tab.aj (TI.mk' (z:=(.int .i64 0)) (show Tryz.prog.underlying 3=some (.int .i64) by kernel_rfl) (by kernel_rfl) rfl rfl rfl)<|Tab.aj (TI.mk' (z:=(.bool false)) (show Tryz.prog.underlying 4=some (.bool) by kernel_rfl) (by kernel_rfl) rfl rfl rfl)<|Tab.aj (TI.mk' (z:=(.int .u8 0)) (show Tryz.prog.underlying 5=some (.int .u8) by kernel_rfl) (by kernel_rfl) rfl rfl rfl)<|Tab.aj (TI.mk' (z:=(.int .u8 0)) (show Tryz.prog.underlying 6=some (.int .u8) by kernel_rfl) (by kernel_rfl) rfl rfl rfl)<|Tab.aj (TI.mk' (z:=(.agg #[.int .i64 0,.int .i64 0,.bool false,.int .u8 0])) (TD.mkStruct (l:=[(0,2),(1,3),(2,4),(3,6)]) (by kernel_rfl) (by kernel_rfl) (by kernel_rfl)) (by kernel_rfl) rfl rfl rfl)<|Tab.aj (TI.mk' (z:=(.agg #[.int .i64 0,.int .i64 0,.bool false,.int .u8 0])) (TD.mkStruct (l:=[(0,2),(1,3),(2,4),(3,6)]) (by kernel_rfl) (by kernel_rfl) (by kernel_rfl)) (by kernel_rfl) rfl rfl rfl)<|Tab.aj (TI.mk' (z:=(.string ByteArray.empty)) (show Tryz.prog.underlying 9=some (.string) by kernel_rfl) (by kernel_rfl) rfl rfl rfl)<|Tab.aj (TI.mk' (z:=(.string ByteArray.empty)) (show Tryz.prog.underlying 10=some (.string) by kernel_rfl) (by kernel_rfl) rfl rfl rfl)<|Tab.aj (TI.mk' (z:=(.string ByteArray.empty)) (show Tryz.prog.underlying 11=some (.string) by kernel_rfl) (by kernel_rfl) rfl rfl rfl)<|Tab.aj (TI.mk' (z:=(.int .u64 0)) (show Tryz.prog.underlying 12=some (.int .u64) by kernel_rfl) (by kernel_rfl) rfl rfl rfl)<|Tab.aj (TI.mk' (z:=(.pointer none)) (TD.au (by kernel_rfl)) (by kernel_rfl) rfl rfl rfl)<|Tab.aj (TI.mk' (z:=(.pointer none)) (TD.au (by kernel_rfl)) (by kernel_rfl) rfl rfl rfl)<|Tab.aj (TI.mk' (z:=(.pointer none)) (TD.au (by kernel_rfl)) (by kernel_rfl) rfl rfl rfl)<|Tab.aj (TI.mk' (z:=(.nilIface)) (TD.au (by kernel_rfl)) (by kernel_rfl) rfl rfl rfl)<|Tab.aj (TI.mk' (z:=(.int .i32 0)) (show Tryz.prog.underlying 21=some (.int .i32) by kernel_rfl) (by kernel_rfl) rfl rfl rfl)<|Tab.aj (TI.mk' (z:=(.slice none 0 0)) (show Tryz.prog.underlying 22=some (.slice 9) by kernel_rfl) (by kernel_rfl) rfl rfl rfl)<|Tab.aj (TI.mk' (z:=(.slice none 0 0)) (show Tryz.prog.underlying 23=some (.slice 97) by kernel_rfl) (by kernel_rfl) rfl rfl rfl)<|Tab.aj (TI.mk' (z:=(.slice none 0 0)) (show Tryz.prog.underlying 24=some (.slice 100) by kernel_rfl) (by kernel_rfl) rfl rfl rfl)<|Tab.aj (TI.mk' (z:=(.agg #[.int .i64 0,.slice none 0 0,.slice none 0 0,.slice none 0 0])) (TD.mkStruct (l:=[(0,3),(1,22),(2,23),(3,24)]) (by kernel_rfl) (by kernel_rfl) (by kernel_rfl)) (by kernel_rfl) rfl rfl rfl)<|Tab.aj (TI.mk' (z:=(.agg #[.int .i64 0,.slice none 0 0,.slice none 0 0,.slice none 0 0])) (TD.mkStruct (l:=[(0,3),(1,22),(2,23),(3,24)]) (by kernel_rfl) (by kernel_rfl) (by kernel_rfl)) (by kernel_rfl) rfl rfl rfl)<|Tab.aj (TI.mk' (z:=(.nilFunc)) (TD.au (by kernel_rfl)) (by kernel_rfl) rfl rfl rfl)<|Tab.aj (TI.mk' (z:=(.nilFunc)) (TD.au (by kernel_rfl)) (by kernel_rfl) rfl rfl rfl)<|Tab.aj (TI.mk' (z:=(.slice none 0 0)) (show Tryz.prog.underlying 29=some (.slice 92) by kernel_rfl) (by kernel_rfl) rfl rfl rfl)<|Tab.aj (TI.mk' (z:=(.slice none 0 0)) (show Tryz.prog.underlying 30=some (.slice 3) by kernel_rfl) (by kernel_rfl) rfl rfl rfl)<|Tab.aj (TI.mk' (z:=(.agg #[.int .i64 0,.slice none 0 0,.slice none 0 0,.slice none 0 0,.slice none 0 0])) (TD.mkStruct (l:=[(0,3),(1,22),(2,29),(3,30),(4,30)]) (by kernel_rfl) (by kernel_rfl) (by kernel_rfl)) (by kernel_rfl) rfl rfl rfl)<|Tab.aj (TI.mk' (z:=(.agg #[.int .i64 0,.slice none 0 0,.slice none 0 0,.slice none 0 0,.slice none 0 0])) (TD.mkStruct (l:=[(0,3),(1,22),(2,29),(3,30),(4,30)]) (by kernel_rfl) (by kernel_rfl) (by kernel_rfl)) (by kernel_rfl) rfl rfl rfl)<|Tab.aj (TI.mk' (z:=(.int .i64 0)) (show Tryz.prog.underlying 33=some (.int .i64) by kernel_rfl) (by kernel_rfl) rfl rfl rfl)<|Tab.aj (TI.mk' (z:=(.slice none 0 0)) (show Tryz.prog.underlying 36=some (.slice 98) by kernel_rfl) (by kernel_rfl) rfl rfl rfl)<|Tab.aj (TI.mk' (z:=(.slice none 0 0)) (show Tryz.prog.underlying 37=some (.slice 101) by kernel_rfl) (by kernel_rfl) rfl rfl rfl)<|Tab.aj (TI.mk' (z:=(.agg #[.int .i64 0,.slice none 0 0,.slice none 0 0,.slice none 0 0])) (TD.mkStruct (l:=[(0,3),(1,22),(2,36),(3,37)]) (by kernel_rfl) (by kernel_rfl) (by kernel_rfl)) (by kernel_rfl) rfl rfl rfl)<|Tab.aj (TI.mk' (z:=(.agg #[.int .i64 0,.slice none 0 0,.slice none 0 0,.slice none 0 0])) (TD.mkStruct (l:=[(0,3),(1,22),(2,36),(3,37)]) (by kernel_rfl) (by kernel_rfl) (by kernel_rfl)) (by kernel_rfl) rfl rfl rfl)<|Tab.aj (TI.mk' (z:=(.nilFunc)) (TD.au (by kernel_rfl)) (by kernel_rfl) rfl rfl rfl)<|Tab.aj (TI.mk' (z:=(.nilFunc)) (TD.au (by kernel_rfl)) (by kernel_rfl) rfl rfl rfl)<|Tab.aj (TI.mk' (z:=(.nilFunc)) (TD.au (by kernel_rfl)) (by kernel_rfl) rfl rfl rfl)<|Tab.aj (TI.mk' (z:=(.nilFunc)) (TD.au (by kernel_rfl)) (by kernel_rfl) rfl rfl rfl)<|Tab.aj (TI.mk' (z:=(.nilFunc)) (TD.au (by kernel_rfl)) (by kernel_rfl) rfl rfl rfl)<|Tab.aj (TI.mk' (z:=(.nilFunc)) (TD.au (by kernel_rfl)) (by kernel_rfl) rfl rfl rfl)<|Tab.aj (TI.mk' (z:=(.slice none 0 0)) (show Tryz.prog.underlying 49=some (.slice 111) by kernel_rfl) (by kernel_rfl) rfl rfl rfl)<|Tab.aj (TI.mk' (z:=(.agg #[.int .i64 0,.slice none 0 0])) (TD.mkStruct (l:=[(0,3),(1,49)]) (by kernel_rfl) (by kernel_rfl) (by kernel_rfl)) (by kernel_rfl) rfl rfl rfl)<|Tab.aj (TI.mk' (z:=(.agg #[.int .i64 0,.slice none 0 0])) (TD.mkStruct (l:=[(0,3),(1,49)]) (by kernel_rfl) (by kernel_rfl) (by kernel_rfl)) (by kernel_rfl) rfl rfl rfl)<|Tab.aj (TI.mk' (z:=(.nilFunc)) (TD.au (by kernel_rfl)) (by kernel_rfl) rfl rfl rfl)<|Tab.aj (TI.mk' (z:=(.nilFunc)) (TD.au (by kernel_rfl)) (by kernel_rfl) rfl rfl rfl)<|Tab.aj (TI.mk' (z:=(.nilFunc)) (TD.au (by kernel_rfl)) (by kernel_rfl) rfl rfl rfl)<|Tab.aj (TI.mk' (z:=(.slice none 0 0)) (show Tryz.prog.underlying 55=some (.slice 4) by kernel_rfl) (by kernel_rfl) rfl rfl rfl)<|Tab.aj (TI.mk' (z:=(.agg #[.slice none 0 0,.slice none 0 0,.slice none 0 0,.slice none 0 0,.slice none 0 0])) (TD.mkStruct (l:=[(0,30),(1,55),(2,55),(3,55),(4,30)]) (by kernel_rfl) (by kernel_rfl) (by kernel_rfl)) (by kernel_rfl) rfl rfl rfl)<|Tab.aj (TI.mk' (z:=(.agg #[.slice none 0 0,.slice none 0 0,.slice none 0 0,.slice none 0 0,.slice none 0 0])) (TD.mkStruct (l:=[(0,30),(1,55),(2,55),(3,55),(4,30)]) (by kernel_rfl) (by kernel_rfl) (by kernel_rfl)) (by kernel_rfl) rfl rfl rfl)<|Tab.aj (TI.mk' (z:=(.nilFunc)) (TD.au (by kernel_rfl)) (by kernel_rfl) rfl rfl rfl)<|Tab.aj (TI.mk' (z:=(.nilFunc)) (TD.au (by kernel_rfl)) (by kernel_rfl) rfl rfl rfl)<|Tab.aj (TI.mk' (z:=(.nilFunc)) (TD.au (by kernel_rfl)) (by kernel_rfl) rfl rfl rfl)<|Tab.aj (TI.mk' (z:=(.nilFunc)) (TD.au (by kernel_rfl)) (by kernel_rfl) rfl rfl rfl)<|Tab.aj (TI.mk' (z:=(.nilFunc)) (TD.au (by kernel_rfl)) (by kernel_rfl) rfl rfl rfl)<|Tab.aj (TI.mk' (z:=(.nilFunc)) (TD.au (by kernel_rfl)) (by kernel_rfl) rfl rfl rfl)<|Tab.aj (TI.mk' (z:=(.nilFunc)) (TD.au (by kernel_rfl)) (by kernel_rfl) rfl rfl rfl)<|Tab.aj (TI.mk' (z:=(.nilFunc)) (TD.au (by kernel_rfl)) (by kernel_rfl) rfl rfl rfl)<|Tab.aj (TI.mk' (z:=(.slice none 0 0)) (show Tryz.prog.underlying 70=some (.slice 77) by kernel_rfl) (by kernel_rfl) rfl rfl rfl)<|Tab.aj (TI.mk' (z:=(.nilFunc)) (TD.au (by kernel_rfl)) (by kernel_rfl) rfl rfl rfl)<|Tab.aj (TI.mk' (z:=(.nilFunc)) (TD.au (by kernel_rfl)) (by kernel_rfl) rfl rfl rfl)<|Tab.aj (TI.mk' (z:=(.agg #[.int .i64 0,.bool false])) (TD.mkStruct (l:=[(0,3),(1,4)]) (by kernel_rfl) (by kernel_rfl) (by kernel_rfl)) (by kernel_rfl) rfl rfl rfl)<|Tab.aj (TI.mk' (z:=(.agg #[.int .i64 0,.bool false])) (TD.mkStruct (l:=[(0,3),(1,4)]) (by kernel_rfl) (by kernel_rfl) (by kernel_rfl)) (by kernel_rfl) rfl rfl rfl)<|Tab.aj (TI.mk' (z:=(.nilFunc)) (TD.au (by kernel_rfl)) (by kernel_rfl) rfl rfl rfl)<|Tab.aj (TI.mk' (z:=(.nilFunc)) (TD.au (by kernel_rfl)) (by kernel_rfl) rfl rfl rfl)<|Tab.aj (TI.mk' (z:=(.nilFunc)) (TD.au (by kernel_rfl)) (by kernel_rfl) rfl rfl rfl)<|Tab.aj (TI.mk' (z:=(.nilFunc)) (TD.au (by kernel_rfl)) (by kernel_rfl) rfl rfl rfl)<|Tab.aj (TI.mk' (z:=(.nilFunc)) (TD.au (by kernel_rfl)) (by kernel_rfl) rfl rfl rfl)<|Tab.aj (TI.mk' (z:=(.slice none 0 0)) (show Tryz.prog.underlying 88=some (.slice 90) by kernel_rfl) (by kernel_rfl) rfl rfl rfl)<|Tab.aj (TI.mk' (z:=(.agg #[.int .i64 0,.int .i64 0,.slice none 0 0])) (TD.mkStruct (l:=[(0,3),(1,3),(2,88)]) (by kernel_rfl) (by kernel_rfl) (by kernel_rfl)) (by kernel_rfl) rfl rfl rfl)<|Tab.aj (TI.mk' (z:=(.agg #[.int .i64 0,.int .i64 0,.slice none 0 0])) (TD.mkStruct (l:=[(0,3),(1,3),(2,88)]) (by kernel_rfl) (by kernel_rfl) (by kernel_rfl)) (by kernel_rfl) rfl rfl rfl)<|Tab.aj (TI.mk' (z:=(.agg #[.string ByteArray.empty,.int .i64 0,.int .i64 0,.int .i64 0,.slice none 0 0,.int .i64 0,.int .i64 0,.slice none 0 0,.int .i64 0,.bool false])) (TD.mkStruct (l:=[(0,9),(1,3),(2,90),(5,90),(8,3),(9,4)]) (by kernel_rfl) (by kernel_rfl) (by kernel_rfl)) (by kernel_rfl) rfl rfl rfl)<|Tab.aj (TI.mk' (z:=(.agg #[.string ByteArray.empty,.int .i64 0,.int .i64 0,.int .i64 0,.slice none 0 0,.int .i64 0,.int .i64 0,.slice none 0 0,.int .i64 0,.bool false])) (TD.mkStruct (l:=[(0,9),(1,3),(2,90),(5,90),(8,3),(9,4)]) (by kernel_rfl) (by kernel_rfl) (by kernel_rfl)) (by kernel_rfl) rfl rfl rfl)<|Tab.aj (TI.mk' (z:=(.pointer none)) (TD.au (by kernel_rfl)) (by kernel_rfl) rfl rfl rfl)<|Tab.aj (TI.mk' (z:=(.nilFunc)) (TD.au (by kernel_rfl)) (by kernel_rfl) rfl rfl rfl)<|Tab.aj (TI.mk' (z:=(.agg #[.slice none 0 0,.int .i64 0])) (TD.mkStruct (l:=[(0,70),(1,3)]) (by kernel_rfl) (by kernel_rfl) (by kernel_rfl)) (by kernel_rfl) rfl rfl rfl)<|Tab.aj (TI.mk' (z:=(.agg #[.slice none 0 0,.int .i64 0])) (TD.mkStruct (l:=[(0,70),(1,3)]) (by kernel_rfl) (by kernel_rfl) (by kernel_rfl)) (by kernel_rfl) rfl rfl rfl)<|Tab.aj (TI.mk' (z:=(.agg #[.slice none 0 0,.int .i64 0])) (TD.mkStruct (l:=[(0,70),(1,3)]) (by kernel_rfl) (by kernel_rfl) (by kernel_rfl)) (by kernel_rfl) rfl rfl rfl)<|Tab.aj (TI.mk' (z:=(.agg #[.slice none 0 0,.slice none 0 0,.int .i64 0,.int .i64 0,.slice none 0 0])) (TD.mkStruct (l:=[(0,30),(1,30),(2,90)]) (by kernel_rfl) (by kernel_rfl) (by kernel_rfl)) (by kernel_rfl) rfl rfl rfl)<|Tab.aj (TI.mk' (z:=(.agg #[.slice none 0 0,.slice none 0 0,.int .i64 0,.int .i64 0,.slice none 0 0])) (TD.mkStruct (l:=[(0,30),(1,30),(2,90)]) (by kernel_rfl) (by kernel_rfl) (by kernel_rfl)) (by kernel_rfl) rfl rfl rfl)<|Tab.aj (TI.mk' (z:=(.agg #[.slice none 0 0,.slice none 0 0,.int .i64 0,.int .i64 0,.slice none 0 0])) (TD.mkStruct (l:=[(0,30),(1,30),(2,90)]) (by kernel_rfl) (by kernel_rfl) (by kernel_rfl)) (by kernel_rfl) rfl rfl rfl)<|Tab.aj (TI.mk' (z:=(.nilFunc)) (TD.au (by kernel_rfl)) (by kernel_rfl) rfl rfl rfl)<|Tab.aj (TI.mk' (z:=(.agg #[.int .i64 0,.slice none 0 0])) (TD.mkStruct (l:=[(0,3),(1,29)]) (by kernel_rfl) (by kernel_rfl) (by kernel_rfl)) (by kernel_rfl) rfl rfl rfl)<|Tab.aj (TI.mk' (z:=(.agg #[.int .i64 0,.slice none 0 0])) (TD.mkStruct (l:=[(0,3),(1,29)]) (by kernel_rfl) (by kernel_rfl) (by kernel_rfl)) (by kernel_rfl) rfl rfl rfl)<|Tab.aj (TI.mk' (z:=(.agg #[.int .i64 0,.slice none 0 0,.int .i64 0,.slice none 0 0,.slice none 0 0,.slice none 0 0,.slice none 0 0,.slice none 0 0,.slice none 0 0])) (TD.mkStruct (l:=[(0,104),(2,39),(6,30),(7,30),(8,30)]) (by kernel_rfl) (by kernel_rfl) (by kernel_rfl)) (by kernel_rfl) rfl rfl rfl)<|Tab.aj (TI.mk' (z:=(.agg #[.int .i64 0,.slice none 0 0,.int .i64 0,.slice none 0 0,.slice none 0 0,.slice none 0 0,.slice none 0 0,.slice none 0 0,.slice none 0 0])) (TD.mkStruct (l:=[(0,104),(2,39),(6,30),(7,30),(8,30)]) (by kernel_rfl) (by kernel_rfl) (by kernel_rfl)) (by kernel_rfl) rfl rfl rfl)<|Tab.aj (TI.mk' (z:=(.nilFunc)) (TD.au (by kernel_rfl)) (by kernel_rfl) rfl rfl rfl)<|Tab.aj (TI.mk' (z:=(.agg #[.slice none 0 0,.int .i64 0])) (TD.mkStruct (l:=[(0,70),(1,3)]) (by kernel_rfl) (by kernel_rfl) (by kernel_rfl)) (by kernel_rfl) rfl rfl rfl)<|Tab.aj (TI.mk' (z:=(.nilFunc)) (TD.au (by kernel_rfl)) (by kernel_rfl) rfl rfl rfl)<|Tab.aj (TI.mk' (z:=(.nilFunc)) (TD.au (by kernel_rfl)) (by kernel_rfl) rfl rfl rfl)<|Tab.aj (TI.mk' (z:=(.nilFunc)) (TD.au (by kernel_rfl)) (by kernel_rfl) rfl rfl rfl)<|Tab.aj (TI.mk' (z:=(.nilFunc)) (TD.au (by kernel_rfl)) (by kernel_rfl) rfl rfl rfl)<|Tab.aj (TI.mk' (z:=(.nilFunc)) (TD.au (by kernel_rfl)) (by kernel_rfl) rfl rfl rfl)<|Tab.aj (TI.mk' (z:=(.nilFunc)) (TD.au (by kernel_rfl)) (by kernel_rfl) rfl rfl rfl)<|Tab.aj (TI.mk' (z:=(.nilFunc)) (TD.au (by kernel_rfl)) (by kernel_rfl) rfl rfl rfl)<|Tab.aj (TI.mk' (z:=(.nilFunc)) (TD.au (by kernel_rfl)) (by kernel_rfl) rfl rfl rfl)<|Tab.aj (TI.mk' (z:=(.nilFunc)) (TD.au (by kernel_rfl)) (by kernel_rfl) rfl rfl rfl)<|Tab.aj (TI.mk' (z:=(.nilFunc)) (TD.au (by kernel_rfl)) (by kernel_rfl) rfl rfl rfl)<|Tab.aj (TI.mk' (z:=(.map none)) (show Tryz.prog.underlying 124=some (.map 9 3) by kernel_rfl) (by kernel_rfl) rfl rfl rfl)<|Tab.aj (TI.mk' (z:=(.nilFunc)) (TD.au (by kernel_rfl)) (by kernel_rfl) rfl rfl rfl)<|Tab.aj (TI.mk' (z:=(.nilFunc)) (TD.au (by kernel_rfl)) (by kernel_rfl) rfl rfl rfl)<|Tab.aj (TI.mk' (z:=(.nilFunc)) (TD.au (by kernel_rfl)) (by kernel_rfl) rfl rfl rfl)<|Tab.aj (TI.mk' (z:=(.nilFunc)) (TD.au (by kernel_rfl)) (by kernel_rfl) rfl rfl rfl)<|Tab.aj (TI.mk' (z:=(.nilFunc)) (TD.au (by kernel_rfl)) (by kernel_rfl) rfl rfl rfl)<|Tab.aj (TI.mk' (z:=(.agg #[.bool false,.bool false,.bool false,.bool false,.bool false,.bool false,.bool false,.bool false,.bool false,.bool false,.bool false,.bool false,.bool false,.bool false,.bool false,.bool false,.bool false,.bool false,.bool false,.bool false,.bool false,.bool false,.bool false,.bool false])) (show Tryz.prog.underlying 131=some (.array 24 4) by kernel_rfl) (by kernel_rfl) rfl rfl rfl)<|Tab.aj (TI.mk' (z:=(.agg #[.bool false,.bool false,.bool false,.bool false,.bool false,.bool false,.bool false,.bool false,.bool false,.bool false,.bool false,.bool false,.bool false,.bool false,.bool false,.bool false,.bool false,.bool false,.bool false,.bool false,.bool false,.bool false,.bool false,.bool false])) (show Tryz.prog.underlying 132=some (.array 24 4) by kernel_rfl) (by kernel_rfl) rfl rfl rfl)<|Tab.aj (TI.mk' (z:=(.nilFunc)) (TD.au (by kernel_rfl)) (by kernel_rfl) rfl rfl rfl)<|Tab.aj (TI.mk' (z:=(.nilFunc)) (TD.au (by kernel_rfl)) (by kernel_rfl) rfl rfl rfl)<|Tab.aj (TI.mk' (z:=(.nilFunc)) (TD.au (by kernel_rfl)) (by kernel_rfl) rfl rfl rfl)<|Tab.aj (TI.mk' (z:=(.pointer none)) (TD.au (by kernel_rfl)) (by kernel_rfl) rfl rfl rfl)<|Tab.aj (TI.mk' (z:=(.nilFunc)) (TD.au (by kernel_rfl)) (by kernel_rfl) rfl rfl rfl)<|Tab.aj (TI.mk' (z:=(.nilFunc)) (TD.au (by kernel_rfl)) (by kernel_rfl) rfl rfl rfl)<|Tab.aj (TI.mk' (z:=(.agg #[.int .i64 0,.slice none 0 0,.slice none 0 0,.slice none 0 0,.slice none 0 0,.slice none 0 0,.slice none 0 0,.slice none 0 0,.slice none 0 0,.slice none 0 0,.int .i64 0])) (TD.mkStruct (l:=[(0,32),(5,57),(10,3)]) (by kernel_rfl) (by kernel_rfl) (by kernel_rfl)) (by kernel_rfl) rfl rfl rfl)<|Tab.aj (TI.mk' (z:=(.agg #[.int .i64 0,.slice none 0 0,.slice none 0 0,.slice none 0 0,.slice none 0 0,.slice none 0 0,.slice none 0 0,.slice none 0 0,.slice none 0 0,.slice none 0 0,.int .i64 0])) (TD.mkStruct (l:=[(0,32),(5,57),(10,3)]) (by kernel_rfl) (by kernel_rfl) (by kernel_rfl)) (by kernel_rfl) rfl rfl rfl)<|Tab.aj (TI.mk' (z:=(.nilFunc)) (TD.au (by kernel_rfl)) (by kernel_rfl) rfl rfl rfl)<|Tab.aj (TI.mk' (z:=(.nilFunc)) (TD.au (by kernel_rfl)) (by kernel_rfl) rfl rfl rfl)<|Tab.aj (TI.mk' (z:=(.nilFunc)) (TD.au (by kernel_rfl)) (by kernel_rfl) rfl rfl rfl)<|Tab.aj (TI.mk' (z:=(.nilFunc)) (TD.au (by kernel_rfl)) (by kernel_rfl) rfl rfl rfl)<|Tab.aj (TI.mk' (z:=(.nilFunc)) (TD.au (by kernel_rfl)) (by kernel_rfl) rfl rfl rfl)<|Tab.aj (TI.mk' (z:=(.nilFunc)) (TD.au (by kernel_rfl)) (by kernel_rfl) rfl rfl rfl)<|Tab.aj (TI.mk' (z:=(.nilFunc)) (TD.au (by kernel_rfl)) (by kernel_rfl) rfl rfl rfl)<|Tab.aj (TI.mk' (z:=(.nilFunc)) (TD.au (by kernel_rfl)) (by kernel_rfl) rfl rfl rfl)<|Tab.aj (TI.mk' (z:=(.nilFunc)) (TD.au (by kernel_rfl)) (by kernel_rfl) rfl rfl rfl)<|Tab.aj (TI.mk' (z:=(.nilFunc)) (TD.au (by kernel_rfl)) (by kernel_rfl) rfl rfl rfl)<|Tab.aj (TI.mk' (z:=(.nilFunc)) (TD.au (by kernel_rfl)) (by kernel_rfl) rfl rfl rfl)<|Tab.aj (TI.mk' (z:=(.nilFunc)) (TD.au (by kernel_rfl)) (by kernel_rfl) rfl rfl rfl)<|Tab.aj (TI.mk' (z:=(.nilFunc)) (TD.au (by kernel_rfl)) (by kernel_rfl) rfl rfl rfl)<|Tab.aj (TI.mk' (z:=(.nilFunc)) (TD.au (by kernel_rfl)) (by kernel_rfl) rfl rfl rfl)<|Tab.aj (TI.mk' (z:=(.nilFunc)) (TD.au (by kernel_rfl)) (by kernel_rfl) rfl rfl rfl)<|Tab.aj (TI.mk' (z:=(.nilFunc)) (TD.au (by kernel_rfl)) (by kernel_rfl) rfl rfl rfl)<|Tab.aj (TI.mk' (z:=(.nilFunc)) (TD.au (by kernel_rfl)) (by kernel_rfl) rfl rfl rfl)<|Tab.aj (TI.mk' (z:=(.nilFunc)) (TD.au (by kernel_rfl)) (by kernel_rfl) rfl rfl rfl)<|Tab.aj (TI.mk' (z:=(.nilFunc)) (TD.au (by kernel_rfl)) (by kernel_rfl) rfl rfl rfl)<|Tab.aj (TI.mk' (z:=(.nilFunc)) (TD.au (by kernel_rfl)) (by kernel_rfl) rfl rfl rfl)<|Tab.aj (TI.mk' (z:=(.nilFunc)) (TD.au (by kernel_rfl)) (by kernel_rfl) rfl rfl rfl)<|Tab.aj (TI.mk' (z:=(.nilFunc)) (TD.au (by kernel_rfl)) (by kernel_rfl) rfl rfl rfl)<|Tab.aj (TI.mk' (z:=(.nilFunc)) (TD.au (by kernel_rfl)) (by kernel_rfl) rfl rfl rfl)<|Tab.aj (TI.mk' (z:=(.nilFunc)) (TD.au (by kernel_rfl)) (by kernel_rfl) rfl rfl rfl)<|Tab.aj (TI.mk' (z:=(.nilFunc)) (TD.au (by kernel_rfl)) (by kernel_rfl) rfl rfl rfl)<|Tab.aj (TI.mk' (z:=(.pointer none)) (TD.au (by kernel_rfl)) (by kernel_rfl) rfl rfl rfl)<|Tab.aj (TI.mk' (z:=(.nilFunc)) (TD.au (by kernel_rfl)) (by kernel_rfl) rfl rfl rfl)<|Tab.aj (TI.mk' (z:=(.agg #[.nilFunc,.nilFunc,.nilFunc])) (show Tryz.prog.underlying 180=some (.array 3 179) by kernel_rfl) (by kernel_rfl) rfl rfl rfl)<|Tab.aj (TI.mk' (z:=(.agg #[.int .i64 0,.slice none 0 0,.slice none 0 0,.slice none 0 0,.slice none 0 0,.map none,.nilFunc,.nilFunc,.nilFunc])) (TD.mkStruct (l:=[(0,32),(5,124),(6,180)]) (by kernel_rfl) (by kernel_rfl) (by kernel_rfl)) (by kernel_rfl) rfl rfl rfl)<|Tab.aj (TI.mk' (z:=(.agg #[.int .i64 0,.slice none 0 0,.slice none 0 0,.slice none 0 0,.slice none 0 0,.map none,.nilFunc,.nilFunc,.nilFunc])) (TD.mkStruct (l:=[(0,32),(5,124),(6,180)]) (by kernel_rfl) (by kernel_rfl) (by kernel_rfl)) (by kernel_rfl) rfl rfl rfl)<|Tab.aj (TI.mk' (z:=(.nilFunc)) (TD.au (by kernel_rfl)) (by kernel_rfl) rfl rfl rfl)<|Tab.aj (TI.mk' (z:=(.nilFunc)) (TD.au (by kernel_rfl)) (by kernel_rfl) rfl rfl rfl)<|Tab.aj (TI.mk' (z:=(.nilFunc)) (TD.au (by kernel_rfl)) (by kernel_rfl) rfl rfl rfl)<|Tab.aj (TI.mk' (z:=(.nilFunc)) (TD.au (by kernel_rfl)) (by kernel_rfl) rfl rfl rfl)<|Tab.aj (TI.mk' (z:=(.nilFunc)) (TD.au (by kernel_rfl)) (by kernel_rfl) rfl rfl rfl)<|Tab.aj (TI.mk' (z:=(.nilFunc)) (TD.au (by kernel_rfl)) (by kernel_rfl) rfl rfl rfl)<|Tab.aj (TI.mk' (z:=(.nilFunc)) (TD.au (by kernel_rfl)) (by kernel_rfl) rfl rfl rfl)<|Tab.aj (TI.mk' (z:=(.nilFunc)) (TD.au (by kernel_rfl)) (by kernel_rfl) rfl rfl rfl)<|Tab.aj (TI.mk' (z:=(.nilFunc)) (TD.au (by kernel_rfl)) (by kernel_rfl) rfl rfl rfl)<|Tab.aj (TI.mk' (z:=(.agg #[.bool false,.bool false,.bool false,.bool false,.bool false,.bool false])) (show Tryz.prog.underlying 196=some (.array 6 4) by kernel_rfl) (by kernel_rfl) rfl rfl rfl)<|Tab.aj (TI.mk' (z:=(.nilFunc)) (TD.au (by kernel_rfl)) (by kernel_rfl) rfl rfl rfl)<|Tab.aj (TI.mk' (z:=(.nilFunc)) (TD.au (by kernel_rfl)) (by kernel_rfl) rfl rfl rfl)<|Tab.aj (TI.mk' (z:=(.nilFunc)) (TD.au (by kernel_rfl)) (by kernel_rfl) rfl rfl rfl)<|Tab.aj (TI.mk' (z:=(.nilFunc)) (TD.au (by kernel_rfl)) (by kernel_rfl) rfl rfl rfl)<|Tab.aj (TI.mk' (z:=(.nilFunc)) (TD.au (by kernel_rfl)) (by kernel_rfl) rfl rfl rfl)<|Tab.aj (TI.mk' (z:=(.nilFunc)) (TD.au (by kernel_rfl)) (by kernel_rfl) rfl rfl rfl)<|Tab.aj (TI.mk' (z:=(.nilFunc)) (TD.au (by kernel_rfl)) (by kernel_rfl) rfl rfl rfl)<|Tab.aj (TI.mk' (z:=(.nilFunc)) (TD.au (by kernel_rfl)) (by kernel_rfl) rfl rfl rfl)<|Tab.aj (TI.mk' (z:=(.nilFunc)) (TD.au (by kernel_rfl)) (by kernel_rfl) rfl rfl rfl)<|Tab.aj (TI.mk' (z:=(.nilFunc)) (TD.au (by kernel_rfl)) (by kernel_rfl) rfl rfl rfl)<|Tab.aj (TI.mk' (z:=(.nilFunc)) (TD.au (by kernel_rfl)) (by kernel_rfl) rfl rfl rfl)<|Tab.aj (TI.mk' (z:=(.nilFunc)) (TD.au (by kernel_rfl)) (by kernel_rfl) rfl rfl rfl)<|Tab.aj (TI.mk' (z:=(.string ByteArray.empty)) (show Tryz.prog.underlying 211=some (.string) by kernel_rfl) (by kernel_rfl) rfl rfl rfl)<|Tab.aj (TI.mk' (z:=(.nilFunc)) (TD.au (by kernel_rfl)) (by kernel_rfl) rfl rfl rfl)<|Tab.aj (TI.mk' (z:=(.nilFunc)) (TD.au (by kernel_rfl)) (by kernel_rfl) rfl rfl rfl)<|Tab.aj (TI.mk' (z:=(.nilFunc)) (TD.au (by kernel_rfl)) (by kernel_rfl) rfl rfl rfl)<|Tab.aj (TI.mk' (z:=(.nilFunc)) (TD.au (by kernel_rfl)) (by kernel_rfl) rfl rfl rfl)<|Tab.aj (TI.mk' (z:=(.nilFunc)) (TD.au (by kernel_rfl)) (by kernel_rfl) rfl rfl rfl)<|Tab.aj (TI.mk' (z:=(.slice none 0 0)) (show Tryz.prog.underlying 221=some (.slice 30) by kernel_rfl) (by kernel_rfl) rfl rfl rfl)<|Tab.aj (TI.mk' (z:=(.nilFunc)) (TD.au (by kernel_rfl)) (by kernel_rfl) rfl rfl rfl)<|Tab.aj (TI.mk' (z:=(.nilFunc)) (TD.au (by kernel_rfl)) (by kernel_rfl) rfl rfl rfl)<|Tab.aj (TI.mk' (z:=(.nilFunc)) (TD.au (by kernel_rfl)) (by kernel_rfl) rfl rfl rfl)<|Tab.aj (TI.mk' (z:=(.nilFunc)) (TD.au (by kernel_rfl)) (by kernel_rfl) rfl rfl rfl)<|Tab.aj (TI.mk' (z:=(.nilFunc)) (TD.au (by kernel_rfl)) (by kernel_rfl) rfl rfl rfl)<|Tab.aj (TI.mk' (z:=(.nilFunc)) (TD.au (by kernel_rfl)) (by kernel_rfl) rfl rfl rfl)<|Tab.aj (TI.mk' (z:=(.nilFunc)) (TD.au (by kernel_rfl)) (by kernel_rfl) rfl rfl rfl)<|Tab.aj (TI.mk' (z:=(.nilFunc)) (TD.au (by kernel_rfl)) (by kernel_rfl) rfl rfl rfl)<|Tab.aj (TI.mk' (z:=(.nilFunc)) (TD.au (by kernel_rfl)) (by kernel_rfl) rfl rfl rfl)<|Tab.aj (TI.mk' (z:=(.nilFunc)) (TD.au (by kernel_rfl)) (by kernel_rfl) rfl rfl rfl)<|Tab.aj (TI.mk' (z:=(.nilFunc)) (TD.au (by kernel_rfl)) (by kernel_rfl) rfl rfl rfl)<|Tab.aj (TI.mk' (z:=(.nilFunc)) (TD.au (by kernel_rfl)) (by kernel_rfl) rfl rfl rfl)<|Tab.aj (TI.mk' (z:=(.int .u64 0)) (show Tryz.prog.underlying 242=some (.int .u64) by kernel_rfl) (by kernel_rfl) rfl rfl rfl)<|Tab.aj (TI.mk' (z:=(.nilFunc)) (TD.au (by kernel_rfl)) (by kernel_rfl) rfl rfl rfl)<|Tab.aj (TI.mk' (z:=(.nilFunc)) (TD.au (by kernel_rfl)) (by kernel_rfl) rfl rfl rfl)<|Tab.aj (TI.mk' (z:=(.nilFunc)) (TD.au (by kernel_rfl)) (by kernel_rfl) rfl rfl rfl)<|Tab.aj (TI.mk' (z:=(.nilFunc)) (TD.au (by kernel_rfl)) (by kernel_rfl) rfl rfl rfl)<|Tab.aj (TI.mk' (z:=(.pointer none)) (TD.au (by kernel_rfl)) (by kernel_rfl) rfl rfl rfl)<|Tab.aj (TI.mk' (z:=(.nilFunc)) (TD.au (by kernel_rfl)) (by kernel_rfl) rfl rfl rfl)<|Tab.aj (TI.mk' (z:=(.nilFunc)) (TD.au (by kernel_rfl)) (by kernel_rfl) rfl rfl rfl)<|Tab.aj (TI.mk' (z:=(.nilFunc)) (TD.au (by kernel_rfl)) (by kernel_rfl) rfl rfl rfl)<|Tab.aj (TI.mk' (z:=(.nilFunc)) (TD.au (by kernel_rfl)) (by kernel_rfl) rfl rfl rfl)<|Tab.aj (TI.mk' (z:=(.nilFunc)) (TD.au (by kernel_rfl)) (by kernel_rfl) rfl rfl rfl)<|Tab.aj (TI.mk' (z:=(.nilFunc)) (TD.au (by kernel_rfl)) (by kernel_rfl) rfl rfl rfl)<|Tab.aj (TI.mk' (z:=(.nilFunc)) (TD.au (by kernel_rfl)) (by kernel_rfl) rfl rfl rfl)<|Tab.aj (TI.mk' (z:=(.nilFunc)) (TD.au (by kernel_rfl)) (by kernel_rfl) rfl rfl rfl)<|Tab.aj (TI.mk' (z:=(.nilFunc)) (TD.au (by kernel_rfl)) (by kernel_rfl) rfl rfl rfl)<|Tab.aj (TI.mk' (z:=(.nilFunc)) (TD.au (by kernel_rfl)) (by kernel_rfl) rfl rfl rfl)<|Tab.aj (TI.mk' (z:=(.nilFunc)) (TD.au (by kernel_rfl)) (by kernel_rfl) rfl rfl rfl)<|Tab.aj (TI.mk' (z:=(.agg #[.int .i64 0,.int .i64 0,.nilFunc])) (TD.mkStruct (l:=[(0,3),(1,3),(2,264)]) (by kernel_rfl) (by kernel_rfl) (by kernel_rfl)) (by kernel_rfl) rfl rfl rfl)<|Tab.aj (TI.mk' (z:=(.agg #[.int .i64 0,.int .i64 0,.nilFunc])) (TD.mkStruct (l:=[(0,3),(1,3),(2,264)]) (by kernel_rfl) (by kernel_rfl) (by kernel_rfl)) (by kernel_rfl) rfl rfl rfl)<|Tab.aj (TI.mk' (z:=(.agg #[.int .i64 0,.int .i64 0,.nilFunc,.int .i64 0,.int .i64 0,.nilFunc,.int .i64 0,.int .i64 0,.nilFunc,.int .i64 0,.int .i64 0,.nilFunc,.int .i64 0,.int .i64 0,.nilFunc])) (show Tryz.prog.underlying 267=some (.array 5 266) by kernel_rfl) (by kernel_rfl) rfl rfl rfl)<|Tab.aj (TI.mk' (z:=(.nilFunc)) (TD.au (by kernel_rfl)) (by kernel_rfl) rfl rfl rfl)<|Tab.aj (TI.mk' (z:=(.nilFunc)) (TD.au (by kernel_rfl)) (by kernel_rfl) rfl rfl rfl)<|Tab.aj (TI.mk' (z:=(.nilFunc)) (TD.au (by kernel_rfl)) (by kernel_rfl) rfl rfl rfl)<|Tab.aj (TI.mk' (z:=(.nilFunc)) (TD.au (by kernel_rfl)) (by kernel_rfl) rfl rfl rfl)<|Tab.aj (TI.mk' (z:=(.int .i64 0)) (show Tryz.prog.underlying 276=some (.int .i64) by kernel_rfl) (by kernel_rfl) rfl rfl rfl)<|Tab.aj (TI.mk' (z:=(.nilFunc)) (TD.au (by kernel_rfl)) (by kernel_rfl) rfl rfl rfl)<|Tab.aj (TI.mk' (z:=(.nilFunc)) (TD.au (by kernel_rfl)) (by kernel_rfl) rfl rfl rfl)<|Tab.aj (TI.mk' (z:=(.nilFunc)) (TD.au (by kernel_rfl)) (by kernel_rfl) rfl rfl rfl)<|Tab.aj (TI.mk' (z:=(.nilFunc)) (TD.au (by kernel_rfl)) (by kernel_rfl) rfl rfl rfl)<|Tab.aj (TI.mk' (z:=(.nilFunc)) (TD.au (by kernel_rfl)) (by kernel_rfl) rfl rfl rfl)<|Tab.aj (TI.mk' (z:=(.int .u32 0)) (show Tryz.prog.underlying 284=some (.int .u32) by kernel_rfl) (by kernel_rfl) rfl rfl rfl)<|Tab.aj (TI.mk' (z:=(.nilFunc)) (TD.au (by kernel_rfl)) (by kernel_rfl) rfl rfl rfl)<|Tab.aj (TI.mk' (z:=(.int .u64 0)) (show Tryz.prog.underlying 286=some (.int .u64) by kernel_rfl) (by kernel_rfl) rfl rfl rfl)<|Tab.aj (TI.mk' (z:=(.nilFunc)) (TD.au (by kernel_rfl)) (by kernel_rfl) rfl rfl rfl)<|Tab.aj (TI.mk' (z:=(.nilFunc)) (TD.au (by kernel_rfl)) (by kernel_rfl) rfl rfl rfl)<|Tab.aj (TI.mk' (z:=(.nilFunc)) (TD.au (by kernel_rfl)) (by kernel_rfl) rfl rfl rfl)<|Tab.aj (TI.mk' (z:=(.slice none 0 0)) (show Tryz.prog.underlying 290=some (.slice 3) by kernel_rfl) (by kernel_rfl) rfl rfl rfl)<|Tab.aj (TI.mk' (z:=(.nilFunc)) (TD.au (by kernel_rfl)) (by kernel_rfl) rfl rfl rfl)<|Tab.aj (TI.mk' (z:=(.slice none 0 0)) (show Tryz.prog.underlying 294=some (.slice 5) by kernel_rfl) (by kernel_rfl) rfl rfl rfl)<|Tab.aj (TI.mk' (z:=(.nilFunc)) (TD.au (by kernel_rfl)) (by kernel_rfl) rfl rfl rfl)<|Tab.aj (TI.mk' (z:=(.nilFunc)) (TD.au (by kernel_rfl)) (by kernel_rfl) rfl rfl rfl)<|Tab.aj (TI.mk' (z:=(.nilFunc)) (TD.au (by kernel_rfl)) (by kernel_rfl) rfl rfl rfl)<|Tab.aj (TI.mk' (z:=(.slice none 0 0)) (show Tryz.prog.underlying 299=some (.slice 55) by kernel_rfl) (by kernel_rfl) rfl rfl rfl)<|Tab.aj (TI.mk' (z:=(.nilFunc)) (TD.au (by kernel_rfl)) (by kernel_rfl) rfl rfl rfl)<|Tab.aj (TI.mk' (z:=(.nilFunc)) (TD.au (by kernel_rfl)) (by kernel_rfl) rfl rfl rfl)<|Tab.aj (TI.mk' (z:=(.int .u64 0)) (show Tryz.prog.underlying 302=some (.int .u64) by kernel_rfl) (by kernel_rfl) rfl rfl rfl)<|Tab.aj (TI.mk' (z:=(.nilFunc)) (TD.au (by kernel_rfl)) (by kernel_rfl) rfl rfl rfl)<|Tab.aj (TI.mk' (z:=(.nilFunc)) (TD.au (by kernel_rfl)) (by kernel_rfl) rfl rfl rfl)<|Tab.aj (TI.mk' (z:=(.nilFunc)) (TD.au (by kernel_rfl)) (by kernel_rfl) rfl rfl rfl)<|Tab.aj (TI.mk' (z:=(.pointer none)) (TD.au (by kernel_rfl)) (by kernel_rfl) rfl rfl rfl)<|Tab.aj (TI.mk' (z:=(.nilFunc)) (TD.au (by kernel_rfl)) (by kernel_rfl) rfl rfl rfl)<|Tab.aj (TI.mk' (z:=(.nilFunc)) (TD.au (by kernel_rfl)) (by kernel_rfl) rfl rfl rfl)<|Tab.aj (TI.mk' (z:=(.pointer none)) (TD.au (by kernel_rfl)) (by kernel_rfl) rfl rfl rfl)<|Tab.aj (TI.mk' (z:=(.nilFunc)) (TD.au (by kernel_rfl)) (by kernel_rfl) rfl rfl rfl)<|Tab.aj (TI.mk' (z:=(.agg #[.int .u8 0,.int .u8 0,.int .u8 0,.int .u8 0,.int .u8 0,.int .u8 0,.int .u8 0,.int .u8 0,.int .u8 0,.int .u8 0,.int .u8 0,.int .u8 0,.int .u8 0,.int .u8 0,.int .u8 0,.int .u8 0,.int .u8 0,.int .u8 0,.int .u8 0,.int .u8 0,.int .u8 0,.int .u8 0,.int .u8 0,.int .u8 0])) (show Tryz.prog.underlying 317=some (.array 24 5) by kernel_rfl) (by kernel_rfl) rfl rfl rfl)<|Tab.aj (TI.mk' (z:=(.nilFunc)) (TD.au (by kernel_rfl)) (by kernel_rfl) rfl rfl rfl)<|Tab.aj (TI.mk' (z:=(.nilFunc)) (TD.au (by kernel_rfl)) (by kernel_rfl) rfl rfl rfl)<|Tab.aj (TI.mk' (z:=(.agg (List.replicate 256 (.bool false)).toArray)) (show Tryz.prog.underlying 323=some (.array 256 4) by kernel_rfl) (by kernel_rfl) rfl rfl rfl)<|Tab.aj (TI.mk' (z:=(.pointer none)) (TD.au (by kernel_rfl)) (by kernel_rfl) rfl rfl rfl)<|Tab.aj (TI.mk' (z:=(.agg #[.int .u64 0,.int .u64 0,.int .u64 0,.int .u64 0,.int .u64 0,.int .u64 0,.int .u64 0,.int .u64 0,.int .u64 0,.int .u64 0,.int .u64 0,.int .u64 0,.int .u64 0,.int .u64 0,.int .u64 0,.int .u64 0,.int .u64 0,.int .u64 0,.int .u64 0,.int .u64 0])) (show Tryz.prog.underlying 330=some (.array 20 286) by kernel_rfl) (by kernel_rfl) rfl rfl rfl)<|Tab.aj (TI.mk' (z:=(.agg #[.int .u8 0,.int .u8 0,.int .u8 0,.int .u8 0,.int .u8 0,.int .u8 0,.int .u8 0,.int .u8 0,.int .u8 0,.int .u8 0,.int .u8 0,.int .u8 0,.int .u8 0,.int .u8 0,.int .u8 0,.int .u8 0,.int .u8 0,.int .u8 0,.int .u8 0,.int .u8 0,.int .u8 0,.int .u8 0,.int .u8 0,.int .u8 0,.int .u8 0,.int .u8 0,.int .u8 0,.int .u8 0,.int .u8 0,.int .u8 0,.int .u8 0,.int .u8 0,.int .u8 0,.int .u8 0,.int .u8 0,.int .u8 0,.int .u8 0,.int .u8 0,.int .u8 0,.int .u8 0,.int .u8 0,.int .u8 0,.int .u8 0,.int .u8 0,.int .u8 0,.int .u8 0,.int .u8 0,.int .u8 0,.int .u8 0,.int .u8 0,.int .u8 0,.int .u8 0,.int .u8 0,.int .u8 0,.int .u8 0,.int .u8 0,.int .u8 0,.int .u8 0,.int .u8 0,.int .u8 0,.int .u8 0,.int .u8 0,.int .u8 0,.int .u8 0,.int .u8 0])) (show Tryz.prog.underlying 331=some (.array 65 5) by kernel_rfl) (by kernel_rfl) rfl rfl rfl)<|Tab.aj (TI.mk' (z:=(.nilFunc)) (TD.au (by kernel_rfl)) (by kernel_rfl) rfl rfl rfl)<|Tab.aj (TI.mk' (z:=(.nilFunc)) (TD.au (by kernel_rfl)) (by kernel_rfl) rfl rfl rfl)<|Tab.aj (TI.mk' (z:=(.agg #[.int .u8 0,.int .u8 0,.int .u8 0,.int .u8 0,.int .u8 0,.int .u8 0,.int .u8 0,.int .u8 0,.int .u8 0,.int .u8 0,.int .u8 0,.int .u8 0,.int .u8 0,.int .u8 0,.int .u8 0,.int .u8 0,.int .u8 0,.int .u8 0,.int .u8 0,.int .u8 0,.int .u8 0,.int .u8 0,.int .u8 0,.int .u8 0,.int .u8 0,.int .u8 0,.int .u8 0,.int .u8 0,.int .u8 0,.int .u8 0,.int .u8 0,.int .u8 0])) (show Tryz.prog.underlying 339=some (.array 32 5) by kernel_rfl) (by kernel_rfl) rfl rfl rfl)<|Tab.aj (TI.mk' (z:=(.agg #[.int .u8 0,.int .u8 0,.int .u8 0,.int .u8 0,.int .u8 0,.int .u8 0,.int .u8 0,.int .u8 0,.int .u8 0,.int .u8 0,.int .u8 0,.int .u8 0,.int .u8 0,.int .u8 0,.int .u8 0,.int .u8 0,.int .u8 0,.int .u8 0,.int .u8 0,.int .u8 0,.int .u8 0,.int .u8 0,.int .u8 0,.int .u8 0,.int .u8 0,.int .u8 0,.int .u8 0,.int .u8 0,.int .u8 0,.int .u8 0,.int .u8 0,.int .u8 0,.int .u8 0,.int .u8 0,.int .u8 0,.int .u8 0,.int .u8 0,.int .u8 0,.int .u8 0,.int .u8 0,.int .u8 0,.int .u8 0,.int .u8 0,.int .u8 0,.int .u8 0,.int .u8 0,.int .u8 0,.int .u8 0,.int .u8 0,.int .u8 0,.int .u8 0,.int .u8 0,.int .u8 0,.int .u8 0,.int .u8 0,.int .u8 0,.int .u8 0,.int .u8 0,.int .u8 0,.int .u8 0,.int .u8 0,.int .u8 0,.int .u8 0,.int .u8 0])) (show Tryz.prog.underlying 340=some (.array 64 5) by kernel_rfl) (by kernel_rfl) rfl rfl rfl)<|Tab.avd
theorem mixed:Tryz.prog.follows .mixedOrders=true:=by kernel_rfl
theorem vF {f:Nat} {fn:Func} {S:Spec} (hf:Tryz.prog.funcs[f]?=some fn)
  (h:∀a,S.pre a→match fn.body with
   | some c=>vc c ⟨Tryz.prog,tab,fn.ntmps,S.ro,(S.objs a).length,false,none,S.inl,S.gl,true⟩ (mU (S.args a) (S.objs a)) (akF ⟨Tryz.prog,tab,fn.ntmps,S.ro,(S.objs a).length,false,none,S.inl,S.gl,true⟩ fn.results.toList S.fresh (S.res a) (S.objs' a))
   | none=>False)
  (hc:∀a,(S.args a).length.ble fn.ntmps=true∧S.ro.ble (S.objs a).length=true∧(S.objs' a).length+S.ro=(S.objs a).length:=by exact fun _=>⟨rfl,rfl,rfl⟩)
  (h1:(fn.name=="runtime.NumGoroutine")=false:=by exact rfl) (h2:fn.body.isSome=true:=by exact rfl):ay Tryz.prog f S:=
 avC (Tb:=tab) mixed gJ hf h1 h2 fun a hp=>⟨hc a,h a hp⟩
theorem vI {f:Nat} {fn:Func} {S:Spec} (l:List Nat) (hf:Tryz.prog.funcs[f]?=some fn)
  (h:∀a,S.pre a→match fn.body with
   | some c=>vc c ⟨Tryz.prog,tab,fn.ntmps,S.ro,(S.objs a).length,false,none,l,S.gl,true⟩ (mU (S.args a) (S.objs a)) (akF ⟨Tryz.prog,tab,fn.ntmps,S.ro,(S.objs a).length,false,none,l,S.gl,true⟩ fn.results.toList S.fresh (S.res a) (S.objs' a))
   | none=>False)
  (hc:∀a,(S.args a).length.ble fn.ntmps=true∧S.ro.ble (S.objs a).length=true∧(S.objs' a).length+S.ro=(S.objs a).length:=by exact fun _=>⟨rfl,rfl,rfl⟩)
  (h1:(fn.name=="runtime.NumGoroutine")=false:=by exact rfl) (h2:fn.body.isSome=true:=by exact rfl):ay Tryz.prog f S:=
 aqw l (avC (Tb:=tab) mixed gJ hf h1 h2 fun a hp=>⟨hc a,h a hp⟩)
theorem vG {f:Nat} {fn:Func} {S:xR} (hf:Tryz.prog.funcs[f]?=some fn)
  (h:∀a,S.pre a→match fn.body with
   | some c=>vc c ⟨Tryz.prog,tab,fn.ntmps,0,0,false,none,S.inl,S.gl,true⟩ (mU (S.args a) (S.objs a)) (aoV ⟨Tryz.prog,tab,fn.ntmps,0,0,false,none,S.inl,S.gl,true⟩ fn.results.toList S.fix (S.res a) (S.objs' a))
   | none=>False)
  (hc:∀a,(S.args a).length.ble fn.ntmps=true∧S.fix.ble (S.objs a).length=true∧S.fix.ble (S.objs' a).length=true:=by exact fun _=>⟨rfl,rfl,rfl⟩)
  (h1:(fn.name=="runtime.NumGoroutine")=false:=by exact rfl) (h2:fn.body.isSome=true:=by exact rfl):rW Tryz.prog f S:=
 auI (Tb:=tab) mixed gJ hf h1 h2 fun a hp=>⟨hc a,h a hp⟩
theorem fR {wc:List Nat} {F:St→(Exit→St→Prop)→Prop} {X:aY} {st:St} {Q:Exit→St→Prop} (n:Nat) (up:Nat→List (Nat×LV)) (uo:Nat→List UO) (inv:Nat→Prop)
   (a:kg st st.no (getAll st (keysOf (up 0))) (dN (up 0))) (b:tZ st st.no (uo 0)) (h0:inv 0)
   (hs:∀k,k≤n∧inv k→vk (iW st (wc++keysOf (up 0)) (allRows st (up 0) (uo 0)) (up k) (uo k) none) fun hd=>F hd fun e st'=>match e with
      | .normal=>∃x',(keysOf (up x')=keysOf (up k)∧dh (uo x')=dh (uo k))∧(af8 st hd st' (wc++keysOf (up 0)) (up x') (uo x')∧st'.k=none)∧(x'≤n∧inv x')∧n-x'<n-k
      | e=>Q e st')
   (h6:distinct (keysOf (up 0))=true∧adR X.nt (keysOf (up 0))=true∧distinct (dh (uo 0))=true∧ac7 X.ro st.no (dh (uo 0))=true∧distinct (allRows st (up 0) (uo 0))=true∧lu X.m (allRows st (up 0) (uo 0))=true:=by exact ⟨rfl,rfl,rfl,rfl,rfl,rfl⟩)
   (hk:st.k=none:=by exact rfl):∃L:mg,match L with
      | .unroll n=>rounds F Q n st
      | .inv L=>alR X F Q st L (wc++keysOf (L.up L.x0)) (allRows st (L.up L.x0) (L.uo L.x0)):=
  ⟨.inv { X:=Nat,up:=up,uo:=uo,inv:=fun k=>k≤n∧inv k,meas:=fun k=>n-k,x0:=0 },⟨⟨h6,a,b⟩,hk⟩,⟨akx _,h0⟩,hs⟩
theorem nX {n:Nat} {st0 hd st:St} {W:List Nat} {up:Nat→List (Nat×LV)} {uo:Nat→List UO} {inv:Nat→Prop} (k:Nat) (s:kg st st0.no (getAll st (keysOf (up (k+1)))) (dN (up (k+1)))) (u:tZ st st0.no (uo (k+1))) (i:inv (k+1))
   (h:k<n:=by omega)
   (a:keysOf (up (k+1))=keysOf (up k):=by exact rfl) (b:dh (uo (k+1))=dh (uo k):=by exact rfl) (c:dropKeys W st.fr=dropKeys W hd.fr:=by exact rfl) (d:dH (yO st.ob hd.ob) st.ob=hd.ob∧aaY st0.no (dh (uo (k+1))) (yO st.ob hd.ob) st.ob=true:=by exact ⟨rfl,rfl⟩)
   (f:distinct (allRows st (up (k+1)) (uo (k+1)))=true∧lu st0.no (allRows st (up (k+1)) (uo (k+1)))=true:=by exact ⟨rfl,rfl⟩)
   (kk:st.k=none:=by exact rfl):∃x',(keysOf (up x')=keysOf (up k)∧dh (uo x')=dh (uo k))∧(af8 st0 hd st W (up x') (uo x')∧st.k=none)∧(x'≤n∧inv x')∧n-x'<n-k:=⟨_,⟨a,b⟩,⟨⟨c,d,f,s,u⟩,kk⟩,⟨h,i⟩,by omega⟩
theorem iX (k n:Nat) {p q:Prop} (hq:q) (h:k<n:=by omega) (hp:p:=by exact rfl):(0≤(k:Int)∧(k:Int)<(n:Int))∧p∧q:=⟨⟨aa1 _,by omega⟩,hp,hq⟩
theorem eN {a p o:Prop} {d:PV} (r:PV) (h:kY d r) (hp:a→p:=by intro _;repeat' (first | exact rfl | exact trivial | exact (fun _=>rfl) | exact (fun _ _=>rfl) | exact nof | refine And.intro ?_ ?_)) (ho:o:=by exact trivial):((a→p)∧kY d r)∧o:=⟨⟨hp,h⟩,ho⟩
theorem eF {p o:Prop} {d:PV} (r:PV) (h:kY d r) (ho:o:=by exact trivial):((false=true→p)∧kY d r)∧o:=⟨⟨nof,h⟩,ho⟩
theorem bL {a b:Int} (p:Prop) {A B:Prop} (h:p→A) (h':¬p→B) (e:a<b↔p:=by omega):oW (decide (a<b)) A B:=ah (aB e) h h'
theorem bG {a b:Int} (p:Prop) {A B:Prop} (h:p→A) (h':¬p→B) (e:a≤b↔p:=by omega):oW (decide (a≤b)) A B:=ah (fZ e) h h'
theorem bE {a b:Int} (p:Prop) {A B:Prop} (h:p→A) (h':¬p→B) (e:a=b↔p:=by omega):oW (a==b) A B:=ah (uT e) h h'
theorem bN {a b:Int} (p:Prop) {A B:Prop} (h:¬p→A) (h':p→B) (e:¬a=b↔¬p:=by omega):oW (a != b) A B:=aX (bK e) h h'
theorem bT {t:Bool} {A B:Prop} (e:t=true) (h:A):oW t A B:=aC e (fun _=>h) fun q=>absurd q (by decide)
theorem bF {t:Bool} {A B:Prop} (e:t=false) (h:B):oW t A B:=aC e (fun q=>absurd q (by decide)) fun _=>h
theorem gI {X:aY} {f:Nat} {args:List SV} {st:St} {K:SV→St→Prop} {S:xR} (hS:rW X.P f S) (a:S.A) (js:List Nat) (hargs:nK st js args (S.args a)) (hobs:qh st js js (S.objs a)) (hpre:S.pre a)
  (hK:K (amu (sF st.no S.fix js (S.objs' a)) (S.res a)) (uY st js S.fix (S.objs' a)))
  (hc:distinct js=true∧lu X.m js=true∧S.fix.ble (S.objs a).length=true∧S.fix.ble (S.objs' a).length=true∧X.nw=true∧(jO args (S.args a)).or (kP st js (S.objs a))=false:=by exact ⟨rfl,rfl,rfl,rfl,rfl,rfl⟩)
  (hg:S.gl=[]∨S.gl=X.gl:=by exact Or.inl rfl):aau X f args st K:=atz hS a js hc hg hargs hobs hpre hK
theorem dR {ops:Array Oper} {K:OT→Prop} (o:OT) (k:K o) (h:afn ops o=true:=by kernel_rfl):∃o,afn ops o=true∧K o:=⟨o,h,k⟩
theorem cK {X:aY} {gr:Bool} {f:Nat} {args:List SV} {dst:Option Nat} {st:St} {K:St→Prop} {S:Spec} (ok:ay X.P f S) (a:S.A) (hA:nK st [] args (S.args a)) (pre:S.pre a)
  (k:match (generalizing:=false) st with
   | ⟨fr,ob,no,k⟩=>aP ⟨fr,mh [] (dH S.ro ([]:List Nat)) (S.objs' a) ob,no,k⟩ dst (.p (S.fresh.and X.nw) (S.res a)) K)
  (c:distinct ([]:List Nat)=true∧(X.nw.or (arL (dH S.ro ([]:List Nat)))).and (lu X.ro (dH S.ro ([]:List Nat)))=true∧([]:List Nat).length=(S.objs a).length∧(S.objs' a).length=(dH S.ro ([]:List Nat)).length∧(gr=true→dH S.ro ([]:List Nat)=[]∨acZ st (dH S.ro ([]:List Nat)) (S.objs' a)):=by exact ⟨rfl,rfl,rfl,rfl,fun _=>Or.inl rfl⟩)
  (l:(jO args (S.args a)).or (kP st [] (S.objs a))=true→S.fresh=true∧dH S.ro ([]:List Nat)=[]:=by first | exact nof | exact fun _=>⟨rfl,rfl⟩) (g:S.gl=[]∨S.gl=X.gl:=by first | exact Or.inl rfl | exact Or.inr rfl) (hO:qh st [] [] (S.objs a):=by exact trivial):afj X gr f args dst st K:=
 ⟨S,ok,a,[],⟨c.1,c.2.1,c.2.2.1,c.2.2.2.1,c.2.2.2.2,l,g⟩,hA,hO,pre,k⟩
end Go.Sx.Pn
namespace Go.Sx.Pe
open Go Go.Proofs Go.Sx.Pn
theorem iE {a b:Int} (h:a=b):a=b:=h
theorem iL {a b:Nat} (h:a≤b):a≤b:=h
theorem iM {n k:Nat} (h:k<n):n-(k+1)<n-k:=by omega
theorem iN {k n:Nat} (h:k<n):(k:Int)<(n:Int):=by omega
theorem a4 {α β γ δ:Type} {a:α} {b:β} {c:γ} {d:δ} {p:Prop} (h:p):a=a∧b=b∧c=c∧d=d∧p:=⟨rfl,rfl,rfl,rfl,h⟩
theorem mxL {n s:Nat} (h:n≤10000000) (hs:s≤10000):n≤maxLen∧n*s≤140737488355328:=⟨by unfold maxLen;omega,aiT (Nat.mul_le_mul h hs) (by decide)⟩
theorem lt1 {p:Nat→Prop} (h:p 0) (k:Nat) (hk:k<1):p k:=by
 obtain rfl:k=0:=by omega
 exact h
def iP (n:Int):PV:=.val (.int .i64 n)
def bP (b:Bool):PV:=.val (.bool b)
def sP (s:List UInt8):PV:=.val (.string (strOf s))
def iA (n:Int):SV:=.p false (.val (.int .i64 n))
def bA (b:Bool):SV:=.p false (.val (.bool b))
def sA (s:List UInt8):SV:=.p false (.val (.string (strOf s)))
def cA (c:UInt8):SV:=.p false (.val (.int .u8 (c.toNat:Int)))
def fD (l:List Int):PV:=.seq l.length (fun k=>[iP (l.getD k 0)])
def kD (l:List Bool):PV:=.seq l.length (fun k=>[bP (l.getD k false)])
def xB (l:List (List UInt8)):PV:=.seq l.length (fun k=>[sP (l.getD k [])])
def isA (l:List Int):SV:=.p false (fD l)
def rX (l:List Bool):SV:=.p false (kD l)
def ssA (l:List (List UInt8)):SV:=.p false (xB l)
def bH {α:Type} (args:α→List SV) (pre:α→Prop) (res:α→PV):Spec:={ A:=α,args:=args,objs:=fun _=>[],pre:=pre,res:=res,objs':=fun _=>[],fresh:=true,ro:=0 }
def bS {α:Type} (args:α→List SV) (pre:α→Prop) (res:α→PV):Spec:={ A:=α,args:=args,objs:=fun _=>[],pre:=pre,res:=res,objs':=fun _=>[],fresh:=false,ro:=0 }
theorem wF {P:Program} {f:Nat} {α:Type} {args:α→List SV} {pre:α→Prop} {res:α→PV} (h:ay P f (bH args pre res)) (a:α) (hp:pre a) {r:PV} (e:res a=r) :
  ay P f (bH (fun _:Unit=>args a) (fun _=>True) (fun _=>r)):=by
 subst e
 exact ⟨h.1,fun _ _ E vs w hg hh hA=>h.2 a hp E vs w hg hh hA⟩
theorem kM {P:Program} {f:Nat} {α:Type} {args:α→List SV} {pre:α→Prop} {res:α→PV} (h:ay P f (bS args pre res)) (a:α) (hp:pre a) {r:PV} (e:res a=r) :
  ay P f (bS (fun _:Unit=>args a) (fun _=>True) (fun _=>r)):=by
 subst e
 exact ⟨h.1,fun _ _ E vs w hg hh hA=>h.2 a hp E vs w hg hh hA⟩
theorem nJ {P:Program} {f:Nat} {S:Spec} (m:S.A→Nat) (h:∀n,ay P f { S with pre:=fun a=>S.pre a∧m a≤n }):ay P f S:=
 ⟨(h 0).1,fun a hp E vs w hg hh hA=>(h (m a)).2 a ⟨hp,abm _⟩ E vs w hg hh hA⟩
theorem aQ {α:Type} {l:List α} {k:Nat} (d:α) (hk:k<l.length):l.take (k+1)=l.take k++[l.getD k d]:=by
 rw[axq,aav hk,aam,aav hk];rfl
theorem bC {α:Type} {l:List α} {k:Nat} (d:α) (h:k<l.length):l[k]?=some (l.getD k d):=by rw[aam,aav h];rfl
structure Ex:Type where
 node ::
 op:Int
 idx:Int
 args:List Ex
mutual
def exC:Ex→List PV
 | .node o i l=>[iP o,iP i,.seq l.length (aah l)]
def aah:List Ex→Nat→List PV
 | [],_=>[]
 | x :: _,0=>exC x
 | _ :: l,k+1=>aah l k
end
def bM:Ex:=.node 0 0 []
def jo (l:List Ex) (k:Nat):List PV:=[iP (l.getD k bM).op,iP (l.getD k bM).idx,.seq (l.getD k bM).args.length (aah (l.getD k bM).args)]
def kC (x:Ex):List PV:=[iP x.op,iP x.idx,.seq x.args.length (jo x.args)]
def qp (x:Ex):PV:=.agg (kC x)
def jB (x:Ex):SV:=.p false (.agg (kC x))
def aeF (l:List Ex):PV:=.seq l.length (jo l)
theorem auA (o i:Int) (l:List Ex):exC (.node o i l)=[iP o,iP i,.seq l.length (aah l)]:=by rw[exC]
theorem aiU:∀(l:List Ex) (k:Nat) (x:Ex),l[k]?=some x→aah l k=exC x
 | [],k,x,h=>by simp at h
 | y :: l,0,x,h=>by simp at h;subst h;rw[aah]
 | y :: l,k+1,x,h=>by rw[aah];exact aiU l k x (by simpa using h)
theorem apF (x:Ex):exC x=[iP x.op,iP x.idx,.seq x.args.length (aah x.args)]:=by cases x;rw[auA]
theorem xA (l:List Ex):∀k,k<l.length→aah l k=jo l k:=fun k hk=>by
 rw[aiU l k _ (aav hk),apF]
 have:l.getD k bM=l[k]:=by rw[aam,aav hk];rfl
 unfold jo;rw[this]
theorem atY (l:List Ex):∀k,k<l.length→jo l k=aah l k:=fun k hk=>(xA l k hk).symm
theorem acd {l:List Ex} {k:Nat} (hk:k<l.length):l[k]?=some (l.getD k bM):=bC bM hk
mutual
def Ex.size:Ex→Nat
 | .node _ _ l=>sizes l+1
def sizes:List Ex→Nat
 | []=>0
 | x :: l=>x.size+sizes l
end
mutual
def Ex.deep:Ex→Nat
 | .node _ _ l=>gN l+1
def gN:List Ex→Nat
 | []=>0
 | x :: l=>max x.deep (gN l)
end
theorem Ex.size_eq (x:Ex):x.size=sizes x.args+1:=by cases x;rw[Ex.size]
theorem Ex.x9 (x:Ex):x.deep=gN x.args+1:=by cases x;rw[Ex.deep]
theorem size_pos (x:Ex):0<x.size:=by rw[x.size_eq];omega
theorem ajk (x:Ex):0<x.deep:=by rw[x.x9];omega
theorem jd:∀{l:List Ex} {x:Ex},x∈l→x.size≤sizes l
 | [],x,h=>by simp at h
 | y :: l,x,h=>by
  rw[sizes]
  rcases ahy.1 h with rfl | h
  ·omega
  ·have:=jd h;omega
theorem acg:∀{l:List Ex} {x:Ex},x∈l→x.deep≤gN l
 | [],x,h=>by simp at h
 | y :: l,x,h=>by
  rw[gN]
  rcases ahy.1 h with rfl | h
  ·omega
  ·have:=acg h;omega
theorem oU:∀(l:List Ex),l.length≤sizes l
 | []=>by simp
 | x :: l=>by rw[sizes];have:=oU l;have:=size_pos x;simp;omega
mutual
def dJ (d:Nat):Ex→List (Nat×Ex)
 | .node o i l=>(d,.node o i l) :: (if d≤16 then iw (d+1) l else [])
def iw (d:Nat):List Ex→List (Nat×Ex)
 | []=>[]
 | x :: l=>dJ d x++iw d l
end
def yP (y:Nat×Ex):List PV:=[iP y.1,qp y.2]
theorem uI (d:Nat):∀(a b:List Ex),iw d (a++b)=iw d a++iw d b
 | [],b=>by rw[iw];rfl
 | x :: a,b=>by rw[List.cons_append,iw,iw,uI d a b,atQ]
def iU (d:Nat) (l:List Ex):List (Nat×Ex):=if d≤16 then iw (d+1) l else []
theorem vD (d:Nat) (o i:Int) (l:List Ex):dJ d (.node o i l)=(d,.node o i l) :: iU d l:=by rw[dJ];rfl
theorem ah9 {d:Nat} (hd:d≤16) {l:List Ex} {k:Nat} {x:Ex} (h:l[k]?=some x):iU d (l.take (k+1))=iU d (l.take k)++dJ (d+1) x:=by
 unfold iU
 rw[if_pos hd,if_pos hd,axq,h,uI]
 show _++iw (d+1) [x]=_
 rw[iw,iw,ao9]
def awO (l:Nat):Ob:=.cells 295 [.p false (.val (.func (.yield l) #[] #[]))]
def aw7:Ob:=.cells 194 [.fn 263 [.own 0 0,.own 1 0]]
def akm (n:Nat):afh:={ A:=Ex×Nat,args:=fun _ y=>[.p true (.agg (kC y.1)),iA y.2,.own 0 0,.own 1 0],objs:=fun l y=>[awO l,aw7],pre:=fun y=>y.1.size≤n∧y.2≤17∧y.1.size≤1000000,ys:=fun y=>(dJ y.2 y.1).map yP }
theorem aoi (d:Nat) (x:Ex):((dJ d x).map yP)[0]?=some (yP (d,x)):=by cases x;rw[vD];rfl
theorem ae0 (d:Nat) (x:Ex):dJ d x=(d,x) :: iU d x.args:=by cases x;rw[vD]
theorem amK {d:Nat} (hd:d≤16) {l:List Ex} {k:Nat} (hk:k<l.length):iU d l=iU d (l.take k)++(dJ (d+1) (l.getD k bM)++iU d (l.drop (k+1))):=by
 have e:l=l.take k++(l.getD k bM :: l.drop (k+1)):=by
  have h1:l.drop k=l[k] :: l.drop (k+1):=axj hk
  have h2:l.getD k bM=l[k]:=by rw[aam,aav hk];rfl
  rw[h2,←h1,axh]
 unfold iU
 rw[if_pos hd,if_pos hd,if_pos hd]
 conv=>lhs;rw[e]
 rw[uI,iw]
theorem aqQ {d:Nat} (hd:d≤16) {x:Ex} {k:Nat} (hk:k<x.args.length) {i:Nat} {v:List PV} (h:((dJ (d+1) (x.args.getD k bM)).map yP)[i]?=some v) :
  ((dJ d x).map yP)[1+(iU d (x.args.take k)).length+i]?=some v:=by
 rw[ae0,amK hd hk,awv,show 1+(iU d (x.args.take k)).length+i=(iU d (x.args.take k)).length+i+1 by omega,anI,aoZ,aex (by simp),ahn,awq,aoZ,al7 (arx.1 h).1]
 exact h
end Go.Sx.Pe
