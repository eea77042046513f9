/- ChartCycles, part 2 of its proof: declarations that the last part uses. -/
import Derived.Test.YteenedbiifampaaGreatDoorY1
set_option maxHeartbeats 1000000
set_option maxRecDepth 4000
set_option linter.unusedSimpArgs false
set_option linter.unusedVariables false
set_option linter.unusedSectionVars false
namespace Go.Sx
open Go
def Src (E:Env) (w:World) (v:Value) (sz m:Nat) (g:Nat→List PV):Prop:=
 (v=.slice none 0 0∧m=0)∨∃(a:Addr) (c:Nat) (news:List Value) (u:Nat→Nat→Value),v=.slice (some a) m c∧news.length=m*sz∧(∀(j:Nat) (x:Value),news[j]?=some x→w.cell? (a.add j)=some x) ∧
  (∀x∈news,x.oneCell'=true)∧(∀j k s,j<m→(g j)[k]?=some s→news[j*sz+k]?=some (u j k)∧(u j k).oneCell'=true)∧(∀j k s,j<m→(g j)[k]?=some s→aL E.mem (u j k) s)
theorem jG {E:Env} {w:World} {i:Nat} {T:TypeId} {sz n:Nat} {f:Nat→List PV} (h:bY E w i (.row T sz n f)) :
  ∃(v:Value) (xs:List Value) (u:Nat→Nat→Value),E.hd i=some v∧w.ownsRow 0 T sz v n xs∧n≤maxLen∧(∀j,j<n→(f j).length=sz) ∧
   (∀j k s,j<n→(f j)[k]?=some s→xs[j*sz+k]?=some (u j k)∧(u j k).oneCell'=true)∧(∀j k s,j<n→(f j)[k]?=some s→aL E.mem (u j k) s):=by
 cases h with | row _ _ _ _ v xs u hh hw hmax hl hc he=>exact ⟨v,xs,u,hh,hw,hmax,hl,hc,he⟩
theorem kY {j k n sz:Nat} (hj:j<n) (hk:k<sz):j*sz+k<n*sz:=by
 have:=ajg sz (show j+1≤n from hj)
 rw[aqW] at this;omega
theorem xM {x n sz : Nat} (h : x < n * sz) : x / sz < n ∧ x % sz < sz ∧ x / sz * sz + x % sz = x := by
  have hs : 0 < sz := by rcases apT sz with rfl | h1; · simp at h
                         · exact h1
  exact ⟨(Nat.div_lt_iff_lt_mul hs).2 h, Nat.mod_lt _ hs, by rw [Nat.mul_comm]; exact Nat.div_add_mod x sz⟩
theorem acr {C:Ctx} {E:Env} {st:St} {w:World} (h:bn C E st w) {e sz:Nat} {x:SV} {m:Nat} {g:Nat→List PV} {j:Option Nat} (hs:akh st e sz x=some (m,g,j)) {v:Value} (hv:aI E v x)
  (hg:∀k,k<m→(g k).length=sz):Src E w v sz m g:=by
 unfold akh at hs
 split at hs
 ·rename_i j0
  split at hs
  ·rename_i e' sz' m' g' hob
   split at hs
   ·rename_i hb
    cases hs
    simp only[afT] at hb
    obtain rfl:=afD hb.1
    obtain rfl:=afD hb.2
    obtain ⟨v0,xs,u,hh,hw,hmax,hl,hc,he⟩:=jG (h.ob _ _ hob)
    cases hv with
    | row _ _ hh2 hsl=>
     rw[hh] at hh2;cases hh2
     rcases hw.2 with ⟨rfl,h0⟩ | ⟨gg,cap,cur,rfl,_,hgg,hnc,hcm,hcs,htake⟩
     ·exact .inl ⟨rfl,h0⟩
     ·refine .inr ⟨⟨gg,0,none⟩,cap,xs,u,rfl,hw.1,hw.cells (g:=gg) rfl,fun x hx=>?_,hc,he⟩
      obtain ⟨q,hq,rfl⟩:=an4 hx
      rw[hw.1] at hq
      obtain ⟨d1,d2,d3⟩:=xM hq
      have hlen:=hl _ d1
      obtain ⟨c1,c2⟩:=hc _ _ _ d1 (abb (by rw[hlen];exact d2))
      rw[d3,abb (by rw[hw.1];exact hq)] at c1
      have c3:=Option.some.inj c1
      rw[c3];exact c2
   ·cases hs
  ·cases hs
 ·rename_i b _ _
  cases hs
  cases hv with
  | p _ _ _ hp=>
   cases hp with
   | nil=>exact .inl ⟨rfl,rfl⟩
   | emp a c=>exact .inr ⟨a,c,[],fun _ _=>undef,rfl,by simp,by simp,by simp,by intro j k s hj;omega,by intro j k s hj;omega⟩
   | seq b' o _ cap sz' _ cs u hm hcap hmax hl hc he=>
    have hsz:∀j,j<m→sz'=sz:=fun j hj=>by rw[←hl j hj,hg j hj]
    obtain ⟨T,fr,hw⟩:=h.mem _ _ (E.dS _ _ _ hm)
    have hcell:∀x,x<m*sz→∃s:PV,(g (x / sz))[x % sz]?=some s∧cs[o+x]?=some (u (x / sz) (x % sz))∧(u (x / sz) (x % sz)).oneCell'=true:=by
     intro x hx
     obtain ⟨d1,d2,d3⟩:=xM hx
     have:=hsz _ d1;subst this
     have e1:(g (x / sz'))[x % sz']?=some ((g (x / sz'))[x % sz']'(by rw[hl _ d1];exact d2)):=abb _
     obtain ⟨c1,c2⟩:=hc _ _ _ d1 e1
     rw[d3] at c1
     exact ⟨_,e1,c1,c2⟩
    refine .inr ⟨⟨b',o,none⟩,cap,(List.range (m*sz)).map fun x=>u (x / sz) (x % sz),u,rfl,by simp,fun j x hx=>?_,fun x hx=>?_,fun j k s hj hs=>?_,fun j k s hj hs=>(he j k s hj hs).mono (E.dS _)⟩
    ·simp only[ais] at hx
     by_cases hj:j<m*sz
     ·rw[asR hj] at hx
      simp only[alC,Option.some.injEq] at hx
      obtain ⟨s,_,c1,_⟩:=hcell j hj
      rw[Addr.add_lit]
      simp[World.cell?,hw]
      rw[←hx];exact c1
     ·rw[aqY (by simpa using hj)] at hx;cases hx
    ·obtain ⟨y,hy,rfl⟩:=aq4.1 hx
     obtain ⟨s,_,_,c2⟩:=hcell y (by simpa using hy)
     exact c2
    ·have hk:k<sz:=by rw[←hg j hj];exact (abd.1 hs).1
     have hlt:=kY hj hk
     have hd1:(j*sz+k) / sz=j:=by rw[Nat.mul_comm,Nat.mul_add_div (by omega),Nat.div_eq_of_lt hk];omega
     have hd2:(j*sz+k) % sz=k:=by rw[Nat.mul_comm,Nat.mul_add_mod,asw hk]
     refine ⟨by simp only[ais];rw[asR hlt];simp[hd1,hd2],(hc j k s hj hs).2⟩
 ·cases hs
  exact .inl ⟨hv.aJ,rfl⟩
 ·cases hs
def nW (e:Nat) (w w':World):Prop:=w.heap.size≤w'.heap.size∧∀b,b<w.heap.size→(∀cs fr,w.heap[b]?≠some (.cells cs e fr))→w'.heap[b]?=w.heap[b]?
def elemOf (Tb:Tab) (t:Nat):Option Nat:=match look Tb t with
 | some ⟨.slice e,_,_,_⟩=>some e
 | _=>none
theorem xQ {C:Ctx} {E:Env} {st:St} {a:Act} {w:World} (h:ay C E st a w) {X:bq} (hnt:C.nt=X.nt) {d:Option Nat} (hd:bN X.nt d=true)
  {e sz:Nat}
  {m:Nat} {g:Nat→List PV} {vs:Value}
  {n:Nat} {f:Nat→List PV} {xs:List Value} {u:Nat→Nat→Value} (hown:w.ownsRow 0 e (sz+1) vs n xs)
  (hl:∀j,j<n→(f j).length=sz+1) (hc:∀j k s,j<n→(f j)[k]?=some s→xs[j*(sz+1)+k]?=some (u j k)∧(u j k).oneCell'=true) (he:∀j k s,j<n→(f j)[k]?=some s→aL E.mem (u j k) s)
  (hgl:∀k,k<m→(g k).length=sz+1) (hmax:n+m≤maxLen)
  {st1:St} (hfr:st1.fr=st.fr) (hno:st1.no=st.no) (hkk:st1.k=st.k) (hold:∀k o,st1.obj k=some o→st.obj k=some o)
  (hgone:∀b,vs.ownBlock=some b→∃j o',C.m≤j∧st.obj j=some o'∧st1.obj j=none∧E.blk j=some b)
  {K:St→Prop} (hk:aN (st1.alloc (.row e (sz+1) (n+m) (bJ n f g))) d (.row st1.no) K) {next:Act→World→Prop}
  (hn:∀st' E' a' w',K st'→ay C E' st' a' w'→nW e w w'→next a' w')
  {v':Value} {w':World} {news:List Value} {u':Nat→Nat→Value} (hown':w'.ownsRow 0 e (sz+1) v' (n+m) (xs++news)) (hgrow:w.grownBy w' vs.ownBlock) (hsl:tO v'=true)
  (hblk:∀b,aF v'=some b→w.heap.size≤b∨vs.ownBlock=some b) (hnl:news.length=m*(sz+1)) (hnc:∀j k s,j<m→(g j)[k]?=some s→news[j*(sz+1)+k]?=some (u' j k)∧(u' j k).oneCell'=true) (hne:∀j k s,j<m→(g j)[k]?=some s→aL E.mem (u' j k) s) :
  next (a.put d v') w':=by
 have hle:=Env.tQ (v:=v') (h.heap.new st.no (afM _))
 have get:∀k,(st1.alloc (.row e (sz+1) (n+m) (bJ n f g))).obj k=if st1.no=k then some (.row e (sz+1) (n+m) (bJ n f g)) else st1.obj k:=fun k=>kK st1.fr st1.ob st1.no _ _ _ _
 have hnone:∀j o,st.obj j=some o→j≠st.no:=fun j o ho e=>by have:=h.heap.lt ho;omega
 have hkeep:∀k,k<w.heap.size→w'.heap[k]?=w.heap[k]?∨(∃j o',C.m≤j∧st.obj j=some o'∧(st1.alloc (.row e (sz+1) (n+m) (bJ n f g))).obj j=none∧E.blk j=some k):=by
  intro k hk
  by_cases hv:vs.ownBlock=some k
  ·obtain ⟨j,o',h0,h1,h2,h3⟩:=hgone k hv
   refine .inr ⟨j,o',h0,h1,?_,h3⟩
   rw[get,hno,if_neg (fun e=>hnone j o' h1 e.symm)];exact h2
  ·exact .inl (hgrow.block k hk (fun e=>hv e.symm))
 have hh:bn C (E.add st.no v') (st1.alloc (.row e (sz+1) (n+m) (bJ n f g))) w':=by
  refine h.heap.step (o:=.row e (sz+1) (n+m) (bJ n f g)) (afM _) (by rw[←hno];simp[St.alloc]) hkk (by rw[get,hno,if_pos rfl]) (fun k o' hk ho=>?_) ?_ hgrow.os hgrow.tape hgrow.output hgrow.size hkeep (fun b hb=>?_)
  ·rw[get,hno,if_neg (fun e=>hk e.symm)] at ho
   exact hold k o' ho
  ·refine .row e (sz+1) (n+m) _ v' (xs++news) (fun j k=>if j<n then u j k else u' (j-n) k) (E.kS _ _) hown' hmax (fun j hj=>?_) (fun j k s hj hs=>?_) (fun j k s hj hs=>?_)
   ·by_cases hjn:j<n
    ·rw[qo f g hjn];exact hl j hjn
    ·rw[pV f g (by omega)];exact hgl _ (by omega)
   ·by_cases hjn:j<n
    ·rw[qo f g hjn] at hs
     rw[if_pos hjn]
     have hk1:k<sz+1:=by rw[←hl j hjn];exact (abd.1 hs).1
     rw[aeM (by rw[hown.1];exact kY hjn hk1)]
     exact hc j k s hjn hs
    ·rw[pV f g (by omega)] at hs
     rw[if_neg hjn]
     have:=hnc (j-n) k s (by omega) hs
     refine ⟨?_,this.2⟩
     have hmul:n*(sz+1)+(j-n)*(sz+1)=j*(sz+1):=by rw[←arM];congr 1;omega
     rw[afK (by rw[hown.1];omega),hown.1,show j*(sz+1)+k-n*(sz+1)=(j-n)*(sz+1)+k by omega]
     exact this.1
   ·by_cases hjn:j<n
    ·rw[qo f g hjn] at hs
     simp only[if_pos hjn]
     exact (he j k s hjn hs).mono hle.mem
    ·rw[pV f g (by omega)] at hs
     simp only[if_neg hjn]
     exact (hne (j-n) k s (by omega) hs).mono hle.mem
  ·rcases hblk b hb with h1 | h1
   ·exact .inl h1
   ·obtain ⟨j,o',h0,h2,h3,h4⟩:=hgone b h1
    refine .inr ⟨j,o',h0,h2,?_,h4⟩
    rw[get,hno,if_neg (fun e=>hnone j o' h2 e.symm)];exact h3
 have hnc:gM w w':=by
  intro D o ho hc
  have hD:=(acn.1 ho).1
  rw[hgrow.block D hD (fun e=>?_)];exact ho
  rcases hown.2 with ⟨rfl,_⟩ | ⟨g,cap,cur,rfl,_,hg,_⟩
  ·simp[Value.ownBlock] at e
  ·simp[Value.ownBlock] at e;subst e;rw[hg] at ho;cases ho;cases hc
 have hge:nW e w w':=by
  refine ⟨hgrow.size,fun b hb hne=>hgrow.block b hb fun eb=>?_⟩
  rcases hown.2 with ⟨rfl,_⟩ | ⟨g,cap,cur,rfl,_,hg,_⟩
  ·simp[Value.ownBlock] at eb
  ·simp[Value.ownBlock] at eb;subst eb;exact hne _ _ hg
 exact dB (next:=fun a2 w2=>next a2 w2) (h.fC (st':=st1.alloc _) hle (by simp[St.alloc,hfr]) hh ⟨rfl,rfl⟩ hnc) hnt hd hk (.row _ _ (by rw[hno];exact E.kS _ _) hsl) fun st2 E2 a2 w2 hk2 h2 hw2=>hn st2 E2 a2 w2 hk2 h2 (hw2▸hge)
theorem acG {C:Ctx} {E:Env} {st:St} {a:Act} {w:World} (h:ay C E st a w) {X:bq} (hTb:X.Tb.Ok X.P) (hnt:C.nt=X.nt) {d:Option Nat} (hd:bN X.nt d=true)
  {t e sz:Nat} {d1:Nat} {b1:Nat} {z1:List Value} {d2:TD} {by_:Nat} {z2:List Value} (ht:look X.Tb t=some ⟨.slice e,d1,b1,z1⟩) (hie:look X.Tb e=some ⟨d2,sz+1,by_,z2⟩)
  {m:Nat} {g:Nat→List PV} {vs vx:Value} (hsrc:Src E w vx (sz+1) m g)
  {n:Nat} {f:Nat→List PV} {xs:List Value} {u:Nat→Nat→Value} (hown:w.ownsRow 0 e (sz+1) vs n xs)
  (hl:∀j,j<n→(f j).length=sz+1) (hc:∀j k s,j<n→(f j)[k]?=some s→xs[j*(sz+1)+k]?=some (u j k)∧(u j k).oneCell'=true) (he:∀j k s,j<n→(f j)[k]?=some s→aL E.mem (u j k) s)
  (hgl:∀k,k<m→(g k).length=sz+1) (hmax:n+m≤maxLen) (hby:(n+m)*by_≤140737488355328)
  {st1:St} (hfr:st1.fr=st.fr) (hno:st1.no=st.no) (hkk:st1.k=st.k) (hold:∀k o,st1.obj k=some o→st.obj k=some o)
  (hgone:∀b,vs.ownBlock=some b→∃j o',C.m≤j∧st.obj j=some o'∧st1.obj j=none∧E.blk j=some b)
  {K:St→Prop} (hk:aN (st1.alloc (.row e (sz+1) (n+m) (bJ n f g))) d (.row st1.no) K) {next:Act→World→Prop}
  (hn:∀st' E' a' w',K st'→ay C E' st' a' w'→nW e w w'→next a' w') (ty:Nat) :
  ∃v' w',(Builtin.append_ #[t,t] ty #[vs,vx]).run X.P w=.ok v' w'∧next (a.put d v') w':=by
 have hu:X.P.underlying t=some (.slice e):=(hTb _ _ ht).desc
 obtain ⟨I,zz,hI,hz,hs,hzs,_⟩:=(hTb _ _ hie).lK E
 obtain ⟨I',hI',_,hb',_⟩:=(hTb _ _ hie).info
 rw[hI] at hI';cases hI'
 simp only at hs hzs hb'
 -- the run
 obtain ⟨v',w',news,u',hrun,hown',hgrow,hsl,hblk,hnl,hnc,hne⟩:∃(v':Value) (w':World) (news:List Value) (u':Nat→Nat→Value),(Builtin.append_ #[t,t] ty #[vs,vx]).run X.P w=.ok v' w'∧w'.ownsRow 0 e (sz+1) v' (n+m) (xs++news)∧w.grownBy w' vs.ownBlock∧tO v'=true ∧
   (∀b,aF v'=some b→w.heap.size≤b∨vs.ownBlock=some b)∧news.length=m*(sz+1)∧(∀j k s,j<m→(g j)[k]?=some s→news[j*(sz+1)+k]?=some (u' j k)∧(u' j k).oneCell'=true)∧(∀j k s,j<m→(g j)[k]?=some s→aL E.mem (u' j k) s):=by
  rcases hsrc with ⟨rfl,rfl⟩ | ⟨ad,c,news,u',rfl,hnl,hnews,h1,hnc,hne⟩
  ·have hr:=run_append_owned_none (P:=X.P) w 0 t ty e I (sz+1) hu hI vs n xs hown
   have hsl:tO vs=true:=by rcases hown.2 with ⟨rfl,_⟩ | ⟨g,cap,cur,rfl,_⟩<;>rfl
   exact ⟨vs,w,[],fun _ _=>undef,hr,by simpa using hown,⟨rfl,rfl,rfl,afM _,fun _ _ _=>rfl⟩,hsl,fun b hb=>.inr (by rw[←oq vs hsl];exact hb),by simp,by intro j k s hj;omega,by intro j k s hj;omega⟩
  ·obtain ⟨v',w',h2,h3,h4,h5,h6⟩:=ajY (P:=X.P) (w:=w) t ty e I zz (sz+1) by_ hu hI hz hs hb' hzs (by omega) vs n xs hown ad m c news hnl hnews h1 hmax hby
   exact ⟨v',w',news,u',h2,h3,h4,h5,h6,hnl,hnc,hne⟩
 exact ⟨v',w',hrun,xQ h hnt hd hown hl hc he hgl hmax hfr hno hkk hold hgone hk hn hown' hgrow hsl hblk hnl hnc hne⟩
theorem vI {P:Program} {w:World} (t u ty e:TypeId) (i:TypeInfo) (ht:P.underlying t=some (.slice e)) (hu:P.underlying u=some .string) (hi:P.info? e=some i) (hz:i.zero=some (.int .u8 0))
  (hsize:i.size=1) (hby:i.bytes=1) (v:Value) (n:Nat) (xs:List Value) (hown:w.ownsRow 0 e 1 v n xs) (s:ByteArray) (h63:n+s.size≤maxLen) (hbytes:n+s.size≤140737488355328) :
  ∃v' w',(Builtin.append_ #[t,u] ty #[v,.string s]).run P w=.ok v' w'∧w'.ownsRow 0 e 1 v' (n+s.size) (xs++Lib.strCells s)∧w.grownBy w' v.ownBlock∧tO v'=true ∧
   (∀b,aF v'=some b→w.heap.size≤b∨v.ownBlock=some b):=by
 obtain ⟨v',w',hr,ho,hg,_⟩:=Lib.run_append_own_string (P:=P) w 0 t u ty e i ht hu hi hz hsize hby v n xs hown s h63 hbytes (ae4 _)
 have hsl:tO v'=true:=by
  rcases ho.2 with ⟨rfl,_⟩ | ⟨g,cap,cur,rfl,_⟩<;>rfl
 refine ⟨v',w',hr,ho,hg,hsl,?_⟩
 rcases hown.2 with ⟨rfl,rfl⟩ | ⟨g,cap,cur,rfl,_,hgg,hnc,hcm,hcs,htake⟩
 ·obtain ⟨v2,w2,hr2,ho2,_,_⟩:=Lib.run_append_own_string (P:=P) w w.heap.size t u ty e i ht hu hi hz hsize hby (.slice none 0 0) 0 [] (World.ownsRow_nil w w.heap.size e 1) s h63 hbytes (afM _)
  rw[hr2] at hr;cases hr
  intro b hb
  rcases ho2.2 with ⟨rfl,_⟩ | ⟨g,cap,cur,rfl,hge,_⟩
  ·simp[aF] at hb
  ·simp[aF] at hb;subst hb;exact .inl hge
 ·by_cases hroom:n+s.size≤cap
  ·have hr2:=Lib.run_append_room_string (P:=P) w t u ty e i ht hu hi hsize g n cap cur hgg s hroom (by omega)
   rw[hr2] at hr;cases hr
   intro b hb;simp[aF] at hb;right;simp[Value.ownBlock,hb]
  ·have holds:∀j x,xs[j]?=some x→w.cell? ((⟨g,0,none⟩:Addr).add j)=some x:=hown.cells (g:=g) rfl
   have hr2:=Lib.run_append_grow_string (P:=P) w t u ty e i _ ht hu hi hz ⟨g,0,none⟩ n cap xs (by rw[hsize];exact hown.1) holds s (by omega) (by simp only[maxLen] at h63;omega) (growslice_fits (by omega) (by rw[hby];omega))
   rw[hr2] at hr;cases hr
   intro b hb;simp[aF] at hb;left;omega
def Env.fE (E:Env) (b:Nat) (cs:Array Value):Env:={ E with mem:=fun k=>if k=b then some cs else E.mem k }
theorem bn.acL {C:Ctx} {E:Env} {st:St} {w w':World} (h:bn C E st w) {cs:Array Value} {T:TypeId} {fr:Nat×Nat} (hb:w'.heap[w.heap.size]?=some (.cells cs T fr))
  (hos:w'.os=w.os) (htape:w'.tape=w.tape) (hout:w'.output=w.output) (hsz:w.heap.size≤w'.heap.size) (hkeep:∀k,k<w.heap.size→w'.heap[k]?=w.heap[k]?) :
  bn C (E.fE w.heap.size cs) st w'∧E.Le (E.fE w.heap.size cs):=by
 have hle:E.Le (E.fE w.heap.size cs):=⟨fun _ _ x=>x,fun b c hc=>by
  have:=h.lQ hc
  simp only[Env.fE]
  rw[if_neg (by omega)];exact hc,rfl⟩
 have blk:∀i,(E.fE w.heap.size cs).blk i=E.blk i:=fun _=>rfl
 have new:∀{b c},(E.fE w.heap.size cs).mem b=some c→(b=w.heap.size∧c=cs)∨E.mem b=some c:=by
  intro b c hc
  simp only[Env.fE] at hc
  by_cases e:b=w.heap.size
  ·rw[if_pos e] at hc;exact .inl ⟨e,(Option.some.inj hc).symm⟩
  ·rw[if_neg e] at hc;exact .inr hc
 refine ⟨⟨fun i o ho=>((h.ob i o ho).mono hle).world fun b hbk=>hkeep b ((h.ob i o ho).fK hbk),h.sep,fun i o b ho hbk=>?_,fun b c hc=>?_,fun b c hc=>hle.mem b c (h.mem0 b c hc),fun b c hc=>?_,h.new,h.base,?_,h.hd0,h.mno,h.mkh,h.kk⟩,hle⟩
 ·obtain ⟨g1,g2⟩:=h.own i o b ho hbk
  refine ⟨?_,g2⟩
  have hlt:=(h.ob i o ho).fK hbk
  simp only[Env.fE]
  rw[if_neg (by omega)];exact g1
 ·rcases new hc with ⟨rfl,rfl⟩ | h1
  ·exact ⟨T,fr,hb⟩
  ·obtain ⟨T',fr',hw⟩:=h.mem b c h1
   exact ⟨T',fr',(hkeep b (h.lQ h1)).trans hw⟩
 ·rcases new hc with ⟨rfl,rfl⟩ | h1
  ·exact .inr ⟨aiK h.fr.bsz h.fr.wsz,.inl h.fr.wsz⟩
  ·exact h.memnew b c h1
 ·exact ⟨hos.trans h.fr.os,htape.trans h.fr.tape,hout.trans h.fr.output,h.fr.bsz,aiK h.fr.wsz hsz,h.fr.wos,h.fr.isz,fun k hk hI=>by rw[hkeep k (aky hk h.fr.wsz)];exact h.fr.block k hk hI,h.fr.sync⟩
theorem ahS {C:Ctx} {E:Env} {st:St} {a:Act} {w:World} (h:ay C E st a w) {X:bq} (hTb:X.Tb.Ok X.P) (hnt:C.nt=X.nt) {d:Option Nat} (hd:bN X.nt d=true)
  {t e sz:Nat} {d1:Nat} {b1:Nat} {z1:List Value} {d2:TD} {by_:Nat} {z2:List Value} (ht:look X.Tb t=some ⟨.slice e,d1,b1,z1⟩) (hie:look X.Tb e=some ⟨d2,sz+1,by_,z2⟩)
  {m:Nat} {g:Nat→List PV} {vx:Value} (hsrc:Src E w vx (sz+1) m g)
  {n:Nat} {f:Nat→List PV} {ad:Option Addr} (hold:Src E w (.slice ad n n) (sz+1) n f)
  (hfl:∀k,k<n→(f k).length=sz+1) (hgl:∀k,k<m→(g k).length=sz+1) (hm0:0<m) (hmax:n+m≤maxLen) (hby:(n+m)*by_≤140737488355328)
  {K:St→Prop} (hk:aN st d (.p false (.seq (n+m) (bJ n f g))) K) {next:Act→World→Prop}
  (hn:∀st' E' a' w',K st'→ay C E' st' a' w'→nW e w w'→next a' w') (ty:Nat) :
  ∃v' w',(Builtin.append_ #[t,t] ty #[.slice ad n n,vx]).run X.P w=.ok v' w'∧next (a.put d v') w':=by
 have hu:X.P.underlying t=some (.slice e):=(hTb _ _ ht).desc
 obtain ⟨I,zz,hI,hz,hs,hzs,_⟩:=(hTb _ _ hie).lK E
 obtain ⟨I',hI',_,hb',_⟩:=(hTb _ _ hie).info
 rw[hI] at hI';cases hI'
 simp only at hs hzs hb'
 have hmx:n+m≤9223372036854775807:=hmax
 rcases hsrc with ⟨_,h0⟩ | ⟨ax,c,news,u',rfl,hnl,hnews,h1,hnc,hne⟩
 ·omega
 obtain ⟨olds,u,cap,w',hrun,hol,hoc,hoe,hw'⟩:∃(olds:List Value) (u:Nat→Nat→Value) (cap:Nat) (w':World),
   (Builtin.append_ #[t,t] ty #[.slice ad n n,.slice (some ax) m c]).run X.P w=.ok (.slice (some ⟨w.heap.size,0,none⟩) (n+m) cap) w'∧olds.length=n*(sz+1) ∧
   (∀j k s,j<n→(f j)[k]?=some s→olds[j*(sz+1)+k]?=some (u j k)∧(u j k).oneCell'=true)∧(∀j k s,j<n→(f j)[k]?=some s→aL E.mem (u j k) s) ∧
   (n+m≤cap∧∃zs fr,w'=w.drew.alloc (.cells (olds.toArray++news.toArray++zs) e fr)):=by
  rcases hold with ⟨e1,h0⟩ | ⟨ao,c',olds,u,e1,hol,holds,ho1,hoc,hoe⟩
  ·cases e1
   have hr:=run_append_nil (P:=X.P) w t ty e I zz hu hI hz ax m c news (by rw[hs];exact hnl) hnews hm0 (by omega) (by rw[hb'];have:(0+m)*by_≤140737488355328:=hby;rw[agC] at this;omega)
   have e0:0+m=m:=agC m
   refine ⟨[],fun _ _=>undef,_,_,(show _=Result.ok (Value.slice (some ⟨w.heap.size,0,none⟩) (0+m) _) _ by rw[e0];exact hr),by simp,by intro j k s hj;omega,by intro j k s hj;omega,?_⟩
   exact ⟨by rw[e0];exact grownCap_ge w m 0 e,Builtin.zeroCells zz.cells (grownCap w m 0 e-m),(0,0),by rw[show ([]:List Value).toArray++news.toArray=news.toArray by simp]⟩
  ·cases e1
   have hcov:olds.length=n*I.size:=by rw[hs];exact hol
   refine ⟨olds,u,_,_,run_append_grow (P:=X.P) w t ty e I zz hu hI hz ao n n olds hcov holds ax m c news (by rw[hs];exact hnl) hnews (by omega) (by omega) (growslice_fits (by omega) (by rw[hb'];exact hby)),hol,hoc,hoe,grownCap_ge w (n+m) n e,_,_,rfl⟩
 obtain ⟨hcap,zs,fr,rfl⟩:=hw'
 refine ⟨_,_,hrun,?_⟩
 generalize hcs:olds.toArray++news.toArray++zs=cs
 have hnew:(w.drew.alloc (.cells cs e fr)).heap[w.heap.size]?=some (.cells cs e fr):=by
  show (w.heap.push _)[w.heap.size]?=_
  simp
 have hkeep:∀k,k<w.heap.size→(w.drew.alloc (.cells cs e fr)).heap[k]?=w.heap[k]?:=fun k hk=>RowKit.Below.heap_alloc w.drew _ k hk
 obtain ⟨hh,hle⟩:=h.heap.acL hnew rfl rfl rfl (by show w.heap.size≤(w.heap.push _).size;simp) hkeep
 have hM:=h.fC (st':=st) hle rfl hh ⟨rfl,rfl⟩ (gW w.drew _)
 have hget:∀x,x<n*(sz+1)→cs[x]?=olds[x]?:=fun x hx=>by
  rw[←hcs,Array.append_assoc,alA (by simp[hol];exact hx)];simp
 have hget2:∀x,x<m*(sz+1)→cs[n*(sz+1)+x]?=news[x]?:=fun x hx=>by
  rw[←hcs,alA (by simp[hol,hnl];omega),arQ (by simp[hol])];simp[hol]
 refine dB hM hnt hd hk (.p false _ _ (.seq w.heap.size 0 (n+m) cap (sz+1) _ cs (fun j k=>if j<n then u j k else u' (j-n) k) ?_ hcap hmax (fun j hj=>?_) (fun j k s hj hs=>?_) (fun j k s hj hs=>?_))) fun st2 E2 a2 w2 hk2 h2 hw2=>hn st2 E2 a2 w2 hk2 h2 (hw2▸⟨by show w.heap.size≤(w.heap.push _).size;simp,fun b hb _=>hkeep b hb⟩)
 ·show (E.fE w.heap.size cs).mem w.heap.size=some cs
  simp[Env.fE]
 ·by_cases hjn:j<n
  ·rw[qo f g hjn];exact hfl j hjn
  ·rw[pV f g (by omega)];exact hgl _ (by omega)
 ·rw[agC]
  by_cases hjn:j<n
  ·rw[qo f g hjn] at hs
   rw[if_pos hjn]
   have hk1:k<sz+1:=by rw[←hfl j hjn];exact (abd.1 hs).1
   rw[hget _ (kY hjn hk1)]
   exact hoc j k s hjn hs
  ·rw[pV f g (by omega)] at hs
   rw[if_neg hjn]
   have:=hnc (j-n) k s (by omega) hs
   have hk1:k<sz+1:=by rw[←hgl (j-n) (by omega)];exact (abd.1 hs).1
   have hmul:n*(sz+1)+(j-n)*(sz+1)=j*(sz+1):=by rw[←arM];congr 1;omega
   rw[show j*(sz+1)+k=n*(sz+1)+((j-n)*(sz+1)+k) by omega,hget2 _ (kY (by omega) hk1)]
   exact this
 ·by_cases hjn:j<n
  ·rw[qo f g hjn] at hs
   simp only[if_pos hjn]
   exact (hoe j k s hjn hs).mono hle.mem
  ·rw[pV f g (by omega)] at hs
   simp only[if_neg hjn]
   exact (hne (j-n) k s (by omega) hs).mono hle.mem
theorem ad8 {C:Ctx} {E:Env} {st:St} {a:Act} {w:World} (h:ay C E st a w) {X:bq} (hTb:X.Tb.Ok X.P) (hnt:C.nt=X.nt) (hro:C.ro=X.ro) {d:Option Nat} (hd:bN X.nt d=true)
  {t e sz:Nat} {d1:Nat} {b1:Nat} {z1:List Value} {d2:TD} {by_:Nat} {z2:List Value} (ht:look X.Tb t=some ⟨.slice e,d1,b1,z1⟩) (hie:look X.Tb e=some ⟨d2,sz+1,by_,z2⟩)
  {s x:SV} {vs vx:Value} (hs:aI E vs s) (hx:aI E vx x) {K:St→Prop} (hk:abX X e (sz+1) s x d st K) {next:Act→World→Prop}
  (hn:∀st' E' a' w',K st'→ay C E' st' a' w'→nW e w w'→next a' w') (ty:Nat) :
  ∃v' w',(Builtin.append_ #[t,t] ty #[vs,vx]).run X.P w=.ok v' w'∧next (a.put d v') w':=by
 unfold abX at hk
 split at hk
 ·rename_i i sz' n j sz'' lo m
  split at hk
  ·rename_i e' sz3 N f hble hob
   split at hk
   ·rename_i hbe
    simp only[afT] at hble hbe
    obtain ⟨⟨b1,b2⟩,b3,b4⟩:=hble
    obtain rfl:=afD b1
    obtain rfl:=afD b3
    obtain rfl:=afD b4
    obtain rfl:=afD hbe.1
    obtain rfl:=afD hbe.2
    have hri:C.ro≤i:=by rw[hro];exact ag2 b2
    obtain ⟨⟨k1,k2,k3⟩,hk⟩:=hk
    have hu:X.P.underlying t=some (.slice e'):=(hTb _ _ ht).desc
    obtain ⟨I,hI,hIs,_⟩:=(hTb _ _ hie).info
    simp only at hIs
    cases hs with
    | sub _ _ _ _ b n' cap c ad hh hle hc hr ha=>
    cases hx with
    | sub _ _ _ _ b2 n2 cap2 c2 ad2 hh2 hle2 hc2 hr2 ha2=>
    rw[hh] at hh2
    obtain ⟨⟨rfl,_⟩,rfl,rfl⟩:(b=b2∧True)∧n'=n2∧cap=cap2:=by
     have:=Option.some.inj hh2
     simp only[Value.slice.injEq,Option.some.injEq,Addr.mk.injEq] at this
     exact ⟨⟨this.1.1,trivial⟩,this.2.1,this.2.2⟩
    obtain ⟨rfl,cur,u,hR⟩:=(h.heap.ob i _ hob).jL hh
    obtain rfl:=ha (by omega)
    have hcn:=hR.hn
    have hcs:=hR.size
    have hNs:n'*(sz+1)≤cur.size:=by rw[hcs];exact ajg _ hcn
    have hlm:(lo+m)*(sz+1)≤n'*(sz+1):=ajg _ k2
    have hnm:(n+m)*(sz+1)≤n'*(sz+1):=ajg _ k1
    rw[arM] at hlm hnm
    obtain ⟨news,hnews⟩:∃news,news=(cur.toList.drop (lo*(sz+1))).take (m*(sz+1)):=⟨_,rfl⟩
    have hnl:news.length=m*(sz+1):=by
     rw[hnews,aik,aql,aku];omega
    have hng:∀q,q<m*(sz+1)→news[q]?=cur[lo*(sz+1)+q]?:=fun q hq=>by
     rw[hnews,ai3,if_pos hq,apP,aeD]
    have hone:∀q,q<n'*(sz+1)→∃v,cur[q]?=some v∧v.oneCell'=true:=fun q hq=>by
     obtain ⟨q1,q2,q3⟩:=xM hq
     have hl:=hR.hl _ q1
     obtain ⟨s,hs⟩:∃s,(f (q / (sz+1)))[q % (sz+1)]?=some s:=⟨_,abb (by omega)⟩
     have:=hR.hc _ _ s q1 hs
     rw[q3] at this
     exact ⟨_,this.1,this.2⟩
    have hrun:=run_append_room (P:=X.P) w t ty e' I hu hI b n c cur hR.heap ad2 m c2 news (by rw[hIs];exact hnl)
     (fun q v hq=>by
      have hql:q<m*(sz+1):=by rw[←hnl];exact (abd.1 hq).1
      have hm0:0<m:=atz fun e=>by rw[e,Nat.zero_mul] at hql;omega
      obtain rfl:=ha2 (by omega)
      rw[hng q hql] at hq
      simp only[World.cell?,Addr.add_lit,hR.heap]
      exact hq)
     (fun v hv=>by
      obtain ⟨q,hq⟩:=aqE hv
      have hql:q<m*(sz+1):=by rw[←hnl];exact (abd.1 hq).1
      rw[hng q hql] at hq
      obtain ⟨v',h1,h2⟩:=hone (lo*(sz+1)+q) (by omega)
      rw[h1] at hq;cases hq;exact h2)
     (by omega) (by rw[hIs,hnl];omega)
    rw[hIs] at hrun
    generalize hcs':(cur.toList.take (n*(sz+1))++news++cur.toList.drop (n*(sz+1)+news.length)).toArray=vs' at hrun
    have hvs':vs'.size=cur.size:=by
     rw[←hcs'];simp only[asL,aas,aik,aql,hnl,aku];omega
    have hat:∀q,vs'[q]?=if n*(sz+1)≤q∧q<n*(sz+1)+m*(sz+1) then cur[lo*(sz+1)+(q-n*(sz+1))]? else cur[q]?:=by
     intro q
     have hl1:(cur.toList.take (n*(sz+1))).length=n*(sz+1):=by rw[aik,aku];omega
     rw[←hcs']
     simp only[asD]
     by_cases hin:n*(sz+1)≤q∧q<n*(sz+1)+m*(sz+1)
     ·rw[if_pos hin,aeM (by rw[aas,hl1,hnl];omega),afK (by omega),hl1,hng _ (by omega)]
     ·rw[if_neg hin]
      by_cases hlt:q<n*(sz+1)
      ·rw[aeM (by rw[aas,hl1];omega),aeM (by omega),ai3,if_pos hlt,aeD]
      ·rw[afK (by rw[aas,hl1,hnl];omega),aas,hl1,hnl,apP,show n*(sz+1)+m*(sz+1)+(q-(n*(sz+1)+m*(sz+1)))=q by omega,aeD]
    have flen:∀j,j<n'→(ovl n lo m f j).length=sz+1:=by
     intro j hj
     unfold ovl
     split
     ·exact hR.hl _ (by omega)
     ·exact hR.hl _ hj
    have cellOf:∀j k s,j<n'→(ovl n lo m f j)[k]?=some s→∃v,vs'[j*(sz+1)+k]?=some v∧v.oneCell'=true∧aL E.mem v s:=by
     intro j k s hj hs
     have hks:k<sz+1:=by rw[←flen j hj];exact (abd.1 hs).1
     unfold ovl at hs
     rw[hat]
     by_cases hin:n≤j∧j<n+m
     ·rw[if_pos hin] at hs
      obtain ⟨q,rfl⟩:∃q,j=n+q:=⟨j-n,by omega⟩
      have hq:=kY (show q<m by omega) hks
      have e3:(n+q)*(sz+1)+k=n*(sz+1)+(q*(sz+1)+k):=by rw[arM];omega
      rw[e3,if_pos (by omega),asr]
      rw[asr] at hs
      have g1:=hR.hc (lo+q) k s (by omega) hs
      have g2:=hR.he (lo+q) k s (by omega) hs
      rw[arM,asO] at g1
      exact ⟨_,g1.1,g1.2,g2⟩
     ·rw[if_neg hin] at hs
      have hout:¬(n*(sz+1)≤j*(sz+1)+k∧j*(sz+1)+k<n*(sz+1)+m*(sz+1)):=by
       rintro ⟨h1,h2⟩
       apply hin
       rw[←arM] at h2
       constructor
       ·exact Classical.byContradiction fun hh=>by
         have:=kY (Nat.lt_of_not_le hh) hks;omega
       ·exact Classical.byContradiction fun hh=>by
         have:=ajg (sz+1) (Nat.le_of_not_lt hh);omega
      rw[if_neg hout]
      obtain ⟨h1,h2⟩:=hR.hc j k s hj hs
      exact ⟨_,h1,h2,hR.he j k s hj hs⟩
    have hh3:=h.heap.write (o':=.row e' (sz+1) n' (ovl n lo m f)) hob (b:=b) (by simp[Env.blk,hh,aF]) hri (w':=w.setRow b vs')
     (.row e' (sz+1) n' _ _ (vs'.toList.take (n'*(sz+1))) (fun j k=>vs'.getD (j*(sz+1)+k) undef) hh
      ⟨by rw[aik,aku,hvs'];omega,.inr ⟨b,cap,vs',rfl,ae4 _,setRow_heap w b cur vs' e' (0,0) hR.heap,hR.hn,hR.hcap,by rw[hvs'];exact hR.size,rfl⟩⟩ hR.hmax
      flen
      (fun j k s hj hs=>by
       obtain ⟨v,h1,h2,h3⟩:=cellOf j k s hj hs
       have hks:k<sz+1:=by rw[←flen j hj];exact (abd.1 hs).1
       rw[ai3,if_pos (kY hj hks),aeD,acW,h1]
       exact ⟨rfl,h2⟩)
      (fun j k s hj hs=>by
       obtain ⟨v,h1,h2,h3⟩:=cellOf j k s hj hs
       rw[acW,h1];exact h3)) rfl rfl rfl (by simp) (fun k hk=>setRow_other w b k vs' hk)
    refine ⟨_,_,(by rw[Nat.zero_mul];exact hrun),dB (h.fC (st':=st.bW i (some (.row e' (sz+1) n' (ovl n lo m f)))) (Env.Le.refl E) rfl hh3 ⟨rfl,rfl⟩ (lu hR.heap fun k hk=>setRow_other w b k vs' hk)) hnt hd hk ?_ fun st2 E2 a2 w2 hk2 h2 hw2=>hn st2 E2 a2 w2 hk2 h2 (hw2▸⟨by simp,fun k _ hne=>setRow_other w b k vs' fun e=>hne cur (0,0) (by rw[e];exact hR.heap)⟩)⟩
    exact .sub _ _ _ _ b n' cap c _ hh (by omega) (by omega) hr (fun _=>by rw[Nat.zero_mul])
   ·exact hk.elim
  ·exact hk.elim
 ·exact hk.elim
theorem yx {C:Ctx} {E:Env} {st:St} {a:Act} {w:World} (h:ay C E st a w) {X:bq} (hTb:X.Tb.Ok X.P) (hnt:C.nt=X.nt) (hro:C.ro=X.ro) (hcm:C.m=X.m) {d:Option Nat} (hd:bN X.nt d=true)
  {t:Nat} {s x:SV} {vs vx:Value} (hs:aI E vs s) (hx:aI E vx x) {K:St→Prop} (hk:adU X t s x d st K) {next:Act→World→Prop}
  (hn:∀st' E' a' w',K st'→ay C E' st' a' w'→(∃e,elemOf X.Tb t=some e∧nW e w w')→next a' w') (ty:Nat) :
  ∃v' w',(Builtin.append_ #[t,t] ty #[vs,vx]).run X.P w=.ok v' w'∧next (a.put d v') w':=by
 unfold adU at hk
 split at hk
 ·rename_i e _ _ _ ht
  have hn:∀st' E' a' w',K st'→ay C E' st' a' w'→nW e w w'→next a' w':=fun st' E' a' w' hk' h' hg=>hn st' E' a' w' hk' h' ⟨e,by unfold elemOf;rw[ht],hg⟩
  split at hk
  ·rename_i _ sz by_ _ hie
   split at hk
   ·rename_i m g j hsrc
    split at hk
    ·rename_i i
     split at hk
     ·rename_i e' sz' n f hoth hob
      split at hk
      ·rename_i hb
       simp only[afT] at hb
       obtain rfl:=afD hb.1
       obtain rfl:=afD hb.2
       obtain ⟨⟨h1,h2⟩,h3,hk⟩:=hk
       rw[mZ] at hk
       obtain ⟨v0,xs,u,hh,hw,hmax,hl,hc,he⟩:=jG (h.heap.ob _ _ hob)
       cases hs with
       | row _ _ hh2 hsl=>
        rw[hh] at hh2;cases hh2
        have hset:∀k,(st.bW i none).obj k=if i=k then none else st.obj k:=fun k=>kK st.fr st.ob st.no _ _ _ _
        refine acG (st1:=st.bW i none) h hTb hnt hd ht hie (acr h.heap hsrc hx h3) hw hl hc he h3 h1 h2 rfl rfl rfl (fun k o ho=>?_) (fun b hb=>?_) hk hn ty
        ·rw[hset] at ho
         by_cases hik:i=k
         ·rw[if_pos hik] at ho;cases ho
         ·rw[if_neg hik] at ho;exact ho
        ·refine ⟨i,_,by simp only[afT] at hoth;rw[hcm];exact ag2 hoth.2,hob,by rw[hset,if_pos rfl],?_⟩
         simp only[Env.blk,hh,atl]
         rw[oq _ hsl];exact hb
      ·exact hk.elim
     ·exact hk.elim
    ·obtain ⟨⟨h1,h2⟩,h3,hk⟩:=hk
     obtain rfl:=hs.aJ
     rw[mZ] at hk
     have hk':aN (st.alloc (.row e (sz+1) (0+m) (bJ 0 (fun _=>[]) g))) d (.row st.no) K:=by
      rw[agC]
      have:bJ 0 (fun _=>[]) g=g:=by funext k;simp[bJ]
      rw[this];exact hk
     exact acG (st1:=st) (n:=0) (f:=fun _=>[]) (u:=fun _ _=>undef) h hTb hnt hd ht hie (acr h.heap hsrc hx h3) (World.ownsRow_nil w 0 e (sz+1)) (by intro j hj;omega) (by intro j k s hj;omega) (by intro j k s hj;omega) h3 (by omega) (by simpa using h2) rfl rfl rfl (fun _ _ h=>h)
      (fun b hb=>by simp[Value.ownBlock] at hb) hk' hn ty
    ·rename_i n f
     obtain ⟨⟨h0,h1,h2⟩,h3,h4,hk⟩:=hk
     cases hs with
     | full ad _ _ hp=>
      exact ahS h hTb hnt hd ht hie (acr h.heap hsrc hx h4) (acr h.heap (x:=.p false (.seq n f)) (e:=e) (j:=none) rfl (.p false _ _ hp) h3) h3 h4 h0 h1 h2 hk hn ty
    ·exact hk.elim
   ·exact ad8 h hTb hnt hro hd ht hie hs hx hk hn ty
  ·exact hk.elim
 ·exact hk.elim
theorem ahh (s:ByteArray) (j:Nat) (hj:j<s.size):(Lib.strCells s)[j]?=some (.int .u8 (s.data.getD j 0).toNat):=by
 have hj:j<s.data.size:=hj
 unfold Lib.strCells
 rw[ais,aeD,acy hj,acW,acy hj];rfl
theorem yh {C:Ctx} {E:Env} {st:St} {a:Act} {w:World} (h:ay C E st a w) {X:bq} (hTb:X.Tb.Ok X.P) (hnt:C.nt=X.nt) (hcm:C.m=X.m) {d:Option Nat} (hd:bN X.nt d=true)
  {t t':Nat} {s x:SV} {vs vx:Value} (hs:aI E vs s) (hx:aI E vx x) {K:St→Prop} (hk:adx X t t' s x d st K) {next:Act→World→Prop}
  (hn:∀st' E' a' w',K st'→ay C E' st' a' w'→(∃e,elemOf X.Tb t=some e∧nW e w w')→next a' w') (ty:Nat) :
  ∃v' w',(Builtin.append_ #[t,t'] ty #[vs,vx]).run X.P w=.ok v' w'∧next (a.put d v') w':=by
 unfold adx at hk
 split at hk
 ·rename_i e _ _ _ _ _ _ ht ht'
  have hn:∀st' E' a' w',K st'→ay C E' st' a' w'→nW e w w'→next a' w':=fun st' E' a' w' hk' h' hg=>hn st' E' a' w' hk' h' ⟨e,by unfold elemOf;rw[ht],hg⟩
  split at hk
  ·rename_i by_ zz _ str hie
   obtain rfl:=hx.aJ
   have hut:X.P.underlying t=some (.slice e):=(hTb _ _ ht).desc
   have hut':X.P.underlying t'=some .string:=(hTb _ _ ht').desc
   obtain ⟨I,zv,hI,hz,hs1,hzs,hzc⟩:=(hTb _ _ hie).lK E
   obtain ⟨I',hI',hI2,hb',hI3⟩:=(hTb _ _ hie).info
   rw[hI] at hI';cases hI'
   simp only at hs1 hb'
   have hgl:∀k,k<str.size→(jT str k).length=0+1:=fun _ _=>rfl
   have hnc:∀(j k:Nat) (q:PV),j<str.size→(jT str j)[k]?=some q→(Lib.strCells str)[j*(0+1)+k]?=some (Value.int .u8 (str.data.getD j 0).toNat)∧(Value.int .u8 (str.data.getD j 0).toNat).oneCell'=true:=by
    intro j k q hj hq
    have hk0:k=0:=by have:=(abd.1 hq).1;simpa [jT] using this
    subst hk0
    refine ⟨by rw[show j*(0+1)+0=j by omega];exact ahh str j hj,rfl⟩
   have hne:∀(j k:Nat) (q:PV),j<str.size→(jT str j)[k]?=some q→aL E.mem (Value.int .u8 (str.data.getD j 0).toNat) q:=by
    intro j k q hj hq
    have hk0:k=0:=by have:=(abd.1 hq).1;simpa [jT] using this
    subst hk0
    simp only[jT,atc,Option.some.injEq] at hq;subst hq;exact .val _
   have hnl:(Lib.strCells str).length=str.size*(0+1):=by rw[Lib.strCells_length];omega
   have hzero:zz=.int .u8 0→I.zero=some (.int .u8 0):=by
    intro hz0
    obtain ⟨I2,z2,f1,f2,f3⟩:=(hTb _ _ hie).flat rfl
    rw[hI] at f1;cases f1
    obtain ⟨I3,j1,_,_,z3,j2,j3,_⟩:=(hTb _ _ hie).info
    rw[hI] at j1;cases j1
    rw[f2] at j2;cases j2
    rw[f3] at j3
    have:z2=zz:=by simpa using j3
    rw[f2,this,hz0]
   split at hk
   ·rename_i i
    split at hk
    ·rename_i e' sz' n f hoth hob
     split at hk
     ·rename_i hb
      simp only[afT] at hb
      obtain rfl:=afD hb.1
      obtain rfl:=afD hb.2
      obtain ⟨⟨⟨rfl,hz0⟩,h1,h2⟩,hk⟩:=hk
      have hzero:=hzero hz0
      rw[mZ] at hk
      obtain ⟨v0,xs,u,hh,hw,hmax,hl,hc,he⟩:=jG (h.heap.ob _ _ hob)
      cases hs with
      | row _ _ hh2 hsl=>
       rw[hh] at hh2;cases hh2
       have hset:∀k,(st.bW i none).obj k=if i=k then none else st.obj k:=fun k=>kK st.fr st.ob st.no _ _ _ _
       obtain ⟨v',w',hr,ho,hg,hsl',hblk⟩:=vI (P:=X.P) (w:=w) t t' ty e' I hut hut' hI hzero hs1 hb' _ n xs hw str h1 h2
       refine ⟨v',w',hr,xQ (sz:=0) (st1:=st.bW i none) h hnt hd hw hl hc he hgl h1 rfl rfl rfl (fun k o ho=>?_) (fun b hb=>?_) hk hn ho hg hsl' hblk hnl hnc hne⟩
       ·rw[hset] at ho
        by_cases hik:i=k
        ·rw[if_pos hik] at ho;cases ho
        ·rw[if_neg hik] at ho;exact ho
       ·refine ⟨i,_,by rw[hcm];exact ag2 hoth,hob,by rw[hset,if_pos rfl],?_⟩
        simp only[Env.blk,hh,atl]
        rw[oq _ hsl];exact hb
     ·exact hk.elim
    ·exact hk.elim
   ·obtain ⟨⟨⟨rfl,hz0⟩,h1,h2⟩,hk⟩:=hk
    have hzero:=hzero hz0
    obtain rfl:=hs.aJ
    rw[mZ] at hk
    have hk':aN (st.alloc (.row e (0+1) (0+str.size) (bJ 0 (fun _=>[]) (jT str)))) d (.row st.no) K:=by
     have:bJ 0 (fun _=>[]) (jT str)=jT str:=by funext k;simp[bJ]
     rw[this,agC str.size];exact hk
    obtain ⟨v',w',hr,ho,hg,hsl',hblk⟩:=vI (P:=X.P) (w:=w) t t' ty e I hut hut' hI hzero hs1 hb' (.slice none 0 0) 0 [] (World.ownsRow_nil w 0 e 1) str (by omega) (by omega)
    exact ⟨v',w',hr,xQ (sz:=0) (st1:=st) (n:=0) (f:=fun _=>[]) (u:=fun _ _=>undef) h hnt hd (World.ownsRow_nil w 0 e (0+1)) (by intro j hj;omega) (by intro j k s hj;omega) (by intro j k s hj;omega) hgl (by omega) rfl rfl rfl (fun _ _ h=>h)
     (fun b hb=>by simp[Value.ownBlock] at hb) hk' hn ho hg hsl' hblk hnl hnc hne⟩
   ·exact hk.elim
  ·exact hk.elim
 ·exact hk.elim
theorem aeg {C:Ctx} {E:Env} {st:St} {a:Act} {w:World} (h:ay C E st a w) {X:bq} (hTb:X.Tb.Ok X.P) (hnt:C.nt=X.nt) {o:Oper} (hd:bN X.nt o.dst=true)
  {F:Fence} (hF:gJ F) {K:St→Prop} (hk:abK X o st K) {next:Act→World→Prop} {Q:Exit→Act→World→Prop}
  (hn:∀st' E' a' w',K st'→ay C E' st' a' w'→(gQ o.op=true→Grow w w')→next a' w'):o.wpIn F 9 X.P a w next Q:=by
 unfold abK at hk
 split at hk
 ·-- makeSlice
  rename_i T l c ho
  split at hk
  ·rename_i e _ _ _ hi
   split at hk
   ·rename_i _ sz by_ z hie
    split at hk
    ·rename_i _ k1 n _ k2 m hl hc
     obtain ⟨⟨h0,h1,h2,h3⟩,hk⟩:=hk
     have hlv:=aG h l
     rw[hl] at hlv
     have hle1:=hlv.aJ
     have hcv:=aG h c
     rw[hc] at hcv
     have hce:=hcv.aJ
     have hu:X.P.underlying T=some (.slice e):=(hTb _ _ hi).desc
     obtain ⟨I,hI,hIs,hIb,zv,hz,hzz,hone,hzc⟩:=(hTb _ _ hie).info
     simp only at hIs hIb hzz hzc
     have hbyt:(I.bytes:Int)*m≤281474976710656:=by
      have e:m=(m.toNat:Int):=by omega
      rw[hIb,e]
      have h5:((by_*m.toNat:Nat):Int)≤((281474976710656:Nat):Int):=Int.ofNat_le.2 h3
      rw[Int.natCast_mul] at h5;exact h5
     have hrun:=run_make (P:=X.P) w T e I zv hu hI hz k1 k2 n m h0 h1 hbyt (by omega)
     rw[hIs] at hrun
     have hzl:z.length=sz+1:=by rw[←hzz,aku];exact hzc
     have hmc:=size_madeCells zv.cells (m.toNat*(sz+1))
     have hnm:n.toNat≤m.toNat:=by omega
     have hmx:m.toNat≤maxLen:=by unfold maxLen;omega
     have hzc:zv.cells.size=sz+1:=hzc
     have hnsz:n.toNat*(sz+1)≤m.toNat*(sz+1):=ajg _ hnm
     have hcell:∀j k,j<n.toNat→k<sz+1→(madeCells zv.cells (m.toNat*(sz+1)))[j*(sz+1)+k]?=zv.cells[k]?:=by
      intro j k hj hk
      have hlt:j*(sz+1)+k<m.toNat*(sz+1):=by
       have:=ajg (sz+1) (show j+1≤m.toNat by omega);rw[aqW] at this;omega
      have hmod:(j*(sz+1)+k) % zv.cells.size=k:=by rw[hzc,Nat.add_comm,as6,asw hk]
      have e1:zv.cells[k]?=some (zv.cells[k]'(by omega)):=acy _
      rw[e1]
      simp[madeCells,hlt,hmod,getElem!_def,e1]
     obtain ⟨hh,hle⟩:=h.heap.acL (cs:=madeCells zv.cells (m.toNat*(sz+1))) (T:=e) (fr:=(0,0)) (w':=w.alloc (.cells (madeCells zv.cells (m.toNat*(sz+1))) e)) (World.alloc_heap_new w _) rfl rfl rfl (by show w.heap.size≤(w.heap.push _).size;simp) (fun k hk=>RowKit.Below.heap_alloc w _ k hk)
     have hM:=h.fC (st':=st) hle rfl hh ⟨rfl,rfl⟩ (gW w _)
     refine dz hF (by simp[ho]) (v:=.slice (some ⟨w.heap.size,0,none⟩) n.toNat m.toNat) (w':=w.alloc (.cells (madeCells zv.cells (m.toNat*(sz+1))) e)) ?_
      (dB hM hnt hd hk (.p false _ _ (.seq w.heap.size 0 n.toNat m.toNat (sz+1) _ (madeCells zv.cells (m.toNat*(sz+1))) (fun j k=>zv.cells.getD k undef) (by show (E.fE w.heap.size _).mem w.heap.size=_;simp[Env.fE]) hnm (aiK hnm hmx)
       (fun j hj=>by rw[qE];exact hzl)
       (fun j k s hj hs=>by
        rw[om,←hzz,aeD] at hs
        have hks:k<sz+1:=by
         cases hq:zv.cells[k]? with
         | none=>rw[hq] at hs;cases hs
         | some q=>have:=(acn.1 hq).1;omega
        rw[agC,hcell j k hj hks]
        have e1:zv.cells[k]?=some (zv.cells[k]'(by omega)):=acy _
        rw[acW,e1]
        exact ⟨rfl,hone _ _ e1⟩)
       (fun j k s hj hs=>by
        rw[om,←hzz,aeD] at hs
        cases hq:zv.cells[k]? with
        | none=>rw[hq] at hs;cases hs
        | some q=>
         rw[hq] at hs;simp only[alC,Option.some.injEq] at hs;subst hs
         rw[acW,hq];exact .val q))) fun st' E' a' w' hk' h' hw'=>hn st' E' a' w' hk' h' fun _=>hw'▸jv w _)
     simp[execOp,ho,hle1,hce,hrun]
    ·exact hk.elim
   ·exact hk.elim
  ·exact hk.elim
 ·-- buildSlice
  rename_i T len parts ho
  split at hk
  ·rename_i e _ _ _ hi
   split at hk
   ·rename_i _ sz _ z hie
    split at hk
    ·rename_i cs hf
     split at hk
     ·rename_i b ds hall
      cases hbl:(len*(sz+1)).blt 1000 with
      | false=>simp[hbl] at hk
      | true=>
       simp only[hbl] at hk
       have hlt:len*(sz+1)<1000:=by simpa [asF] using hbl
       obtain ⟨zv,hz,hZ⟩:=qp (hTb _ _ hie) (E:=E)
       have hu:X.P.underlying T=some (.slice e):=(hTb _ _ hi).desc
       have hzl:(zeros z).length=sz+1:=by
        obtain ⟨I,zz,_,_,_,hs,hA⟩:=(hTb _ _ hie).lK E
        have:=hA.size;simp only at this hs;omega
       have hzs:zv.cells.size=sz+1:=by rw[hZ.size];exact hzl
       have hZ0:jy E ((Array.range (len*(sz+1))).map (zv.cells[· % zv.cells.size]!)) (vC len (zeros z)):=by
        refine jy.of (by rw[nI,hzl];simp) fun k hk=>?_
        have hk2:k<len*(sz+1):=by simpa using hk
        have hm:k % (sz+1)<sz+1:=Nat.mod_lt _ (by omega)
        have e1:zv.cells[k % (sz+1)]?=some (zv.cells[k % (sz+1)]'(by omega)):=acy (by omega)
        have e2:(zeros z)[k % (sz+1)]?=some ((zeros z)[k % (sz+1)]'(by omega)):=abb (by omega)
        have hm2:k % (zeros z).length=k % (sz+1):=by rw[hzl]
        refine ⟨_,_,?_,by rw[abA _ _ _ (by rw[hzl];exact hk2),hm2];exact e2,hZ.one _ _ e1,hZ.rep _ _ _ e1 e2⟩
        simp[hk2,hzs,getElem!_def,e1]
       obtain ⟨vs',hfill,hA⟩:=sS h _ (fun i=>some (i*(sz+1),sz+1)) (fun i p hp=>by
        split at hp
        ·exact hp
        ·cases hp) parts.toList _ _ _ hZ0 hf
       obtain ⟨hdl,hdr⟩:=pR (E:=E) cs b ds hall
       have hvl:vs'.size=len*(sz+1):=by
        have:=(um hf);rw[hA.size,this,nI,hzl]
       have hdn:ds.length=len*(sz+1):=by rw[←hdl,←hA.size,hvl]
       have hmx:len≤maxLen:=by unfold maxLen;have:=Nat.le_mul_of_pos_right len (show 0<sz+1 by omega);omega
       obtain ⟨hh,hle⟩:=h.heap.acL (cs:=vs') (T:=e) (fr:=(0,0)) (w':=w.alloc (.cells vs' e)) (World.alloc_heap_new w _) rfl rfl rfl (by show w.heap.size≤(w.heap.push _).size;simp) (fun k hk=>RowKit.Below.heap_alloc w _ k hk)
       have hM:=h.fC (st':=st) hle rfl hh ⟨rfl,rfl⟩ (gW w _)
       have hrep:aL (E.fE w.heap.size vs').mem (.slice (some ⟨w.heap.size,0,none⟩) len len) (.seq len (bg (sz+1) ds)):=by
        refine .seq w.heap.size 0 len len (sz+1) _ vs' (fun j k=>vs'.getD (j*(sz+1)+k) undef) (by simp[Env.fE]) (afM _) hmx (fun j hj=>(jC hdn hj).1) (fun j k s hj hs=>?_) (fun j k s hj hs=>?_)
        ·have hk1:k<sz+1:=by rw[←(jC hdn hj).1];exact (abd.1 hs).1
         have hin:j*(sz+1)+k<vs'.size:=by
          rw[hvl];have:=ajg (sz+1) (show j+1≤len from hj);rw[aqW] at this;omega
         have e1:vs'[j*(sz+1)+k]?=some vs'[j*(sz+1)+k]:=acy hin
         rw[agC,acW,e1]
         exact ⟨rfl,hA.one _ _ e1⟩
        ·have hk1:k<sz+1:=by rw[←(jC hdn hj).1];exact (abd.1 hs).1
         have hin:j*(sz+1)+k<vs'.size:=by
          rw[hvl];have:=ajg (sz+1) (show j+1≤len from hj);rw[aqW] at this;omega
         have e1:vs'[j*(sz+1)+k]?=some vs'[j*(sz+1)+k]:=acy hin
         have e2:cs[j*(sz+1)+k]?=some (cs[j*(sz+1)+k]'(by rw[←hA.size];exact hin)):=abb _
         rw[(jC hdn hj).2 k hk1] at hs
         rw[acW,e1]
         exact (hdr _ _ _ _ e2 hs (hA.rep _ _ _ e1 e2)).mono fun B cs hB=>hle.mem _ _ (E.dS b _ _ hB)
       refine dz hF (by simp[ho]) (v:=.slice (some ⟨w.heap.size,0,none⟩) len len) (w':=w.alloc (.cells vs' e)) ?_
        (dB hM hnt hd hk (.p false _ _ hrep) fun st' E' a' w' hk' h' hw'=>hn st' E' a' w' hk' h' fun _=>hw'▸jv w _)
       have h24:¬(len*(sz+1)>2 ^ 24):=by omega
       have hfill':Instr.fill (fun i=>some (i*(sz+1),sz+1)) ((Array.range (len*(sz+1))).map (zv.cells[· % zv.cells.size]!)) (parts.map fun p=>(p.1,a.eval p.2)).toList=some vs':=by simpa using hfill
       by_cases h0:len*(sz+1)=0
       ·have hz0:∀g:Nat→Value,(Array.range (len*(sz+1))).map g=#[]:=fun g=>by rw[h0];simp
        rw[hz0] at hfill'
        simp only[execOp,ho,Instr.buildSlice,Sem.run_bind,run_underlying hu,Result.andThen_ok,dG (hTb _ _ hie),h0,show ¬((0:Nat)>2 ^ 24) by omega,if_false,if_true,Sem.run_pure]
        simp only[show Array.range 0=#[] from rfl,Array.map_empty,hfill',newRow,Sem.run_bind,run_newObj,Result.andThen_ok,Sem.run_pure]
        rfl
       ·simp only[execOp,ho,Instr.buildSlice,Sem.run_bind,run_underlying hu,Result.andThen_ok,dG (hTb _ _ hie),h24,if_false,h0,hz,Sem.run_pure]
        simp only[hfill',newRow,Sem.run_bind,run_newObj,Result.andThen_ok,Sem.run_pure]
        rfl
     ·exact hk.elim
    ·exact hk.elim
   ·exact hk.elim
  ·exact hk.elim
 ·exact hk.elim
theorem alZ {α:Type} (k:Nat) (v:α) (l:List (Nat×α)) (t:Nat):look (agf k v l) t=look ((k,v) :: l) t:=by
 induction l with
 | nil=>rfl
 | cons p l ih=>
  obtain ⟨k',v'⟩:=p
  unfold agf
  split
  ·rfl
  ·rename_i hb
   have hlt:k'<k:=by
    have:¬k≤k':=fun h=>by rw[Nat.ble_eq_true_of_le h] at hb;cases hb
    omega
   rw[bC,ih,bC,bC,bC]
   by_cases e:k'=t
   ·rw[if_pos e,if_neg (by omega),if_pos e]
   ·rw[if_neg e,if_neg e]
theorem xR {α:Type}:∀(l:List (Nat×α)) (t:Nat),look (xu l) t=look l t
 | [],_=>rfl
 | (k,v) :: l,t=>by
  show look (agf k v (xu l)) t=_
  rw[alZ,bC,bC,xR l]
theorem ajw (st:St) (t:Nat):(acE st).get t=st.get t:=by
 show (match look (xu st.fr) t with | some s=>s | none=>.any)=_
 rw[xR];rfl
theorem rU (st:St) (i:Nat):(acE st).obj i=st.obj i:=by
 show (match look (xu st.ob) i with | some o=>o | none=>none)=_
 rw[xR];rfl
theorem ay.norm {C:Ctx} {E:Env} {st:St} {a:Act} {w:World} (h:ay C E st a w):ay C E (acE st) a w:=by
 have hh:=h.heap
 exact ⟨h.size,fun t=>by rw[ajw];exact h.slot t,⟨fun i o ho=>hh.ob i o (by rwa [rU] at ho),fun i j o o' b h1 h2=>hh.sep i j o o' b (by rwa [rU] at h1) (by rwa [rU] at h2),fun i o b ho=>hh.own i o b (by rwa [rU] at ho),hh.mem,hh.mem0,hh.memnew,hh.new,hh.base,hh.fr,hh.hd0,hh.mno,hh.mkh,hh.kk⟩,h.marks⟩
theorem af2 {μ:Nat→Option (Array Value)} {v:Value} {d d':PV} (h:adG d d') (hv:aL μ v d):aL μ v d':=by
 unfold adG at h
 split at h
 ·obtain rfl:=hv.aJ;subst h;exact .nil _
 ·split at h
  ·rename_i hk;obtain rfl:=nR hk;subst h;exact hv
  ·exact h.elim
 ·subst h;exact hv
 ·subst h;exact hv
 ·subst h;exact hv
 ·obtain ⟨rfl,h⟩:=h
  cases hv with
  | nil=>exact .nil _
  | emp a c=>exact .emp a c _
  | seq b o _ cap sz _ cs u hm hcap hmax hl hc he=>
   exact .seq b o _ cap sz _ cs u hm hcap hmax (fun j hj=>by rw[←h j hj];exact hl j hj) (fun j k s hj hs=>hc j k s hj (by rw[h j hj];exact hs)) (fun j k s hj hs=>he j k s hj (by rw[h j hj];exact hs))
 ·obtain ⟨rfl,rfl⟩:=h;exact hv
 ·obtain ⟨rfl,rfl⟩:=h;exact hv
 ·obtain ⟨rfl,rfl⟩:=h;exact hv
 ·obtain ⟨rfl,h⟩:=h
  obtain ⟨vs,rfl,hs,hc⟩:=hv.fI
  exact aL.qB hs fun k hk=>by obtain ⟨u,h1,h2,h3⟩:=hc k hk;exact ⟨u,h1,h2,by rw[←h k hk];exact h3⟩
 ·exact h.elim
theorem aeJ:∀(xs ys:List PV),uJ xs ys→xs.length=ys.length∧∀(k:Nat) (x y:PV),xs[k]?=some x→ys[k]?=some y→adG x y
 | [],[],_=>by simp
 | [],_ :: _,h=>by simp[uJ] at h
 | _ :: _,[],h=>by simp[uJ] at h
 | [x],[y],h=>by
  refine ⟨rfl,fun k a b ha hb=>?_⟩
  cases k with
  | zero=>simp at ha hb;subst ha;subst hb;exact h
  | succ k=>simp at ha
 | [x],y :: z :: ys,h=>by simp[uJ] at h
 | x :: z :: xs,[y],h=>by simp[uJ] at h
 | x :: x2 :: xs,y :: y2 :: ys,h=>by
  simp only[uJ] at h
  obtain ⟨h1,h2⟩:=aeJ (x2 :: xs) (y2 :: ys) h.2
  refine ⟨by simpa using h1,fun k a b ha hb=>?_⟩
  cases k with
  | zero=>simp at ha hb;subst ha;subst hb;exact h.1
  | succ k=>simp only[akI] at ha hb;exact h2 k a b ha hb
theorem abG {μ:Nat→Option (Array Value)} {v:Value} {d d':PV} (h:ad9 d d') (hv:aL μ v d):aL μ v d':=by
 unfold ad9 at h
 split at h
 ·rename_i xs ys
  obtain ⟨h1,h2⟩:=aeJ xs ys h
  cases hv with
  | agg vs _ hl hone he=>
   refine .agg vs _ (by omega) hone fun k u s hu hs=>?_
   have hk:k<xs.length:=by rw[←hl];exact (acn.1 hu).1
   exact af2 (h2 k _ s (abb hk) hs) (he k u _ hu (abb hk))
 ·exact af2 h hv
theorem za:∀(xs ys:List PV),rW xs ys→xs.length=ys.length∧∀(k:Nat) (x y:PV),xs[k]?=some x→ys[k]?=some y→ad9 x y
 | [],[],_=>by simp
 | [],_ :: _,h=>by simp[rW] at h
 | _ :: _,[],h=>by simp[rW] at h
 | [x],[y],h=>by
  refine ⟨rfl,fun k a b ha hb=>?_⟩
  cases k with
  | zero=>simp at ha hb;subst ha;subst hb;exact h
  | succ k=>simp at ha
 | [x],y :: z :: ys,h=>by simp[rW] at h
 | x :: z :: xs,[y],h=>by simp[rW] at h
 | x :: x2 :: xs,y :: y2 :: ys,h=>by
  simp only[rW] at h
  obtain ⟨h1,h2⟩:=za (x2 :: xs) (y2 :: ys) h.2
  refine ⟨by simpa using h1,fun k a b ha hb=>?_⟩
  cases k with
  | zero=>simp at ha hb;subst ha;subst hb;exact h.1
  | succ k=>simp only[akI] at ha hb;exact h2 k a b ha hb
theorem oz {μ:Nat→Option (Array Value)} {v:Value} {d d':PV} (h:aB d d') (hv:aL μ v d):aL μ v d':=by
 unfold aB at h
 split at h
 ·rename_i xs ys
  obtain ⟨h1,h2⟩:=za xs ys h
  cases hv with
  | tup vs _ hl he=>
   refine .tup vs _ (by omega) fun k u s hu hs=>?_
   have hk:k<xs.length:=by rw[←hl];exact (acn.1 hu).1
   exact abG (h2 k _ s (abb hk) hs) (he k u _ hu (abb hk))
 ·exact abG h hv
theorem eu (i:Nat):∀(l:List Nat),gI i l=true↔i∈l
 | []=>by simp[gI]
 | j :: l=>by
  simp only[gI,ap3,eu i l,ah5]
  constructor
  ·rintro (h | h)
   ·exact .inl (afD h)
   ·exact .inr h
  ·rintro (rfl | h)
   ·exact .inl (Nat.beq_refl _)
   ·exact .inr h
theorem uD:∀(l:List Nat),distinct l=true→∀(k k' i:Nat),l[k]?=some i→l[k']?=some i→k=k'
 | [],_,k,k',i,h,_=>by simp at h
 | j :: l,hd,k,k',i,h,h'=>by
  simp only[distinct,afT,aof] at hd
  have hj:j∉l:=fun hm=>by have:=(eu j l).2 hm;rw[hd.1] at this;cases this
  cases k with
  | zero=>
   simp at h;subst h
   cases k' with
   | zero=>rfl
   | succ k'=>simp at h';exact absurd (acH h') hj
  | succ k=>
   simp at h
   cases k' with
   | zero=>simp at h';subst h';exact absurd (acH h) hj
   | succ k'=>simp at h';rw[uD l hd.2 k k' i h h']
theorem oI {ro:Nat}:∀(l:List Nat),mW ro l=true→∀(k i:Nat),l[k]?=some i→ro≤i
 | [],_,k,i,h=>by simp at h
 | j :: l,hd,k,i,h=>by
  simp only[mW,afT] at hd
  cases k with
  | zero=>simp at h;subst h;exact ag2 hd.1
  | succ k=>simp at h;exact oI l hd.2 k i h
theorem abg:∀(l:List Ob) (i k:Nat),look (rz i l) k=if i≤k then (l[k-i]?).map some else none
 | [],i,k=>by simp[rz,look]
 | o :: l,i,k=>by
  simp only[rz,bC,abg l (i+1) k]
  by_cases h:i=k
  ·subst h;simp
  ·rw[if_neg h]
   by_cases h2:i≤k
   ·rw[if_pos h2,if_pos (by omega),show k-i=(k-(i+1))+1 by omega];simp
   ·rw[if_neg h2,if_neg (by omega)]
theorem dF (l:List Ob) (k:Nat):(gV l).obj k=l[k]?:=by
 unfold gV St.obj
 simp only[abg,ae4,if_true,asA]
 cases l[k]?<;>rfl
theorem qz (all:List Nat):∀(js:List Nat) (os:List Ob) (l:List (Nat×Option Ob)),distinct js=true→js.length=os.length→∀j,
  (∀p:Nat,js[p]?=some j→look (jX all js os l) j=(os[p]?).map fun o=>some (sj all o))∧(j∉js→look (jX all js os l) j=look l j)
 | [],[],l,_,_,j=>by simp[jX]
 | [],_ :: _,l,_,h,j=>by simp at h
 | _ :: _,[],l,_,h,j=>by simp at h
 | i :: js,o :: os,l,hd,hl,j=>by
  simp only[distinct,afT,aof] at hd
  have hi:i∉js:=fun hm=>by have:=(eu i js).2 hm;rw[hd.1] at this;cases this
  obtain ⟨h1,h2⟩:=qz all js os ((i,some (sj all o)) :: l) hd.2 (by simpa using hl) j
  simp only[jX]
  refine ⟨fun p hp=>?_,fun hj=>?_⟩
  ·cases p with
   | zero=>
    simp at hp;subst hp
    rw[h2 hi,bC,if_pos rfl]
    rfl
   | succ p=>simp at hp ⊢;rw[h1 p hp]
  ·simp only[ah5,not_or] at hj
   rw[h2 hj.2,bC,if_neg (fun e=>hj.1 e.symm)]
theorem acN (st:St) (js:List Nat):∀(ss cs:List SV),qN st js ss cs→ss.length=cs.length∧∀(k:Nat) (s c:SV),ss[k]?=some s→cs[k]?=some c→aaV st js s c
 | [],[],_=>by simp
 | [],_ :: _,h=>by simp[qN] at h
 | _ :: _,[],h=>by simp[qN] at h
 | [x],[y],h=>by
  refine ⟨rfl,fun k a b ha hb=>?_⟩
  cases k with
  | zero=>simp at ha hb;subst ha;subst hb;exact h
  | succ k=>simp at ha
 | [x],y :: z :: ys,h=>by simp[qN] at h
 | x :: z :: xs,[y],h=>by simp[qN] at h
 | x :: x2 :: xs,y :: y2 :: ys,h=>by
  simp only[qN] at h
  obtain ⟨h1,h2⟩:=acN st js (x2 :: xs) (y2 :: ys) h.2
  refine ⟨by simpa using h1,fun k a b ha hb=>?_⟩
  cases k with
  | zero=>simp at ha hb;subst ha;subst hb;exact h.1
  | succ k=>simp only[akI] at ha hb;exact h2 k a b ha hb
theorem qI (st:St) (js:List Nat):∀(ss cs:List SV),mQ st js ss cs→ss.length=cs.length∧∀(k:Nat) (s c:SV),ss[k]?=some s→cs[k]?=some c→yR st js s c
 | [],[],_=>by simp
 | [],_ :: _,h=>by simp[mQ] at h
 | _ :: _,[],h=>by simp[mQ] at h
 | [x],[y],h=>by
  refine ⟨rfl,fun k a b ha hb=>?_⟩
  cases k with
  | zero=>simp at ha hb;subst ha;subst hb;exact h
  | succ k=>simp at ha
 | [x],y :: z :: ys,h=>by simp[mQ] at h
 | x :: z :: xs,[y],h=>by simp[mQ] at h
 | x :: x2 :: xs,y :: y2 :: ys,h=>by
  simp only[mQ] at h
  obtain ⟨h1,h2⟩:=qI st js (x2 :: xs) (y2 :: ys) h.2
  refine ⟨by simpa using h1,fun k a b ha hb=>?_⟩
  cases k with
  | zero=>simp at ha hb;subst ha;subst hb;exact h.1
  | succ k=>simp only[akI] at ha hb;exact h2 k a b ha hb
theorem mE (st:St) (all:List Nat):∀(js:List Nat) (os:List Ob),nC st all js os→js.length=os.length∧∀(k j:Nat) (o:Ob),js[k]?=some j→os[k]?=some o→obM st all j o
 | [],[],_=>by simp
 | [],_ :: _,h=>by simp[nC] at h
 | _ :: _,[],h=>by simp[nC] at h
 | [x],[y],h=>by
  refine ⟨rfl,fun k a b ha hb=>?_⟩
  cases k with
  | zero=>simp at ha hb;subst ha;subst hb;exact h
  | succ k=>simp at ha
 | [x],y :: z :: ys,h=>by simp[nC] at h
 | x :: z :: xs,[y],h=>by simp[nC] at h
 | x :: x2 :: xs,y :: y2 :: ys,h=>by
  simp only[nC] at h
  obtain ⟨h1,h2⟩:=mE st all (x2 :: xs) (y2 :: ys) h.2
  refine ⟨by simpa using h1,fun k a b ha hb=>?_⟩
  cases k with
  | zero=>simp at ha hb;subst ha;subst hb;exact h.1
  | succ k=>simp only[akI] at ha hb;exact h2 k a b ha hb
noncomputable def aM (E : Env) (st : St) (w : World) (js : List Nat) (lend : Bool) (os : List Ob) (ro : Nat) (t : Nat → Prop) : Env :=
  { hd := fun k => (js[k]?).bind E.hd
    mem := fun b => match E.mem b with
      | some cs => some cs
      | none => open Classical in if lend = true ∧ ∃ j o, j ∉ js ∧ st.obj j = some o ∧ E.blk j = some b then (match w.heap[b]? with | some (.cells cs _ _) => some cs | _ => none) else none
    tm := t, ws := w, I := kD (fun k => (js[k]?).bind E.hd) os ro, k := none }
theorem eG {E:Env} {st:St} {w:World} {js:List Nat} {lend:Bool} {t:Nat→Prop} {os:List Ob} {ro b:Nat} {cs:Array Value} (h:E.mem b=some cs):(aM E st w js lend os ro t).mem b=some cs:=by simp[aM,h]
theorem lC {E:Env} {t:Nat→Prop} {st:St} {w:World} {js:List Nat} {os:List Ob} {ro b:Nat} {cs:Array Value} (h:(aM E st w js false os ro t).mem b=some cs):E.mem b=some cs:=by
 simp only[aM] at h
 cases hm:E.mem b with
 | some c=>rw[hm] at h;exact h
 | none=>rw[hm] at h;simp at h
theorem ae8 {C:Ctx} {E:Env} {st:St} {w:World} (h:bn C E st w) {js:List Nat} {lend:Bool} {t:Nat→Prop} {os:List Ob} {ro:Nat} {s c:SV} (hm:aaV st js s c) (hlend:tL s c=true→lend=true) {v:Value} (hv:aI E v s) :
  aI (aM E st w js lend os ro t) v c:=by
 unfold aaV at hm
 split at hm
 ·split at hm
  ·obtain ⟨h1,rfl⟩:=hm
   rw[dW] at h1
   obtain ⟨b,hb,rfl⟩:=eX hv
   exact .own _ _ b (by simp[aM,h1,hb])
  ·exact hm.elim
 ·split at hm
  ·rw[dW] at hm
   cases hv with | row _ _ hh hs=>exact .row _ _ (by simp[aM,hm,hh]) hs
  ·exact hm.elim
 ·split at hm
  ·cases hv with
   | p _ _ _ hp=>exact .p _ _ _ (oz hm (hp.mono fun b cs hb=>eG (E.dS _ _ _ hb)))
  ·rename_i i
   split at hm
   ·rename_i T sz n f hin hob
    refine .p _ _ _ (oz hm ?_)
    have hl:=hlend rfl
    obtain ⟨v0,xs,u,hh,hw,hmax,hlen,hc,he⟩:=jG (h.ob _ _ hob)
    cases hv with
    | row _ _ hh2 hsl=>
     rw[hh] at hh2;cases hh2
     rcases hw.2 with ⟨rfl,rfl⟩ | ⟨g,cap,cur,rfl,_,hg,hnc,hcm,hcs,htake⟩
     ·exact .nil _
     ·have hnin:i∉js:=fun hi=>by have:=(eu i js).2 hi;rw[hin] at this;cases this
      have hblk:E.blk i=some g:=by simp[Env.blk,hh,aF]
      have hnone:=(h.own i _ g hob hblk).1
      refine .seq g 0 n cap sz f cur u ?_ hnc hmax hlen (fun j k s hj hs=>?_) (fun j k s hj hs=>(he j k s hj hs).mono fun b cs hb=>eG hb)
      ·show (aM E st w js lend os ro t).mem g=some cur
       simp only[aM,hnone]
       rw[if_pos ⟨hl,i,_,hnin,hob,hblk⟩,hg]
      ·obtain ⟨c1,c2⟩:=hc j k s hj hs
       refine ⟨?_,c2⟩
       rw[agC,←aeD]
       rw[←htake,ai3] at c1
       split at c1
       ·exact c1
       ·cases c1
   ·exact hm.elim
  ·rename_i i N lo n
   split at hm
   ·rename_i T N' f hin hob
    obtain ⟨rfl,hm⟩:=hm
    refine .p _ _ _ (oz hm ?_)
    have hl:=hlend rfl
    cases hv with
    | asl _ _ _ _ b c a hh hle hc ha=>
     obtain ⟨b',vs,hh2,hw,hs,hvc⟩:=(h.ob _ _ hob).fI
     rw[hh] at hh2;cases hh2
     rcases apT n with rfl | hn
     ·exact .emp _ _ _
     ·obtain rfl:=ha (by omega)
      have hnin:i∉js:=fun hi=>by have:=(eu i js).2 hi;rw[hin] at this;cases this
      have hblk:E.blk i=some b:=by simp[Env.blk,hh,aF]
      have hnone:=(h.own i _ b hob hblk).1
      refine .seq b lo n c 1 _ vs (fun j _=>vs.getD (lo+j) undef) ?_ hc ?_ (fun j hj=>rfl) (fun j k s hj hs'=>?_) (fun j k s hj hs'=>?_)
      ·show (aM E st w js lend os ro t).mem b=some vs
       simp only[aM,hnone]
       rw[if_pos ⟨hl,i,_,hnin,hob,hblk⟩,hw]
      ·unfold maxLen;omega
      ·have hk0:k=0:=by have:=(abd.1 hs').1;simpa using this
       subst hk0
       obtain ⟨u,u1,u2,u3⟩:=hvc (lo+j) (by omega)
       rw[anW,arO,acW,u1]
       exact ⟨rfl,u2⟩
      ·have hk0:k=0:=by have:=(abd.1 hs').1;simpa using this
       subst hk0
       simp at hs';subst hs'
       obtain ⟨u,u1,u2,u3⟩:=hvc (lo+j) (by omega)
       rw[acW,u1]
       exact u3.mono fun B cs hB=>eG hB
   ·exact hm.elim
  ·exact hm.elim
 ·split at hm
  ·rw[dW] at hm
   cases hv with | mp _ r hh=>exact .mp _ r (by simp[aM,hm,hh])
  ·exact hm.elim
 ·exact .any _
 ·exact hm.elim
theorem acs:∀(l m:List SV) (k:Nat) (s c:SV),l[k]?=some s→m[k]?=some c→tL s c=true→qM l m=true
 | [],_,k,s,c,h,_,_=>by simp at h
 | s :: l,[],k,s',c,_,h,_=>by simp at h
 | s :: l,c :: m,0,s',c',h,h',hl=>by
  simp at h h';subst h;subst h'
  cases s<;>cases c<;>simp_all [tL,qM]
 | s :: l,c :: m,k+1,s',c',h,h',hl=>by
  simp at h h'
  have:=acs l m k s' c' h h' hl
  cases s<;>cases c<;>simp[qM,this]
theorem lq:∀(l m:List SV) (k:Nat),(∀(s c:SV),l[k]?=some s→m[k]?=some c→tL s c=true→jc l m=true) ∧
  (∀f l' f' m',l[k]?=some (.fn f l')→m[k]?=some (.fn f' m')→qM l' m'=true→jc l m=true)
 | [],_,k=>by simp
 | s :: l,[],k=>by simp
 | s :: l,c :: m,0=>by
  refine ⟨fun s' c' h h' hl=>?_,fun f l' f' m' h h' hl=>?_⟩
  ·simp at h h';subst h;subst h'
   cases s<;>cases c<;>simp_all [tL,jc]
  ·simp at h h';subst h;subst h';simp[jc,hl]
 | s :: l,c :: m,k+1=>by
  obtain ⟨h1,h2⟩:=lq l m k
  have up:jc l m=true→jc (s :: l) (c :: m)=true:=by
   intro h
   cases s<;>cases c<;>simp[jc,h]
  exact ⟨fun s' c' h h' hl=>up (h1 s' c' (by simpa using h) (by simpa using h') hl),fun f l' f' m' h h' hl=>up (h2 f l' f' m' (by simpa using h) (by simpa using h') hl)⟩
theorem abn (st:St):∀(js:List Nat) (os:List Ob) (k j:Nat) (o:Ob),js[k]?=some j→os[k]?=some o→adR st j o=true→jE st js os=true
 | [],_,k,j,o,h,_,_=>by simp at h
 | _ :: _,[],k,j,o,_,h,_=>by simp at h
 | i :: js,p :: os,0,j,o,h,h',hl=>by simp at h h';subst h;subst h';simp[jE,hl]
 | i :: js,p :: os,k+1,j,o,h,h',hl=>by
  have:=abn st js os k j o (by simpa using h) (by simpa using h') hl
  simp[jE,this]
theorem qh {C:Ctx} {E:Env} {st:St} {w:World} (h:bn C E st w) {js:List Nat} {lend:Bool} {t:Nat→Prop} {os:List Ob} {ro:Nat} {s c:SV} (hm:yR st js s c) (hlend:tL s c=true→lend=true)
  (hlend2:∀f l f' m,s=.fn f l→c=.fn f' m→qM l m=true→lend=true) {v:Value} (hv:aI E v s):aI (aM E st w js lend os ro t) v c:=by
 unfold yR at hm
 split at hm
 ·split at hm
  ·rename_i f m _ f' l
   obtain ⟨rfl,hm⟩:=hm
   obtain ⟨h1,h2⟩:=acN st js l m hm
   cases hv with
   | fn _ vs _ hl he=>
    refine .fn _ vs _ (by omega) fun k u c hu hc=>?_
    have hk:k<l.length:=by rw[←hl];exact (acn.1 hu).1
    have hs:l[k]?=some l[k]:=abb hk
    exact ae8 h (h2 k _ c hs hc) (fun hl=>hlend2 _ _ _ _ rfl rfl (acs l m k _ c hs hc hl)) (he k u _ hu hs)
  ·exact hm.elim
 ·exact ae8 h hm hlend hv
theorem adg (st:St) (js:List Nat):∀(ss cs:List SV),qO st js ss cs→ss.length=cs.length∧∀(k:Nat) (s c:SV),ss[k]?=some s→cs[k]?=some c→ac7 st js s c
 | [],[],_=>⟨rfl,by simp⟩
 | [],_ :: _,h=>by simp[qO] at h
 | _ :: _,[],h=>by simp[qO] at h
 | [x],[y],h=>by
  refine ⟨rfl,fun k a b ha hb=>?_⟩
  cases k with
  | zero=>simp at ha hb;subst ha;subst hb;exact h
  | succ k=>simp at ha
 | [x],y :: z :: ys,h=>by simp[qO] at h
 | x :: z :: xs,[y],h=>by simp[qO] at h
 | x :: x2 :: xs,y :: y2 :: ys,h=>by
  simp only[qO] at h
  obtain ⟨h1,h2⟩:=adg st js (x2 :: xs) (y2 :: ys) h.2
  refine ⟨by simpa using h1,fun k a b ha hb=>?_⟩
  cases k with
  | zero=>simp at ha hb;subst ha;subst hb;exact h.1
  | succ k=>simp only[akI] at ha hb;exact h2 k a b ha hb
theorem akw {C:Ctx} {E:Env} {st:St} {w:World} (h:bn C E st w) {js:List Nat} {lend:Bool} {os:List Ob} {ro:Nat} {s c:SV} (hm:ac7 st js s c) (hlend:tL s c=true→lend=true)
  (hlend2:∀f l f' m,s=.fn f l→c=.fn f' m→qM l m=true→lend=true) {v:Value} (hv:aI E v s):aI (aM E st w js lend os ro E.tm) v c:=by
 unfold ac7 at hm
 split at hm
 ·split at hm
  ·cases hv with
   | p _ _ _ hp=>
    refine .p _ _ _ (oz hm (hp.mono fun b cs hb=>?_))
    simp only[Env.m] at hb ⊢
    split at hb
    ·rename_i ht
     rw[if_pos (show (aM E st w js lend os ro E.tm).tm b from ht)]
     exact eG hb
    ·cases hb
  ·exact hm.elim
 ·exact qh h hm hlend hlend2 hv
theorem agP (S:Spec) (a:S.A) (k:Nat):(S.post a)[k]?=if k<min S.ro (S.objs a).length then (S.objs a)[k]? else (S.objs' a)[k-min S.ro (S.objs a).length]?:=by
 unfold Spec.post
 by_cases hk:k<min S.ro (S.objs a).length
 ·rw[if_pos hk,aeM (by simpa using hk),ai3,if_pos (by omega)]
 ·rw[if_neg hk,afK (by simp only[aik];omega),aik]
theorem qG {C:Ctx} {E:Env} {st:St} {w:World} (h:bn C E st w) {js:List Nat} (hd:distinct js=true) {lend:Bool} {t:Nat→Prop} {os:List Ob} {ro:Nat} (hm:nC st js js os)
  (hlend:jE st js os=true→lend=true):bn { kg w (aM E st w js lend os ro t) os ro with tm:=t } (aM E st w js lend os ro t) (gV os) w:=by
 obtain ⟨hlen,hget⟩:=mE st js js os hm
 have hblk:∀(k j:Nat),js[k]?=some j→(aM E st w js lend os ro t).blk k=E.blk j:=fun k j hj=>by simp[Env.blk,aM,hj]
 have hobj:∀(k j:Nat) (o:Ob),js[k]?=some j→os[k]?=some o→∃o',st.obj j=some o':=by
  intro k j o hj ho
  have:=hget k j o hj ho
  unfold obM at this
  cases hst:st.obj j with
  | some o'=>exact ⟨o',rfl⟩
  | none=>rw[hst] at this;split at this<;>exact this.elim
 have hjs:∀(k:Nat) (o:Ob),os[k]?=some o→∃j,js[k]?=some j:=fun k o ho=>⟨_,abb (by rw[hlen];exact (abd.1 ho).1)⟩
 have hisz:∀b,(aM E st w js lend os ro t).I b→b<w.heap.size:=by
  rintro b ⟨k,o,_,ho,hb⟩
  obtain ⟨j,hj⟩:=hjs k o ho
  obtain ⟨p,hp⟩:=hobj k j o hj ho
  exact (h.ob j p hp).fK (by have:=hblk k j hj;unfold Env.blk at this ⊢;rw[←this];exact hb)
 refine ⟨fun k o ho=>?_,fun k k' o o' b ho ho' hb hb'=>?_,fun k o b ho hb=>?_,fun b cs hb=>?_,fun _ _ h=>h,fun _ _ h=>.inl h,fun k hk=>?_,rfl,⟨rfl,rfl,rfl,afM _,afM _,⟨rfl,rfl,rfl⟩,hisz,fun _ _ _=>rfl,rfl,rfl,rfl⟩,fun _ _=>rfl,afM _,afM _,rfl⟩
 ·rw[dF] at ho
  obtain ⟨j,hj⟩:=hjs k o ho
  have hM:=hget k j o hj ho
  unfold obM at hM
  split at hM
  ·rename_i T cs
   split at hM
   ·rename_i T' cs' hob
    obtain ⟨rfl,hM⟩:=hM
    obtain ⟨g1,g2⟩:=qI st js cs' cs hM
    obtain ⟨b,vs,hh,hw,hA⟩:=(h.ob j _ hob).iC
    refine .cells b _ vs cs (by simp[aM,hj,hh]) hw (by rw[hA.size];exact g1) hA.one fun q u c hu hc=>?_
    have hq:q<cs'.length:=by rw[←hA.size];exact (acn.1 hu).1
    have hs:cs'[q]?=some cs'[q]:=abb hq
    have hle:jc cs' cs=true→lend=true:=fun hl=>hlend (abn st js os k j _ hj ho (by simp only[adR,hob];exact hl))
    exact qh h (g2 q _ c hs hc) (fun hl=>hle ((lq cs' cs q).1 _ c hs hc hl)) (fun f l f' m e1 e2 hl=>hle ((lq cs' cs q).2 f l f' m (by rw[hs,e1]) (by rw[hc,e2]) hl)) (hA.rep q u _ hu hs)
   ·exact hM.elim
  ·rename_i T sz n f
   split at hM
   ·rename_i T' sz' n' f' hob
    obtain ⟨rfl,rfl,rfl,hM⟩:=hM
    obtain ⟨v0,xs,u,hh,hw,hmax,hl,hc,he⟩:=jG (h.ob _ _ hob)
    exact .row _ _ _ f v0 xs u (by simp[aM,hj,hh]) hw hmax (fun q hq=>by rw[←hM q hq];exact hl q hq) (fun q r s hq hs=>hc q r s hq (by rw[hM q hq];exact hs)) (fun q r s hq hs=>(he q r s hq (by rw[hM q hq];exact hs)).mono fun b cs hb=>eG hb)
   ·exact hM.elim
  ·rename_i T n f
   split at hM
   ·rename_i T' n' f' hob
    obtain ⟨rfl,rfl,hM⟩:=hM
    obtain ⟨b,vs,hh,hw,hs,hvc⟩:=(h.ob _ _ hob).fI
    exact bY.qB (by simp[aM,hj,hh]) hw hs fun q hq=>by
     obtain ⟨u,u1,u2,u3⟩:=hvc q hq
     exact ⟨u,u1,u2,by rw[←hM q hq];exact u3.mono fun b cs hb=>eG hb⟩
   ·exact hM.elim
  ·rename_i kt n get
   split at hM
   ·rename_i kt' n' get' hob
    obtain ⟨rfl,rfl,hM⟩:=hM
    obtain rfl:get'=get:=funext hM
    obtain ⟨r,es,clock,hh,hw,h1,h2,h3,h4⟩:=(h.ob _ _ hob).sI
    exact .map r es clock _ _ _ (by simp[aM,hj,hh]) hw h1 h2 h3 (h4.mono fun b cs hb=>eG hb)
   ·exact hM.elim
 ·rw[dF] at ho ho'
  obtain ⟨j,hj⟩:=hjs k o ho
  obtain ⟨j',hj'⟩:=hjs k' o' ho'
  obtain ⟨p,hp⟩:=hobj k j o hj ho
  obtain ⟨p',hp'⟩:=hobj k' j' o' hj' ho'
  rw[hblk k j hj] at hb
  rw[hblk k' j' hj'] at hb'
  have:=h.sep j j' p p' b hp hp' hb hb'
  subst this
  exact uD js hd k k' j hj hj'
 ·rw[dF] at ho
  obtain ⟨j,hj⟩:=hjs k o ho
  obtain ⟨p,hp⟩:=hobj k j o hj ho
  have hb2:=hb
  rw[hblk k j hj] at hb2
  refine ⟨?_,?_,?_⟩
  ·have h1:=(h.own j p b hp hb2).1
   simp only[aM,h1]
   rw[if_neg]
   rintro ⟨_,j',p',hnin,hp',hb3⟩
   have:=h.sep j j' p p' b hp hp' hb2 hb3
   subst this
   exact hnin (acH hj)
  ·by_cases hr:ro≤k
   ·exact .inr ⟨(abd.1 ho).1,.inl ⟨k,o,hr,ho,hb⟩⟩
   ·exact .inr ⟨(abd.1 ho).1,.inr (by show k<ro;omega)⟩
  ·by_cases hr:ro≤k
   ·exact .inl (.inr ⟨k,o,hr,ho,hb⟩)
   ·exact .inr ⟨(abd.1 ho).1,by show k<ro;omega⟩
 ·simp only[aM] at hb
  cases hm:E.mem b with
  | some c=>rw[hm] at hb;cases hb;exact h.mem b _ hm
  | none=>
   rw[hm] at hb
   simp only at hb
   split at hb
   ·split at hb
    ·rename_i c T fr hw
     cases hb;exact ⟨T,fr,hw⟩
    ·cases hb
   ·cases hb
 ·simp only[aM]
  rw[aqY (by rw[hlen];exact hk)];rfl
def fB (E E' : Env) (w : World) : Env :=
  { hd := E.hd
    mem := fun b => match E.mem b with
      | some cs => some cs
      | none => if w.heap.size ≤ b then E'.mem b else none
    tm := E.tm, ws := E.ws, I := E.I, k := E.k }
theorem rJ:∀(js:List Nat),distinct js=true→∀r,distinct (js.drop r)=true
 | [],_,r=>by simp[distinct]
 | i :: js,hd,0=>hd
 | i :: js,hd,r+1=>by
  simp only[distinct,afT] at hd
  simpa using rJ js hd.2 r
theorem vg (js:List Nat):∀(cs:List SV) (k:Nat),(ng js cs)[k]?=(cs[k]?).map (oZ js)
 | [],k=>by simp[ng]
 | c :: cs,0=>by simp[ng]
 | c :: cs,k+1=>by simp[ng,vg js cs k]
theorem oQ (js:List Nat):∀(cs:List SV),(ng js cs).length=cs.length
 | []=>rfl
 | c :: cs=>by simp[ng,oQ js cs]
theorem aoK {E E':Env} {w:World} {js:List Nat} (hb:∀b,w.heap.size≤b→E.tm b) (hb':E'.tm=fun b=>w.heap.size≤b) (hhd:∀k,k<js.length→E'.hd k=(js[k]?).bind E.hd)
  (hmem:∀b cs,E'.mem b=some cs→(fB E E' w).mem b=some cs) {v:Value} {s:SV} (h:aI E' v s):aI (fB E E' w) v (oZ js s):=by
 cases h with
 | p fr v d hp=>
  refine .p fr v d (hp.mono fun b cs hm=>?_)
  cases fr with
  | false=>exact hmem b cs hm
  | true=>
   simp only[Env.m] at hm ⊢
   split at hm
   ·rename_i hle
    rw[hb'] at hle
    rw[if_pos (show (fB E E' w).tm b from hb b hle)]
    exact hmem b cs hm
   ·cases hm
 | el i sz j off b n cap hh=>exact .any _
 | sub i sz lo n b n' cap c a hh hle hc ha=>exact .any _
 | full a n f h=>exact .any _
 | asl i N lo n b c a hh hle hc ha=>exact .any _
 | mp i r hh=>
  simp only[oZ,dW]
  cases hj:js[i]? with
  | none=>exact .any _
  | some j=>
   have hi:i<js.length:=(abd.1 hj).1
   rw[hhd i hi,hj] at hh
   exact .mp _ r hh
 | own i off b hh=>
  simp only[oZ,dW]
  cases hj:js[i]? with
  | none=>exact .any _
  | some j=>
   have hi:i<js.length:=(abd.1 hj).1
   rw[hhd i hi,hj] at hh
   exact .own j off b hh
 | row i v hh hs=>
  simp only[oZ,dW]
  cases hj:js[i]? with
  | none=>exact .any _
  | some j=>
   have hi:i<js.length:=(abd.1 hj).1
   rw[hhd i hi,hj] at hh
   exact .row j _ hh hs
 | agg=>exact .any _
 | tup=>exact .any _
 | fn=>exact .any _
 | any=>exact .any _
theorem akf {C:Ctx} {E:Env} {st:St} {w w':World} (h:bn C E st w) {js:List Nat} (hd:distinct js=true) {lend:Bool} {S:Spec} {a:S.A} (hm:nC st js js (S.objs a))
  (hge:mW C.ro (dA S.ro js)=true) (hl':(S.objs' a).length=(dA S.ro js).length) (hlend:lend=true→S.fresh=true∧dA S.ro js=[])
  {nw:Bool} (htr:nw=true→∀b,C.base≤b→C.tm b) (hnw:nw=true∨dA S.ro js=[])
  {E':Env} (h':bn (kg w (aM E st w js lend (S.objs a) S.ro fun b=>w.heap.size≤b) (S.objs a) S.ro) E' (gV (S.post a)) w') :
  bn C (fB E E' w) { st with ob:=jX js (dA S.ro js) (S.objs' a) st.ob } w'∧E.Le (fB E E' w) ∧
   ∀v d,aL (E'.m S.fresh) v d→aL ((fB E E' w).m (S.fresh&&nw)) v d:=by
 obtain ⟨hlen,hget⟩:=mE st js js _ hm
 rw[p8] at *
 have hobj:∀(k j:Nat) (o:Ob),js[k]?=some j→(S.objs a)[k]?=some o→∃o',st.obj j=some o':=by
  intro k j o hj ho
  have:=hget k j o hj ho
  unfold obM at this
  cases hst:st.obj j with
  | some o'=>exact ⟨o',rfl⟩
  | none=>rw[hst] at this;split at this<;>exact this.elim
 have hob:∀(k j:Nat),js[k]?=some j→∃o o',(S.objs a)[k]?=some o∧st.obj j=some o':=by
  intro k j hj
  have hk:k<(S.objs a).length:=by rw[←hlen];exact (abd.1 hj).1
  obtain ⟨o',ho'⟩:=hobj k j _ hj (abb hk)
  exact ⟨_,o',abb hk,ho'⟩
 have hle:E.Le (fB E E' w):=⟨fun _ _ h=>h,fun b cs hb=>by simp[fB,hb],rfl⟩
 obtain ⟨hk',hI',hws'⟩:E'.k=none∧E'.I=kD (aM E st w js lend (S.objs a) S.ro fun b=>w.heap.size≤b).hd (S.objs a) S.ro∧E'.ws=w:=h'.fr.sync
 have hsize:w.heap.size≤w'.heap.size:=by have:=h'.fr.wsz;rw[hws'] at this;exact this
 have hb0:nw=true→∀b,w.heap.size≤b→E.tm b:=fun hn b hb=>by rw[h.base];exact htr hn b (aiK (aiK h.fr.bsz h.fr.wsz) hb)
 -- which old blocks may have turned
 have keep:∀b,b<w.heap.size→w'.heap[b]?=w.heap[b]?∨∃(p j:Nat) (o:Ob),(js.drop S.ro)[p]?=some j∧st.obj j=some o∧E.blk j=some b:=by
  intro b hb
  by_cases hbor:(kg w (aM E st w js lend (S.objs a) S.ro fun b=>w.heap.size≤b) (S.objs a) S.ro).bor b
  ·obtain ⟨k,o,hk,ho,hbk⟩:=hbor
   have hkl:k<js.length:=by rw[hlen];exact (abd.1 ho).1
   have hj:js[k]?=some js[k]:=abb hkl
   obtain ⟨o1,o2,_,ho2⟩:=hob k _ hj
   refine .inr ⟨k-S.ro,js[k],o2,by rw[apP,show S.ro+(k-S.ro)=k by omega];exact hj,ho2,?_⟩
   have:(aM E st w js lend (S.objs a) S.ro fun b=>w.heap.size≤b).blk k=E.blk js[k]:=by simp[Env.blk,aM,hj]
   rw[←this];exact hbk
  ·have:=h'.fr.block b (by rw[hws'];exact hb) (by rw[hI'];exact hbor)
   rw[hws'] at this
   exact .inl this
 have memeq:∀b cs,E.mem b=some cs→w'.heap[b]?=w.heap[b]?:=by
  intro b cs hb
  rcases keep b (h.lQ hb) with h1 | ⟨p,j,o,_,h2,h3⟩
  ·exact h1
  ·rw[(h.own j o b h2 h3).1] at hb;cases hb
 -- the callee's memory,where nothing was lent
 have hmem:lend=false→∀b cs,E'.mem b=some cs→(fB E E' w).mem b=some cs:=by
  intro hl b cs hb
  subst hl
  simp only[fB]
  rcases h'.memnew b cs hb with h1 | h1
  ·have:=lC (t:=fun b=>w.heap.size≤b) (os:=S.objs a) (ro:=S.ro) h1;rw[this]
  ·cases hm:E.mem b with
   | some c=>have:=h.lQ hm;have h2:w.heap.size≤b:=h1.1;omega
   | none=>simp only;rw[if_pos (show w.heap.size≤b from h1.1)];exact hb
 have hnew0:∀b cs,E'.m true b=some cs→w.heap.size≤b∧(fB E E' w).mem b=some cs:=by
  intro b cs hb
  have hbase:E'.tm=fun b=>w.heap.size≤b:=h'.base
  simp only[Env.m] at hb
  split at hb
  ·rename_i hle
   rw[hbase] at hle
   have hle:w.heap.size≤b:=hle
   refine ⟨hle,?_⟩
   simp only[fB]
   cases hm:E.mem b with
   | some c=>have:=h.lQ hm;omega
   | none=>simp only;rw[if_pos (by omega)];exact hb
  ·cases hb
 have hnew:nw=true→∀b cs,E'.m true b=some cs→(fB E E' w).m true b=some cs:=by
  intro hn b cs hb
  obtain ⟨h1,h2⟩:=hnew0 b cs hb
  simp only[Env.m]
  rw[if_pos (show (fB E E' w).tm b from hb0 hn b h1)]
  exact h2
 have look':∀j,((∀p:Nat,(js.drop S.ro)[p]?=some j→(St.obj { st with ob:=jX js (js.drop S.ro) (S.objs' a) st.ob } j)=((S.objs' a)[p]?).map (sj js))∧(j∉js.drop S.ro→St.obj { st with ob:=jX js (js.drop S.ro) (S.objs' a) st.ob } j=st.obj j)):=by
  intro j
  have hdd:distinct (js.drop S.ro)=true:=rJ js hd _
  obtain ⟨h1,h2⟩:=qz js (js.drop S.ro) (S.objs' a) st.ob hdd hl'.symm j
  refine ⟨fun p hp=>?_,fun hj=>?_⟩
  ·unfold St.obj;simp only;rw[h1 p hp]
   cases (S.objs' a)[p]?<;>rfl
  ·unfold St.obj;simp only;rw[h2 hj]
 -- what an object is now
 have cases':∀j o,St.obj { st with ob:=jX js (js.drop S.ro) (S.objs' a) st.ob } j=some o →
   (st.obj j=some o∧j∉js.drop S.ro)∨∃(p:Nat) (o0 o1:Ob),(js.drop S.ro)[p]?=some j∧(S.objs' a)[p]?=some o0∧o=sj js o0∧st.obj j=some o1:=by
  intro j o ho
  by_cases hj:j∈js.drop S.ro
  ·obtain ⟨p,hp⟩:=aqE hj
   rw[(look' j).1 p hp] at ho
   cases h0:(S.objs' a)[p]? with
   | none=>simp[h0] at ho
   | some o0=>
    simp[h0] at ho
    have hp2:=hp
    rw[apP] at hp2
    obtain ⟨_,o2,_,ho2⟩:=hob _ _ hp2
    exact .inr ⟨p,o0,o2,hp,h0,ho.symm,ho2⟩
  ·exact .inl ⟨by rw[←(look' j).2 hj];exact ho,hj⟩
 have was:∀j o,St.obj { st with ob:=jX js (js.drop S.ro) (S.objs' a) st.ob } j=some o→∃o',st.obj j=some o':=by
  intro j o ho
  rcases cases' j o ho with ⟨h1,_⟩ | ⟨p,o0,o1,_,_,_,h1⟩
  ·exact ⟨o,h1⟩
  ·exact ⟨o1,h1⟩
 refine ⟨⟨fun j o ho=>?_,fun i j o o' b ho ho' hb hb'=>?_,fun j o b ho hb=>?_,fun b cs hb=>?_,fun b cs hb=>hle.mem _ _ (h.mem0 b cs hb),fun b cs hb=>?_,h.new,h.base,?_,h.hd0,h.mno,h.mkh,h.kk⟩,hle,fun v d hp=>?_⟩
 ·rcases cases' j o ho with ⟨h1,h2⟩ | ⟨p,o0,o1,hp,h0,rfl,h1⟩
  ·refine ((h.ob j o h1).mono hle).world fun b hb=>?_
   have hb':E.blk j=some b:=hb
   rcases keep b ((h.ob j o h1).fK hb') with h3 | ⟨q,i,o2,hq,h4,h5⟩
   ·exact h3
   ·have:=h.sep j i o o2 b h1 h4 hb' h5
    subst this
    exact absurd (acH hq) h2
  ·have hlf:lend=false:=by
    cases hlb:lend with
    | false=>rfl
    | true=>have:=(hlend hlb).2;rw[this] at hp;simp at hp
   have hnt:nw=true:=hnw.resolve_right fun e=>by rw[e] at hp;simp at hp
   have hp2:=hp
   rw[apP] at hp2
   have hk:S.ro+p<(S.objs a).length:=by rw[←hlen];exact (abd.1 hp2).1
   have hpost:(S.post a)[S.ro+p]?=some o0:=by
    rw[agP,if_neg (by omega),show S.ro+p-min S.ro (S.objs a).length=p by omega];exact h0
   have hrep:=h'.ob (S.ro+p) o0 (by rw[dF];exact hpost)
   have hhd:∀k,k<js.length→E'.hd k=(js[k]?).bind E.hd:=fun k hk=>h'.hd0 k (by show k<(S.objs a).length;omega)
   have hhk:E'.hd (S.ro+p)=E.hd j:=by rw[hhd _ (by omega),hp2];rfl
   cases hrep with
   | cells b T vs cs hh hw hl h1' he=>
    exact .cells b T vs _ (hhk.symm.trans hh) hw (by rw[oQ];exact hl) h1' fun k u s hu hs=>by
     rw[vg] at hs
     cases hc:cs[k]? with
     | none=>simp[hc] at hs
     | some c=>simp[hc] at hs;subst hs;exact aoK (hb0 hnt) h'.base hhd (hmem hlf) (he k u c hu hc)
   | row T sz n f v xs u hh hw hmax hl hc he=>
    exact .row T sz n f v xs u (hhk.symm.trans hh) hw hmax hl hc fun j k s hj hs=>(he j k s hj hs).mono (hmem hlf)
   | arr b T vs n f u hh hw hs hc he=>exact .arr b T vs n f u (hhk.symm.trans hh) hw hs hc fun k hk=>(he k hk).mono (hmem hlf)
   | map r es clock kt n get hh hw h1 h2 h3 h4=>exact .map r es clock kt n get (hhk.symm.trans hh) hw h1 h2 h3 (h4.mono (hmem hlf))
 ·obtain ⟨o1,h1⟩:=was i o ho
  obtain ⟨o2,h2⟩:=was j o' ho'
  exact h.sep i j o1 o2 b h1 h2 hb hb'
 ·obtain ⟨o1,h1⟩:=was j o ho
  obtain ⟨g1,g2⟩:=h.own j o1 b h1 hb
  refine ⟨?_,g2⟩
  simp only[fB,g1]
  rw[if_neg]
  have:=(h.ob j o1 h1).fK hb
  omega
 ·simp only[fB] at hb
  cases hm:E.mem b with
  | some c=>
   rw[hm] at hb;cases hb
   obtain ⟨T,fr,hw⟩:=h.mem b _ hm
   exact ⟨T,fr,by rw[memeq b _ hm];exact hw⟩
  | none=>
   rw[hm] at hb
   simp only at hb
   split at hb
   ·exact h'.mem b cs hb
   ·cases hb
 ·simp only[fB] at hb
  cases hm:E.mem b with
  | some c=>rw[hm] at hb;cases hb;exact h.memnew b _ hm
  | none=>
   rw[hm] at hb
   simp only at hb
   split at hb
   ·right;have:=h.fr.bsz;have:=h.fr.wsz;exact ⟨by omega,.inl (by show E.ws.heap.size≤b;omega)⟩
   ·cases hb
 ·refine ⟨h'.fr.os.trans h.fr.os,h'.fr.tape.trans h.fr.tape,h'.fr.output.trans h.fr.output,h.fr.bsz,aiK h.fr.wsz hsize,h.fr.wos,h.fr.isz,fun k hk hbor=>?_,h.fr.sync⟩
  have hkw:k<w.heap.size:=aky hk h.fr.wsz
  rcases keep k hkw with h1 | ⟨p,j,o,hp,h2,h3⟩
  ·rw[h1];exact h.fr.block k hk hbor
  ·have hj:=oI _ hge p j hp
   rcases (h.own j o k h2 h3).2.2 with (h4 | h4) | h4
   ·have hk2:k<E.ws.heap.size:=hk;omega
   ·exact absurd h4 hbor
   ·omega
 ·cases hf:S.fresh with
  | true=>
   rw[hf] at hp
   cases hn:nw with
   | true=>exact hp.mono (hnew hn)
   | false=>exact hp.mono fun b cs hb=>(hnew0 b cs hb).2
  | false=>
   rw[hf] at hp
   have hlf:lend=false:=by
    cases hlb:lend with
    | false=>rfl
    | true=>have:=(hlend hlb).1;rw[hf] at this;cases this
   exact hp.mono (hmem hlf)
theorem ae5 {E E':Env}:∀(cs cs':List SV) (vs vs':List Value),wS cs cs'→vs.length=cs.length→vs'.length=cs'.length →
  (∀(k:Nat) (u:Value) (s:SV),vs[k]?=some u→cs[k]?=some s→aI E u s)→(∀(k:Nat) (u:Value) (s:SV),vs'[k]?=some u→cs'[k]?=some s→aI E' u s)→vs=vs'
 | [],[],[],[],_,_,_,_,_=>rfl
 | .p f (.val a) :: l,.p g (.val b) :: l',v :: vs,v' :: vs',h,h1,h2,h3,h4=>by
  obtain ⟨rfl,h⟩:=h
  have e1:=h3 0 v _ rfl rfl
  have e2:=h4 0 v' _ rfl rfl
  have e:v=v':=by cases e1 with | p _ _ _ h=>cases h;cases e2 with | p _ _ _ h=>cases h;rfl
  rw[e,ae5 l l' vs vs' h (by simpa using h1) (by simpa using h2) (fun k u s a b=>h3 (k+1) u s (by simpa using a) (by simpa using b)) (fun k u s a b=>h4 (k+1) u s (by simpa using a) (by simpa using b))]
theorem adw {st:St}:∀(js:List Nat) (os:List Ob),acK st js os→∀(k j:Nat),js[k]?=some j→∃o,os[k]?=some o∧afs st j o
 | [],_,_,k,j,hk=>by simp at hk
 | i :: js,[],h,_,_,_=>by simp[acK] at h
 | i :: js,o :: os,h,k,j,hk=>by
  cases k with
  | zero=>simp at hk;subst hk;exact ⟨o,rfl,h.1⟩
  | succ k=>exact adw js os h.2 k j (by simpa using hk)
theorem ahC {E E':Env} {st:St} {w w':World} {j:Nat} {o o':Ob} (h:afs st j o) (hh:∀b,E.hd j=b→E'.hd j=b) (h1:∀o,st.obj j=some o→bY E w j o)
  (h2:bY E' w' j o') (h3:∀T cs cs',o=.cells T cs→wS cs cs'→∃ds,o'=.cells T ds∧wS ds cs') {b:Nat} (hb:E.blk j=some b):w'.heap[b]?=w.heap[b]?:=by
 unfold afs at h
 split at h
 ·rename_i T cs
  split at h
  ·rename_i T' cs' hst
   obtain ⟨rfl,hs⟩:=h
   obtain ⟨ds,rfl,hds⟩:=h3 T cs cs' rfl hs
   have r1:=h1 _ hst
   cases r1 with
   | cells b1 _ vs1 _ hh1 hw1 hl1 _ he1=>
    cases h2 with
    | cells b2 _ vs2 _ hh2 hw2 hl2 _ he2=>
     have e:=hh _ hh1
     rw[hh2] at e;cases e
     have e2:b1=b:=by simpa [Env.blk,hh1,aF] using hb
     subst e2
     have:=ae5 ds cs' vs2.toList vs1.toList hds (by simpa using hl2) (by simpa using hl1) (fun k u s a b=>he2 k u s (by simpa using a) b) (fun k u s a b=>he1 k u s (by simpa using a) b)
     rw[hw1,hw2,Array.toList_inj.1 this]
  ·exact h.elim
 ·exact h.elim
theorem aeA (js:List Nat):∀(cs cs':List SV),wS cs cs'→wS (ng js cs) cs'
 | [],[],_=>trivial
 | .p _ (.val _) :: l,.p _ (.val _) :: l',h=>⟨h.1,aeA js l l' h.2⟩
theorem mI {P:Program} {f:Nat} {fn:Func} (hf:P.funcs[f]?=some fn) (hb:fn.body.isSome=true) (hn:(fn.name=="runtime.NumGoroutine")=false) (args:Array Value) (w:World):(callFunc f args).run P w=.ok (.enter f args) w:=by
 have hb':¬fn.body=none:=by intro h;simp[h] at hb
 have hn':¬fn.name="runtime.NumGoroutine":=by simpa using hn
 simp[callFunc,hf,hn',hb']
theorem aa3 {C:Ctx} {E:Env} {st:St} {a:Act} {w:World} (h:ay C E st a w) {X:bq} (hnt:C.nt=X.nt) (hro:C.ro=X.ro) {d:Option Nat} (hd:bN X.nt d=true)
  {f:Nat} {args:List SV} {vs:Array Value} (hsz:vs.size=args.length) (hvs:∀(k:Nat) (u:Value) (s:SV),vs[k]?=some u→args[k]?=some s→aI E u s) {K:St→Prop} {gr:Bool} (hgl:∀p∈X.gl,C.mem0 p.1=some p.2) (htr:X.nw=true→∀b,C.base≤b→C.tm b) (hk:aaZ X gr f args d st K) {next:Act→World→Prop}
  (hn:∀st' E' a' w',K st'→ay C E' st' a' w'→(gr=true→Grow w w')→next a' w') :
  (∃fn,X.P.funcs[f]?=some fn∧fn.body.isSome=true∧(fn.name=="runtime.NumGoroutine")=false)∧Calls X.P f vs w fun e w'=>∃v,e=.returned v∧next (a.put d v) w':=by
 obtain ⟨S,⟨hfn,hS⟩,a0,js,⟨hdist,hge0,hjl,hl',hgr,hlend,hgls⟩,hargs,hobs,hpre,hk⟩:=hk
 obtain ⟨hnw0,hge⟩:=as4.1 hge0
 have hnw:X.nw=true∨dA S.ro js=[]:=(Bool.or_eq_true_iff.1 hnw0).imp id fun e=>by
  cases hj:dA S.ro js with
  | nil=>rfl
  | cons x l=>rw[hj] at e;cases e
 refine ⟨hfn,?_⟩
 obtain ⟨lend,hlb⟩:∃b,b=(jc args (S.args a0)).or (jE st js (S.objs a0)):=⟨_,rfl⟩
 rw[←hlb] at hlend
 obtain ⟨hal,hag⟩:=qI st js _ _ hargs
 have hheap:bn (kg w (aM E st w js lend (S.objs a0) S.ro fun b=>w.heap.size≤b) (S.objs a0) S.ro) _ _ _:=qG h.heap hdist (lend:=lend) (ro:=S.ro) (t:=fun b=>w.heap.size≤b) hobs (fun h1=>by rw[hlb,h1];simp)
 have hA:jP (aM E st w js lend (S.objs a0) S.ro fun b=>w.heap.size≤b) vs (S.args a0):=by
  refine ⟨by omega,fun k u c hu hc=>?_⟩
  have hka:k<args.length:=by rw[←hsz];exact (acn.1 hu).1
  have hs:args[k]?=some args[k]:=abb hka
  obtain ⟨l1,l2⟩:=lq args (S.args a0) k
  exact qh h.heap (hag k _ c hs hc) (fun hl=>by rw[hlb,l1 _ c hs hc hl];rfl)
   (fun f l f' m e1 e2 e3=>by rw[hlb,l2 f l f' m (by rw[hs,e1]) (by rw[hc,e2]) e3];rfl) (hvs k u _ hu hs)
 refine (hS a0 hpre _ vs w (fun p hp=>eG (h.heap.mem0 _ _ (hgl p (hgls.elim (fun e=>by rw[e] at hp;cases hp) (fun e=>e▸hp))))) hheap hA).mono fun e w' ⟨v,E',he,hv,hh⟩=>⟨v,he,?_⟩
 obtain ⟨g1,g2,g3⟩:=akf h.heap hdist hobs (by rw[hro];exact hge) hl' hlend htr hnw hh
 obtain ⟨_,hI',hws'⟩:E'.k=none∧E'.I=kD (aM E st w js lend (S.objs a0) S.ro fun b=>w.heap.size≤b).hd (S.objs a0) S.ro∧E'.ws=w:=hh.fr.sync
 have hblock:∀b,b<w.heap.size→¬kD (aM E st w js lend (S.objs a0) S.ro fun b=>w.heap.size≤b).hd (S.objs a0) S.ro b→w'.heap[b]?=w.heap[b]?:=fun b hb hn=>by
  have:=hh.fr.block b (by rw[hws'];exact hb) (by rw[hI'];exact hn)
  rw[hws'] at this;exact this
 have hwsz:w.heap.size≤w'.heap.size:=by have:=hh.fr.wsz;rw[hws'] at this;exact this
 have hnc:gM w w':=by
  intro D o ho hc
  have hD:=(acn.1 ho).1
  have:=hblock D hD (by
   rintro ⟨k,o1,hk1,hk2,hk3⟩
   have hr:=hheap.ob k o1 (by rw[dF];exact hk2)
   cases hr with
   | cells b T vs cs hh2 hw2 _ _ _=>
    simp[Env.blk,hh2,aF] at hk3;subst hk3;rw[hw2] at ho;cases ho;cases hc
   | row T sz n f v xs u hh2 hw2 _ _ _ _=>
    rcases hw2.2 with ⟨rfl,_⟩ | ⟨g,cap,cur,rfl,_,hg,_⟩
    ·simp[Env.blk,hh2,aF] at hk3
    ·simp[Env.blk,hh2,aF] at hk3;subst hk3;rw[hg] at ho;cases ho;cases hc
   | arr b T vs n f u hh2 hw2 _ _ _=>simp[Env.blk,hh2,aF] at hk3;subst hk3;rw[hw2] at ho;cases ho;cases hc
   | map r es clock kt n get hh2 hw2 _ _ _ _=>simp[Env.blk,hh2,aF] at hk3;subst hk3;rw[hw2] at ho;cases ho;cases hc)
  rw[this];exact ho
 refine dB (h.fC (st':={ st with ob:=jX js (dA S.ro js) (S.objs' a0) st.ob }) g2 rfl g1 ⟨rfl,rfl⟩ hnc) hnt hd hk (.p _ _ _ (g3 v _ hv)) fun st' E2 a' w2 hk' h' hw=>hn st' E2 a' w2 hk' h' fun hg=>?_
 subst hw
 obtain ⟨hol,_⟩:=mE st js js _ hobs
 rw[p8] at hgr
 refine ⟨hwsz,fun b hb=>?_⟩
 by_cases hbor:kD (aM E st w js lend (S.objs a0) S.ro fun b=>w.heap.size≤b).hd (S.objs a0) S.ro b
 ·obtain ⟨k,o,hk1,hk2,hk3⟩:=hbor
  have h1:k<js.length:=by rw[hol];exact (abd.1 hk2).1
  rcases hgr hg with hemp | hsame
  ·have h2:(js.drop S.ro).length=0:=by rw[hemp];rfl
   rw[aql] at h2
   omega
  ·have hjk:js[k]?=some js[k]:=abb h1
   have hjd:(js.drop S.ro)[k-S.ro]?=some js[k]:=by rw[apP,show S.ro+(k-S.ro)=k by omega];exact hjk
   obtain ⟨o1,ho1,hso⟩:=adw _ _ hsame _ _ hjd
   have hbl:E.blk js[k]=some b:=by
    have e:(aM E st w js lend (S.objs a0) S.ro fun b=>w.heap.size≤b).hd k=E.hd js[k]:=by simp[aM,hjk]
    rw[e] at hk3;exact hk3
   have hob:St.obj { st with ob:=jX js (dA S.ro js) (S.objs' a0) st.ob } js[k]=some (sj js o1):=by
    rw[p8] at hl' ⊢
    obtain ⟨q,_⟩:=qz js (js.drop S.ro) (S.objs' a0) st.ob (rJ js hdist _) hl'.symm js[k]
    unfold St.obj;simp only;rw[q _ hjd,ho1];rfl
   refine ahC (E:=E) (E':=fB E E' w) (o':=sj js o1) hso (fun _ e=>e) (fun o e=>h.heap.ob _ o e) (g1.ob _ _ hob) (fun T cs cs' e hs=>?_) hbl
   subst e;exact ⟨_,rfl,aeA js _ _ hs⟩
 ·exact hblock b hb hbor
structure ko (W W':World):Prop where
 size:W.heap.size≤W'.heap.size
 same:∀(k:Nat) (o:Obj),W.heap[k]?=some o→yt o=false→W'.heap[k]?=some o
theorem ko.refl (W:World):ko W W:=⟨afM _,fun _ _ h _=>h⟩
theorem ko.trans {A B C:World} (h:ko A B) (k:ko B C):ko A C:=
 ⟨aiK h.size k.size,fun i o hi ho=>k.same i o (h.same i o hi ho) ho⟩
theorem fU.refl (I:Nat→Prop) (μ:Nat→Option (Array Value)) (W:World):fU I μ W W:=⟨rfl,rfl,rfl,afM _,fun _ _=>rfl,fun _ _ _ h=>h⟩
theorem fU.trans {I:Nat→Prop} {μ:Nat→Option (Array Value)} {A B C:World} (h:fU I μ A B) (k:fU I μ B C):fU I μ A C:=
 ⟨k.os.trans h.os,k.tape.trans h.tape,k.output.trans h.output,aiK h.size k.size,fun b hb=>(k.own b hb).trans (h.own b hb),fun b cs hm ha=>k.mem b cs hm (h.mem b cs hm ha)⟩
theorem fU.putObj {I:Nat→Prop} {μ:Nat→Option (Array Value)} {W:World} {l:Nat} {o:Obj} (o':Obj) (hl:W.heap[l]?=some o) (ho:yt o=false) (hI:¬I l):fU I μ W (W.putObj l o'):=
 ⟨rfl,rfl,rfl,by simp,fun b hb=>World.putObj_heap_other (fun e=>hI (e▸hb)),fun b cs _ ⟨T,fr,ha⟩=>⟨T,fr,by
  rw[World.putObj_heap_other (fun e=>by subst e;rw[hl] at ha;cases ha;cases ho)];exact ha⟩⟩
def aak (B:Nat) (K:(Nat→Prop)→World→Prop):Prop:=∀(I I':Nat→Prop) (W W':World),K I W→(∀b,I b→I' b)→(∀b,I' b→I b∨W.heap.size≤b)→(∀b,I' b→b<W'.heap.size) →
 W'.os=W.os→W'.tape=W.tape→W'.output=W.output→W.heap.size≤W'.heap.size→(∀b o,W.heap[b]?=some o→¬I b→(b<B∨yt o=true)→W'.heap[b]?=some o)→K I' W'
theorem aak.mono {B B':Nat} {K:(Nat→Prop)→World→Prop} (h:aak B K) (hB:B≤B'):aak B' K:=
 fun I I' W W' k h1 h2 h2' h3 h4 h5 h6 h7=>h I I' W W' k h1 h2 h2' h3 h4 h5 h6 fun b o hb hI hc=>h7 b o hb hI (hc.imp (fun x=>by omega) id)
theorem aak.put {B:Nat} {K:(Nat→Prop)→World→Prop} (h:aak B K) {I:Nat→Prop} {W:World} (hK:K I W) (hI:∀b,I b→b<W.heap.size) {l:Nat} {o:Obj} (o':Obj) (hB:B≤l) (hl:W.heap[l]?=some o) (ho:yt o=false):K I (W.putObj l o'):=
 h I I W _ hK (fun _ h=>h) (fun _ h=>.inl h) (fun b hb=>by simpa using hI b hb) rfl rfl rfl (by simp) fun b o2 hb _ hc=>by
  rw[World.putObj_heap_other]
  ·exact hb
  ·rintro rfl
   rw[hl] at hb;cases hb
   rcases hc with hc | hc
   ·omega
   ·rw[ho] at hc;cases hc
def ajd (P:Program) (g:Nat) (lb:Array Value) (μ:Nat→Option (Array Value)) (xs:List (List PV)):Prop:=
 ∀(l:Nat) (J:Option Nat→(Nat→Prop)→World→Prop) (W:World),acw J →
  (∀(k:Nat) (x:List PV) (us:Array Value) (I:Nat→Prop) (W1:World),xs[k]?=some x→adQ μ us x→J (some k) I W1→YieldAt Fence.wide 9 P l us W1 fun e W'=>
   fU I μ W1 W'∧((e=.returned (.bool true)∧J (some (k+1)) I W')∨(e=.returned (.bool false)∧J none I W'))) →
  J (some 0) (fun _=>False) W→ab9 μ W →
  CallsIn Fence.wide 9 P g (#[.func (.yield l) #[] #[]]++lb) W fun e W'=>(∃v,e=.returned v)∧∃I k,J k I W'∧(k=some xs.length∨k=none)
def roundEnd (μ:Nat→Option (Array Value)) (K:Nat→(Nat→Prop)→World→Prop) (Kx:Code→(Nat→Prop)→World→Prop) (k:Nat) (I:Nat→Prop) (W:World):Exit→Act→World→Prop
 | .normal,_,W'=>ko W W'∧fU I μ W W'∧K (k+1) I W'
 | .ret,_,W'=>ko W W'∧fU I μ W W'∧Kx .ret I W'
 | .exit id,_,W'=>ko W W'∧fU I μ W W'∧Kx (.exit id) I W'
 | _,_,_=>False
theorem vN {n m:Nat} {P:Program} {f:FuncId} {args:Array Value} {w:World} {R:Ending→World→Prop}
  (h:CallsIn Fence.wide n P f args w R):CallsIn Fence.wide m P f args w R:=callsIn_wide.2 (callsIn_wide.1 h)
theorem amE {P:Program} {g:Operand} {ps:Array Tmp} {assign body:Code} {Q:Exit→Act→World→Prop} {a:Act} {w:World}
  {gf:Nat} {lb:Array Value} (hg:a.eval g=.func (.func gf) #[] lb) (eg:∀args w,(callFunc gf args).run P w=.ok (.enter gf args) w)
  {μ:Nat→Option (Array Value)} {xs:List (List PV)} (hseq:ajd P gf lb μ xs) (hμ:ab9 μ w) (hps:∀x∈xs,x.length=ps.size)
  (K:Nat→(Nat→Prop)→World→Prop) (Kx:Code→(Nat→Prop)→World→Prop) (hK:∀k,aak w.heap.size (K k)) (hKx:∀c,aak w.heap.size (Kx c)) (h0:K 0 (fun _=>False) w)
  (Ax:Nat→Array Value→(Nat→Prop)→Act→World→Prop) (hAx:∀k x a',aak w.heap.size (fun I W=>Ax k x I a' W))
  (hassign:∀(l k:Nat) (x:List PV) (us:Array Value) (I:Nat→Prop) (W:World),xs[k]?=some x→adQ μ us x→K k I W→(∀b,I b→w.heap.size≤b∧b<W.heap.size) →
   assign.wpIn (Fence.wide.inRound l) 9 P (Exit.then (fun a' W'=>ko W W'∧fU I μ W W'∧Ax k us I a' W') (fun _ _ _=>False))
    { tmps:=(ps.zip us).foldl (fun t (p,v)=>t.setIfInBounds p v) a.tmps,defers:=[] } W)
  (hbody:∀(l k:Nat) (x:List PV) (us:Array Value) (I:Nat→Prop) (a':Act) (W:World),xs[k]?=some x→adQ μ us x→Ax k us I a' W→(∀b,I b→w.heap.size≤b∧b<W.heap.size)→body.wpIn (Fence.wide.inRound l) 9 P (roundEnd μ K Kx k I W) a' W)
  (hdone:∀(D:Nat) (I:Nat→Prop) (W:World),w.heap.size≤D→K xs.length I W→W.heap[D]?=some (.deferred (some []))→Q .normal { a with defers:={ target:=.collected D,args:=#[] } :: a.defers } W)
  (hstop:∀(D:Nat) (c:Code) (I:Nat→Prop) (W:World),w.heap.size≤D→Kx c I W→W.heap[D]?=some (.deferred (some []))→c.wpIn Fence.wide 9 P Q { a with defers:={ target:=.collected D,args:=#[] } :: a.defers } W) :
  (Code.rangeFunc g ps assign body).wpIn Fence.wide 9 P Q a w:=by
 refine wpIn_rangeFunc ?_
 intro fn _
 obtain ⟨rec,hrec⟩:∃rec:LoopState→Option Code→Loop,rec=fun st pe=>{ state:=st,pending:=pe,fn,tmps:=a.tmps,params:=ps,assign,body,defers:=w.heap.size }:=⟨_,rfl⟩
 obtain ⟨W1,hW1⟩:∃W1,(w.alloc (.deferred (some []))).alloc (.loop (rec .ready none))=W1:=⟨_,rfl⟩
 have hL1:W1.heap[w.heap.size+1]?=some (.loop (rec .ready none)):=by
  rw[←hW1];have:=World.alloc_heap_new (w.alloc (.deferred (some []))) (.loop (rec .ready none));rwa [World.size_alloc] at this
 have hK1:W1.heap[w.heap.size]?=some (.deferred (some [])):=by
  rw[←hW1];exact (RowKit.Below.heap_alloc _ _ _ (by simp)).trans (World.alloc_heap_new w _)
 have hold:∀b,b<w.heap.size→W1.heap[b]?=w.heap[b]?:=fun b hb=>by
  rw[←hW1];exact (RowKit.Below.heap_alloc _ _ _ (by simp;omega)).trans (RowKit.Below.heap_alloc _ _ _ hb)
 have hs1:W1.heap.size=w.heap.size+2:=by rw[←hW1];simp
 have hos:W1.os=w.os∧W1.tape=w.tape∧W1.output=w.output:=by rw[←hW1];exact ⟨rfl,rfl,rfl⟩
 have hI1:K 0 (fun _=>False) W1:=hK 0 _ _ _ _ h0 (fun _ h=>h) (fun _ h=>.inl h) (fun _ h=>h.elim) hos.1 hos.2.1 hos.2.2 (by omega) fun b o hb _ _=>by
  rw[hold b (acn.1 hb).1];exact hb
 have hμ1:ab9 μ W1:=fun b cs hb=>by
  obtain ⟨T,fr,h⟩:=hμ b cs hb
  exact ⟨T,fr,by rw[hold b (acn.1 h).1];exact h⟩
 refine ⟨w.heap.size+1,[{ target:=.collected w.heap.size,args:=#[] }],W1,{ target:=.fn (.func gf) lb,args:=#[.func (.yield (w.heap.size+1)) #[] #[]] },W1,gf,
  #[.func (.yield (w.heap.size+1)) #[] #[]]++lb,W1,?_,?_,?_,?_,by simp[Fence.wide],?_⟩
 ·rw[←hW1,hrec];exact run_enterLoop_outer _ _ _ _ _
 ·simp only[resolve,hg]
  simp[go_sem]
 ·intro f' _;trivial
 ·simp[invoke,go_sem,eg]
 ·-- the loop's own objects
  have keepO:∀{A B:World} {I:Nat→Prop} (b:Nat) (o:Obj),b<w.heap.size+2→(∀b,I b→w.heap.size+2≤b∧b<A.heap.size)→(∀b,b<A.heap.size→¬I b→B.heap[b]?=A.heap[b]?)→A.heap[b]?=some o→B.heap[b]?=some o:=
   fun b o hb hI hs h=>by rw[hs b (acn.1 h).1 (fun hi=>by have:=hI b hi;omega)];exact h
  have grow:∀{A:World} {I I':Nat→Prop},A.heap.size≥w.heap.size+2→(∀b,I b→w.heap.size+2≤b∧b<A.heap.size)→(∀b,I' b→I b∨A.heap.size≤b)→∀b,I' b→w.heap.size+2≤b:=fun hA hI hI' b hb=>by
   rcases hI' b hb with h | h
   ·exact (hI b h).1
   ·omega
  refine (vN (hseq (w.heap.size+1)
   (fun k I W=>(∀b,I b→w.heap.size+2≤b∧b<W.heap.size)∧w.heap.size+2≤W.heap.size∧W.heap[w.heap.size]?=some (.deferred (some []))∧match k with
    | some k=>K k I W∧W.heap[w.heap.size+1]?=some (.loop (rec .ready none))
    | none=>∃c,Kx c I W∧W.heap[w.heap.size+1]?=some (.loop (rec .done (some c))))
   W1
   (fun k I I' A B hj h1 h2 h2' h3 h4 h5 h6 h7=>by
    obtain ⟨j1,j2,j3,j4⟩:=hj
    refine ⟨fun b hb=>⟨grow j2 j1 h2 b hb,h2' b hb⟩,by omega,keepO _ _ (by omega) j1 h7 j3,?_⟩
    cases k with
    | some k=>exact ⟨hK k I I' A B j4.1 h1 h2 h2' h3 h4 h5 h6 (fun b o hb hI _=>by rw[h7 b (acn.1 hb).1 hI];exact hb),keepO _ _ (by omega) j1 h7 j4.2⟩
    | none=>
     obtain ⟨c,c1,c2⟩:=j4
     exact ⟨c,hKx c I I' A B c1 h1 h2 h2' h3 h4 h5 h6 (fun b o hb hI _=>by rw[h7 b (acn.1 hb).1 hI];exact hb),keepO _ _ (by omega) j1 h7 c2⟩)
   ?_ ⟨fun _ h=>h.elim,by omega,hK1,hI1,hL1⟩ hμ1)).mono ?_
  ·-- one round
   rintro k x us I W hx hus ⟨hIb,hsz,hd,hi,hl⟩
   have hI0:∀b,I b→w.heap.size≤b∧b<W.heap.size:=fun b hb=>by have:=hIb b hb;omega
   have hnI:¬I (w.heap.size+1):=fun h=>by have:=hIb _ h;omega
   have hy:=run_yield (P:=P) (args:=us) hl (by rw[hrec,hus.1];exact hps x (acH hx))
   rw[hrec] at hy
   refine ⟨fn,_,assign,body,hy,roundIn_of_wpIn trivial (wpIn_mono (hassign _ k x us I W hx hus hi hI0) ?_)⟩
   rintro e a' Wa hp
   cases e with
   | normal=>
    obtain ⟨hka,hkpa,hax⟩:=hp
    have hla:=hka.same _ _ hl rfl
    have hda:=hka.same _ _ hd rfl
    have hlta:w.heap.size+1<Wa.heap.size:=(acn.1 hla).1
    refine ⟨_,run_beginRound hla (by rw[hrec]),?_⟩
    have hl2:(Wa.putObj (w.heap.size+1) (.loop { rec .ready none with state:=.busy })).heap[w.heap.size+1]?=some (.loop { rec .ready none with state:=.busy }):=World.putObj_heap_same hlta
    have hd2:(Wa.putObj (w.heap.size+1) (.loop { rec .ready none with state:=.busy })).heap[w.heap.size]?=some (.deferred (some [])):=(World.putObj_heap_other (by omega)).trans hda
    have hkp2:fU I μ Wa (Wa.putObj (w.heap.size+1) (.loop { rec .ready none with state:=.busy })):=fU.putObj _ hla rfl hnI
    have hIa:∀b,I b→b<Wa.heap.size:=fun b hb=>aky (hI0 b hb).2 hka.size
    have hax2:=(hAx k us a').put hax hIa (.loop { rec .ready none with state:=.busy }) (by omega) hla rfl
    refine wpIn_mono (hbody _ k x us I a' _ hx hus hax2 fun b hb=>⟨(hI0 b hb).1,by simpa using hIa b hb⟩) ?_
    have fin:∀(jump:Option Code) (W3:World),ko (Wa.putObj (w.heap.size+1) (.loop { rec .ready none with state:=.busy })) W3→fU I μ (Wa.putObj (w.heap.size+1) (.loop { rec .ready none with state:=.busy })) W3 →
      (Instr.endRound (w.heap.size+1) jump).run P W3=.ok (.bool jump.isNone) (W3.putObj (w.heap.size+1) (.loop (rec (if jump.isNone then .ready else .done) jump))) ∧
      W3.heap[w.heap.size+1]?=some (.loop { rec .ready none with state:=.busy }) ∧
      (W3.putObj (w.heap.size+1) (.loop (rec (if jump.isNone then .ready else .done) jump))).heap[w.heap.size+1]?=some (.loop (rec (if jump.isNone then .ready else .done) jump)) ∧
      (W3.putObj (w.heap.size+1) (.loop (rec (if jump.isNone then .ready else .done) jump))).heap[w.heap.size]?=some (.deferred (some []))∧w.heap.size+2≤W3.heap.size ∧
      fU I μ W (W3.putObj (w.heap.size+1) (.loop (rec (if jump.isNone then .ready else .done) jump))):=fun jump W3 hk3 hp3=>by
     have hl3:=hk3.same _ _ hl2 rfl
     have:=run_endRound (P:=P) jump hl3
     rw[hrec] at this
     refine ⟨by rw[hrec];exact this,hl3,World.putObj_heap_same (acn.1 hl3).1,(World.putObj_heap_other (by omega)).trans (hk3.same _ _ hd2 rfl),?_,hkpa.trans ((hkp2.trans hp3).trans (fU.putObj _ hl3 rfl hnI))⟩
     have:=(acn.1 hl3).1;omega
    have hI3:∀{W3:World},ko (Wa.putObj (w.heap.size+1) (.loop { rec .ready none with state:=.busy })) W3→∀b,I b→b<W3.heap.size:=fun hk3 b hb=>aky (by simpa using hIa b hb) hk3.size
    have hIn:∀{W3:World} {o:Obj},ko (Wa.putObj (w.heap.size+1) (.loop { rec .ready none with state:=.busy })) W3→∀b,I b→w.heap.size+2≤b∧b<(W3.putObj (w.heap.size+1) o).heap.size:=fun hk3 b hb=>⟨(hIb b hb).1,by simpa using hI3 hk3 b hb⟩
    rintro e a3 W3 hp
    cases e with
    | normal=>
     obtain ⟨hk3,hp3,hi3⟩:=hp
     obtain ⟨hr,hl3,hl4,hd4,hs4,hkk⟩:=fin none W3 hk3 hp3
     exact ⟨_,_,hr,hkk,.inl ⟨rfl,hIn hk3,by simpa using hs4,hd4,(hK _).put hi3 (hI3 hk3) _ (by omega) hl3 rfl,hl4⟩⟩
    | ret=>
     obtain ⟨hk3,hp3,hi3⟩:=hp
     obtain ⟨hr,hl3,hl4,hd4,hs4,hkk⟩:=fin (some .ret) W3 hk3 hp3
     exact ⟨_,_,hr,hkk,.inr ⟨rfl,hIn hk3,by simpa using hs4,hd4,.ret,(hKx _).put hi3 (hI3 hk3) _ (by omega) hl3 rfl,hl4⟩⟩
    | exit id=>
     obtain ⟨hk3,hp3,hi3⟩:=hp
     obtain ⟨hr,hl3,hl4,hd4,hs4,hkk⟩:=fin (some (.exit id)) W3 hk3 hp3
     exact ⟨_,_,hr,hkk,.inr ⟨rfl,hIn hk3,by simpa using hs4,hd4,.exit id,(hKx _).put hi3 (hI3 hk3) _ (by omega) hl3 rfl,hl4⟩⟩
    | _=>exact hp.elim
   | _=>exact hp.elim
  ·-- behind the iterator
   rintro e W2 ⟨⟨v,rfl⟩,I,k,⟨hIb,hsz,hd,hj⟩,hk⟩
   rcases hk with rfl | rfl
   ·obtain ⟨hi,hl⟩:=hj
    exact ⟨none,_,by have:=run_endLoop (P:=P) hl (by rw[hrec];simp);rw[hrec] at this;exact this,hdone _ _ _ (afM _) ((hK _).put hi (fun b hb=>(hIb b hb).2) _ (by omega) hl rfl) ((World.putObj_heap_other (by omega)).trans hd)⟩
   ·obtain ⟨c,hi,hl⟩:=hj
    exact ⟨some c,_,by have:=run_endLoop (P:=P) hl (by rw[hrec];simp);rw[hrec] at this;exact this,
     hstop _ c _ _ (afM _) ((hKx c).put hi (fun b hb=>(hIb b hb).2) _ (by omega) hl rfl) ((World.putObj_heap_other (by omega)).trans hd)⟩
structure Yields (C:Ctx) (P:Program) (l:Nat) (xs:List (List PV)):Prop where
 at_:∀(k:Nat) (x:List PV) (us:Array Value) (I:Nat→Prop) (W1:World),xs[k]?=some x→adQ C.adT us x→C.J (some k) I W1→YieldAt Fence.wide 9 P l us W1 fun e W'=>
   (fU I C.mem0 W1 W'∧∀i b,i<C.m→(C.hd0 i).bind aF=some b→W'.heap[b]?=W1.heap[b]?)∧((e=.returned (.bool true)∧C.J (some (k+1)) I W')∨(e=.returned (.bool false)∧C.J none I W'))
 abT:acw C.J
 wk:C.wk.heap=#[]
 tm:∀b,C.tm b→∃cs,C.mem0 b=some cs
structure CX (C:Ctx) (X:bq) (F:Fence):Prop where
 m:C.m=X.m
 y:∀l xs,X.yl=some (l,xs)→Yields C X.P l xs∧F=Fence.wide
 f:X.rnd=false→F=Fence.wide∧C.nm=false
 lent:∀i b,i<C.m→(C.hd0 i).bind aF=some b→b<C.base
 rm:C.ro≤C.m
 gl:∀p∈X.gl,C.mem0 p.1=some p.2
 nw:X.nw=true→∀b,C.base≤b→C.tm b
theorem xZ {gr:Bool} {C:Ctx} {E:Env} {st:St} {a:Act} {w:World} (h:ay C E st a w) {X:bq} (hnt:C.nt=X.nt) (hro:C.ro=X.ro) (hgl:∀p∈X.gl,C.mem0 p.1=some p.2) (htr:X.nw=true→∀b,C.base≤b→C.tm b) {o:Oper} (hd:bN X.nt o.dst=true) {f:Operand} {args:Array Operand} {ts:Array TypeId} (ho:o.op=.call ⟨.value f,args,ts⟩)
  {F:Fence} (hF:gJ F) {K:St→Prop} {k:Nat} {capt:List SV} {cvs:Array Value} (hfe:a.eval f=.func (.func k) #[] cvs) (hcl:cvs.size=capt.length) (hce:∀(q:Nat) (u:Value) (s:SV),cvs[q]?=some u→capt[q]?=some s→aI E u s)
  (hk:aaZ X gr k (evs st args.toList++capt) o.dst st K) {next:Act→World→Prop} {Q:Exit→Act→World→Prop}
  (hn:∀st' E' a' w',K st'→ay C E' st' a' w'→(gr=true→gQ o.op=true→Grow w w')→next a' w'):o.wpIn F 9 X.P a w next Q:=by
 have hnd:∀c',o.op≠.defer c':=by simp[ho]
 obtain ⟨e1,e2⟩:=oH h args.toList
 have hsz:(args.map a.eval++cvs).size=(evs st args.toList++capt).length:=by simp[e1,hcl]
 have hvs:∀(q:Nat) (u:Value) (s:SV),(args.map a.eval++cvs)[q]?=some u→(evs st args.toList++capt)[q]?=some s→aI E u s:=by
  intro q u s hu hs
  by_cases hq:q<args.size
  ·rw[alA (by simpa using hq)] at hu
   rw[aeM (by rw[e1];simpa using hq)] at hs
   exact e2 q u s (by simpa using hu) hs
  ·rw[arQ (by simp;omega)] at hu
   rw[afK (by rw[e1];simp;omega)] at hs
   rw[e1] at hs
   simp only[Array.size_map] at hu
   simp only[aku] at hs
   exact hce _ u s hu hs
 obtain ⟨⟨fn,hfn,hb,hnm⟩,hcalls⟩:=aa3 h hnt hro hd hsz hvs hgl htr hk fun st' E' a' w' hk' h' hg=>hn st' E' a' w' hk' h' fun g1 _=>hg g1
 refine ⟨fun g _=>hF.fn g,?_⟩
 have hrun:(execOp a.eval o).run X.P w=.ok (.enter k (args.map a.eval++cvs)) w:=by
  simp[execOp,ho,resolve,hfe,Deferred.ofValue,invoke,mI hfn hb hnm]
 rw[Oper.semAt_plain F _ _ hnd,hrun]
 rw[Oper.uponIn_enter]
 refine ⟨fun hdep=>(by rw[hF.depth] at hdep;cases hdep),hF.calls (hcalls.mono ?_)⟩
 rintro e w' ⟨v,rfl,hv⟩
 exact hv
theorem afd {gr:Bool} {C:Ctx} {E:Env} {st:St} {a:Act} {w:World} (h:ay C E st a w) {X:bq} (hnt:C.nt=X.nt) (hro:C.ro=X.ro) (hgl:∀p∈X.gl,C.mem0 p.1=some p.2) (htr:X.nw=true→∀b,C.base≤b→C.tm b) {o:Oper} (hd:bN X.nt o.dst=true) {f:Operand} {args:Array Operand} {ts:Array TypeId} (ho:o.op=.call ⟨.value f,args,ts⟩)
  {F:Fence} (hF:gJ F) {K:St→Prop} {k:Nat} {capt:List SV} {cvs:Array Value} (hfe:a.eval f=.func (.func k) cvs #[]) (hcl:cvs.size=capt.length) (hce:∀(q:Nat) (u:Value) (s:SV),cvs[q]?=some u→capt[q]?=some s→aI E u s)
  (hk:aaZ X gr k (capt++evs st args.toList) o.dst st K) {next:Act→World→Prop} {Q:Exit→Act→World→Prop}
  (hn:∀st' E' a' w',K st'→ay C E' st' a' w'→(gr=true→gQ o.op=true→Grow w w')→next a' w'):o.wpIn F 9 X.P a w next Q:=by
 have hnd:∀c',o.op≠.defer c':=by simp[ho]
 obtain ⟨e1,e2⟩:=oH h args.toList
 have hsz:(cvs++args.map a.eval).size=(capt++evs st args.toList).length:=by rw[Array.size_append,aas,e1,hcl];simp
 have hvs:∀(q:Nat) (u:Value) (s:SV),(cvs++args.map a.eval)[q]?=some u→(capt++evs st args.toList)[q]?=some s→aI E u s:=by
  intro q u s hu hs
  by_cases hq:q<cvs.size
  ·rw[alA hq] at hu
   rw[aeM (by omega)] at hs
   exact hce q u s hu hs
  ·rw[arQ (by omega)] at hu
   rw[afK (by omega),←hcl] at hs
   exact e2 _ u s (by simpa using hu) hs
 obtain ⟨⟨fn,hfn,hb,hnm⟩,hcalls⟩:=aa3 h hnt hro hd hsz hvs hgl htr hk fun st' E' a' w' hk' h' hg=>hn st' E' a' w' hk' h' fun g1 _=>hg g1
 refine ⟨fun g _=>hF.fn g,?_⟩
 have hrun:(execOp a.eval o).run X.P w=.ok (.enter k (cvs++args.map a.eval)) w:=by
  simp[execOp,ho,resolve,hfe,Deferred.ofValue,invoke,mI hfn hb hnm]
 rw[Oper.semAt_plain F _ _ hnd,hrun]
 rw[Oper.uponIn_enter]
 refine ⟨fun hdep=>(by rw[hF.depth] at hdep;cases hdep),hF.calls (hcalls.mono ?_)⟩
 rintro e w' ⟨v,rfl,hv⟩
 exact hv
theorem bn.freeze {C:Ctx} {E:Env} {st:St} {w:World} (h:bn C E st w) {i:Nat} {T:TypeId} {sz n:Nat} {f:Nat→List PV} (hob:st.obj i=some (.row T sz n f)) (hm:C.m≤i) :
  ∃E',E.Le E'∧(E'.ws=E.ws∧E'.I=E.I)∧bn C E' (st.bW i none) w∧∀v,aI E v (.row i)→aL E'.mem v (.seq n f):=by
 have hset:∀k,(st.bW i none).obj k=if i=k then none else st.obj k:=fun k=>kK st.fr st.ob st.no _ _ _ _
 have hold:∀k o,(st.bW i none).obj k=some o→st.obj k=some o∧i≠k:=fun k o ho=>by
  rw[hset] at ho
  by_cases e:i=k
  ·rw[if_pos e] at ho;cases ho
  ·rw[if_neg e] at ho;exact ⟨ho,e⟩
 obtain ⟨v0,xs,u,hh,hw,hmax,hl,hc,he⟩:=jG (h.ob _ _ hob)
 rcases hw.2 with ⟨e0,rfl⟩ | ⟨g,cap,cur,e0,_⟩
 ·subst e0
  refine ⟨E,Env.Le.refl E,⟨rfl,rfl⟩,⟨fun k o ho=>h.ob k o (hold k o ho).1,fun a b o o' bl ho ho'=>h.sep a b o o' bl (hold a o ho).1 (hold b o' ho').1,fun k o b ho=>h.own k o b (hold k o ho).1,h.mem,h.mem0,h.memnew,h.new,h.base,h.fr,h.hd0,h.mno,h.mkh,h.kk⟩,fun v hv=>?_⟩
  cases hv with
  | row _ _ hh2 _=>rw[hh] at hh2;cases hh2;exact .nil _
 ·subst e0
  obtain ⟨_,cur,u,hR⟩:=(h.ob _ _ hob).jL hh
  have hbk:E.blk i=some g:=by simp[Env.blk,hh,aF]
  obtain ⟨hg0,hg1,hg2⟩:=h.own i _ g hob hbk
  have hgb:C.base≤g:=hg1.resolve_right (fun x=>by omega)
  have hgm:E.mine g:=hg2.resolve_right (fun x=>by omega)
  have hle:E.Le (E.fE g cur):=⟨fun _ _ x=>x,fun b c hc=>by
   simp only[Env.fE]
   by_cases e:b=g
   ·subst e;rw[hg0] at hc;cases hc
   ·rw[if_neg e];exact hc,rfl⟩
  have new:∀{b c},(E.fE g cur).mem b=some c→(b=g∧c=cur)∨E.mem b=some c:=by
   intro b c hc
   simp only[Env.fE] at hc
   by_cases e:b=g
   ·rw[if_pos e] at hc;exact .inl ⟨e,(Option.some.inj hc).symm⟩
   ·rw[if_neg e] at hc;exact .inr hc
  refine ⟨E.fE g cur,hle,⟨rfl,rfl⟩,⟨fun k o ho=>(h.ob k o (hold k o ho).1).mono hle,fun a b o o' bl ho ho'=>h.sep a b o o' bl (hold a o ho).1 (hold b o' ho').1,fun k o b ho hb=>?_,fun b c hc=>?_,fun b c hc=>hle.mem b c (h.mem0 b c hc),fun b c hc=>?_,h.new,h.base,⟨h.fr.os,h.fr.tape,h.fr.output,h.fr.bsz,h.fr.wsz,h.fr.wos,h.fr.isz,h.fr.block,h.fr.sync⟩,h.hd0,h.mno,h.mkh,h.kk⟩,fun v hv=>?_⟩
  ·obtain ⟨ho,hik⟩:=hold k o ho
   obtain ⟨q1,q2⟩:=h.own k o b ho hb
   refine ⟨?_,q2⟩
   simp only[Env.fE]
   rw[if_neg (fun e=>hik (h.sep i k _ _ g hob ho hbk (by subst e;exact hb)))];exact q1
  ·rcases new hc with ⟨rfl,rfl⟩ | h1
   ·exact ⟨_,_,hR.heap⟩
   ·exact h.mem b c h1
  ·rcases new hc with ⟨rfl,rfl⟩ | h1
   ·exact .inr ⟨hgb,hgm⟩
   ·exact h.memnew b c h1
  ·cases hv with
   | row _ _ hh2 _=>
    rw[hh] at hh2;cases hh2
    exact .seq g 0 n cap sz f cur u (by simp[Env.fE]) hR.hn hR.hmax hR.hl (fun j k s hj hs=>by rw[agC];exact hR.hc j k s hj hs) (fun j k s hj hs=>(hR.he j k s hj hs).mono hle.mem)
theorem nQ:∀(G:List Nat) (l:List (Nat×Option Ob)) (i:Nat),look (mG G l) i=if i∈G then some none else look l i
 | [],l,i=>by simp[mG]
 | j :: G,l,i=>by
  simp only[mG,bC,nQ G l i,ah5]
  by_cases h:j=i
  ·subst h;simp
  ·rw[if_neg h]
   by_cases h2:i∈G
   ·rw[if_pos h2,if_pos (.inr h2)]
   ·rw[if_neg h2,if_neg (fun x=>x.elim (fun e=>h e.symm) h2)]
noncomputable def Env.iK (E : Env) (st : St) (w : World) (js : List Nat) : Env :=
  { E with mem := fun b => match E.mem b with
      | some cs => some cs
      | none => open Classical in if ∃ j o, j ∈ js ∧ st.obj j = some o ∧ E.blk j = some b then (match w.heap[b]? with | some (.cells cs _ _) => some cs | _ => none) else none }
theorem ajP {E:Env} {st:St} {w:World} {js:List Nat} {b:Nat} {cs:Array Value} (h:E.mem b=some cs):(E.iK st w js).mem b=some cs:=by simp[Env.iK,h]
theorem aaq (E:Env) (st:St) (w:World) (js:List Nat):E.Le (E.iK st w js):=⟨fun _ _ h=>h,fun _ _ h=>ajP h,rfl⟩
theorem ads {E:Env} {st:St} {w:World} {js:List Nat} {b:Nat} {cs:Array Value} (h:(E.iK st w js).mem b=some cs) :
  E.mem b=some cs∨(E.mem b=none∧(∃j o,j∈js∧st.obj j=some o∧E.blk j=some b)∧∃T fr,w.heap[b]?=some (.cells cs T fr)):=by
 simp only[Env.iK] at h
 cases hm:E.mem b with
 | some c=>rw[hm] at h;exact .inl h
 | none=>
  rw[hm] at h
  simp only at h
  split at h
  ·rename_i hx
   split at h
   ·rename_i c T fr hw
    cases h;exact .inr ⟨rfl,hx,T,fr,hw⟩
   ·cases h
  ·cases h
theorem bn.al4 {C:Ctx} {E:Env} {st:St} {w:World} (h:bn C E st w) {js:List Nat} (hm:∀j∈js,C.m≤j):bn C (E.iK st w js) { st with ob:=mG js st.ob } w:=by
 have hle:=aaq E st w js
 have hold:∀k o,St.obj { st with ob:=mG js st.ob } k=some o→st.obj k=some o∧k∉js:=fun k o ho=>by
  unfold St.obj at ho ⊢
  simp only[nQ] at ho
  by_cases e:k∈js
  ·rw[if_pos e] at ho;cases ho
  ·rw[if_neg e] at ho;exact ⟨ho,e⟩
 refine ⟨fun k o ho=>(h.ob k o (hold k o ho).1).mono hle,fun a b o o' bl ho ho'=>h.sep a b o o' bl (hold a o ho).1 (hold b o' ho').1,fun k o b ho hb=>?_,fun b c hc=>?_,fun b c hc=>hle.mem b c (h.mem0 b c hc),fun b c hc=>?_,h.new,h.base,⟨h.fr.os,h.fr.tape,h.fr.output,h.fr.bsz,h.fr.wsz,h.fr.wos,h.fr.isz,h.fr.block,h.fr.sync⟩,h.hd0,h.mno,h.mkh,h.kk⟩
 ·obtain ⟨ho,hk⟩:=hold k o ho
  obtain ⟨q1,q2⟩:=h.own k o b ho hb
  refine ⟨?_,q2⟩
  simp only[Env.iK,q1]
  rw[if_neg]
  rintro ⟨j,o',hj,ho',hb'⟩
  obtain rfl:=h.sep k j o o' b ho ho' hb hb'
  exact hk hj
 ·rcases ads hc with h1 | ⟨_,_,T,fr,hw⟩
  ·exact h.mem b c h1
  ·exact ⟨T,fr,hw⟩
 ·rcases ads hc with h1 | ⟨_,⟨j,o,hj,ho,hb⟩,_⟩
  ·exact h.memnew b c h1
  ·obtain ⟨_,q2,q3⟩:=h.own j o b ho hb
   have:=hm j hj
   exact .inr ⟨q2.resolve_right (fun x=>by omega),q3.resolve_right (fun x=>by omega)⟩
theorem agN:∀(l:List (Option PV)) (ds:List PV),sW l=some ds→l.length=ds.length∧∀(k:Nat) d,ds[k]?=some d→l[k]?=some (some d)
 | [],ds,h=>by simp[sW] at h;subst h;simp
 | none :: l,ds,h=>by simp[sW] at h
 | some d0 :: l,ds,h=>by
  simp only[sW] at h
  cases hr:sW l with
  | none=>simp[hr] at h
  | some r=>
   simp only[hr,Option.some.injEq] at h
   subst h
   obtain ⟨h1,h2⟩:=agN l r hr
   refine ⟨by simpa using h1,fun k d hd=>?_⟩
   cases k with
   | zero=>simpa using hd
   | succ k=>simpa using h2 k d (by simpa using hd)
theorem anP {C:Ctx} {E:Env} {st:St} {w:World} (h:bn C E st w) {js:List Nat}:∀(n:Nat) (s:SV) (d:PV) (v:Value),kF st js n s=some d→aI E v s→aL (E.iK st w js).mem v d:=by
 have hle:=aaq E st w js
 have fJ:∀i o bl cs T fr,gI i js=true→st.obj i=some o→E.blk i=some bl→w.heap[bl]?=some (.cells cs T fr)→(E.iK st w js).mem bl=some cs:=by
  intro i o bl cs T fr hi ho hb hw
  obtain ⟨g1,g2⟩:=h.own i o bl ho hb
  simp only[Env.iK,g1]
  rw[if_pos ⟨i,o,(eu i js).1 hi,ho,hb⟩,hw]
 have base:∀(b:Bool) (d:PV) (v:Value),aI E v (.p b d)→aL (E.iK st w js).mem v d:=by
  intro b d v hv
  cases hv with
  | p _ _ _ hp=>exact (hp.mono (E.dS b)).mono hle.mem
 have rowc:∀(i:Nat) (T:TypeId) (sz n:Nat) (f:Nat→List PV) (v:Value),gI i js=true→st.obj i=some (.row T sz n f)→aI E v (.row i)→aL (E.iK st w js).mem v (.seq n f):=by
  intro i T sz n f v hi hob hv
  obtain ⟨v0,xs,u,hh,hw,hmax,hl,hc,he⟩:=jG (h.ob _ _ hob)
  cases hv with
  | row _ _ hh2 hsl=>
   rw[hh] at hh2;cases hh2
   rcases hw.2 with ⟨rfl,rfl⟩ | ⟨g,cap,cur,rfl,_,hg,hnc,hcm,hcs,htake⟩
   ·exact .nil _
   ·have hblk:E.blk i=some g:=by simp[Env.blk,hh,aF]
    refine .seq g 0 n cap sz f cur u (fJ i _ g cur T _ hi hob hblk hg) hnc hmax hl (fun j k s hj hs=>?_) (fun j k s hj hs=>(he j k s hj hs).mono hle.mem)
    obtain ⟨c1,c2⟩:=hc j k s hj hs
    refine ⟨?_,c2⟩
    rw[agC,←aeD]
    rw[←htake,ai3] at c1
    split at c1
    ·exact c1
    ·cases c1
 have subc:∀(i sz lo n m:Nat) (T:TypeId) (f:Nat→List PV) (v:Value),gI i js=true→st.obj i=some (.row T sz m f)→aI E v (.sub i sz lo n)→aL (E.iK st w js).mem v (.seq n (fun k=>f (lo+k))):=by
  intro i sz lo n m T f v hi hob hv
  cases hv with
  | sub _ _ _ _ bl n' cap c a hh hle2 hc hr ha=>
   obtain ⟨rfl,cur,u,hR⟩:=(h.ob _ _ hob).jL hh
   rcases apT n with rfl | hn
   ·exact .emp _ _ _
   ·obtain rfl:=ha (by omega)
    have hblk:E.blk i=some bl:=by simp[Env.blk,hh,aF]
    refine .seq bl (lo*sz) n c sz _ cur (fun j k=>u (lo+j) k) (fJ i _ bl cur T _ hi hob hblk hR.heap) hc (by have:=hR.hmax;omega) (fun j hj=>hR.hl _ (by omega)) (fun j k s hj hs=>?_) (fun j k s hj hs=>(hR.he (lo+j) k s (by omega) hs).mono hle.mem)
    have:=hR.hc (lo+j) k s (by omega) hs
    rw[arM,asO] at this
    exact this
 have aslc:∀n0 i N lo n d v,kF st js n0 (.asl i N lo n)=some d→aI E v (.asl i N lo n)→aL (E.iK st w js).mem v d:=by
  intro n0 i N lo n d v hp hv
  have go:∀(T:TypeId) (f:Nat→PV),gI i js=true→st.obj i=some (.arr T N f)→aL (E.iK st w js).mem v (.seq n (fun k=>[f (lo+k)])):=by
   intro T f hi hob
   cases hv with
   | asl _ _ _ _ b c a hh hle2 hc ha=>
    obtain ⟨b',vs,hh2,hw,hs,hvc⟩:=(h.ob _ _ hob).fI
    rw[hh] at hh2;cases hh2
    rcases apT n with rfl | hn
    ·exact .emp _ _ _
    ·obtain rfl:=ha (by omega)
     have hmm:=fJ i _ b vs T _ hi hob (by simp[Env.blk,hh,aF]) hw
     refine .seq b lo n c 1 _ vs (fun j _=>vs.getD (lo+j) undef) hmm hc (by unfold maxLen;omega) (fun j hj=>rfl) (fun j k s hj hs'=>?_) (fun j k s hj hs'=>?_)
     ·have hk0:k=0:=by have:=(abd.1 hs').1;simpa using this
      subst hk0
      obtain ⟨u,u1,u2,u3⟩:=hvc (lo+j) (by omega)
      rw[anW,arO,acW,u1]
      exact ⟨rfl,u2⟩
     ·have hk0:k=0:=by have:=(abd.1 hs').1;simpa using this
      subst hk0
      simp at hs';subst hs'
      obtain ⟨u,u1,u2,u3⟩:=hvc (lo+j) (by omega)
      rw[acW,u1]
      exact u3.mono hle.mem
  cases n0<;>simp only[kF] at hp
  all_goals
   split at hp
   ·rename_i hi hob
    split at hp
    ·rename_i hb
     obtain rfl:=afD hb
     cases hp
     exact go _ _ hi hob
    ·cases hp
   ·cases hp
 have rows:∀n0 i d v,kF st js n0 (.row i)=some d→aI E v (.row i)→aL (E.iK st w js).mem v d:=by
  intro n0 i d v hp hv
  cases n0<;>simp only[kF] at hp
  all_goals
   split at hp
   ·rename_i hi hob
    cases hp
    exact rowc _ _ _ _ _ v hi hob hv
   ·cases hp
 have subs:∀n0 i sz lo n d v,kF st js n0 (.sub i sz lo n)=some d→aI E v (.sub i sz lo n)→aL (E.iK st w js).mem v d:=by
  intro n0 i sz lo n d v hp hv
  cases n0<;>simp only[kF] at hp
  all_goals
   split at hp
   ·rename_i hi hob
    split at hp
    ·rename_i hsz
     obtain rfl:=afD hsz
     cases hp
     exact subc _ _ _ _ _ _ _ v hi hob hv
    ·cases hp
   ·cases hp
 intro n
 induction n with
 | zero=>
  intro s d v hp hv
  cases s with
  | p b d0=>simp only[kF,Option.some.injEq] at hp;subst hp;exact base _ _ _ hv
  | row i=>exact rows 0 i d v hp hv
  | sub i sz lo n=>exact subs 0 i sz lo n d v hp hv
  | asl i N lo n=>exact aslc 0 i N lo n d v hp hv
  | _=>simp[kF] at hp
 | succ n ih=>
  intro s d v hp hv
  -- lists
  have get:∀(l:List SV) (vs:Array Value) (ds:List PV),sW (l.map (kF st js n))=some ds→vs.size=l.length→(∀(k:Nat) (u:Value) (s:SV),vs[k]?=some u→l[k]?=some s→aI E u s) →
    ds.length=l.length∧∀(k:Nat) (u:Value) (s:PV),vs[k]?=some u→ds[k]?=some s→aL (E.iK st w js).mem u s:=by
   intro l vs ds ha hl he
   obtain ⟨g1,g2⟩:=agN _ _ ha
   refine ⟨by simpa using g1.symm,fun k u s hu hs=>?_⟩
   have:=g2 k s hs
   simp only[ais] at this
   cases hc:l[k]? with
   | none=>simp[hc] at this
   | some c=>simp[hc] at this;exact ih c s u this (he k u c hu hc)
  cases s with
  | p b d0=>simp only[kF,Option.some.injEq] at hp;subst hp;exact base _ _ _ hv
  | row i=>exact rows (n+1) i d v hp hv
  | sub i sz lo m=>exact subs (n+1) i sz lo m d v hp hv
  | asl i N lo m=>exact aslc (n+1) i N lo m d v hp hv
  | own i off=>
   simp only[kF] at hp
   split at hp
   ·rename_i T cs hi hob
    split at hp
    ·rename_i ds hall
     cases hp
     obtain ⟨bl,hh,rfl⟩:=eX hv
     obtain ⟨bl',vs,hh',hw,hA⟩:=(h.ob _ _ hob).iC
     rw[hh] at hh';cases hh'
     obtain ⟨g1,g2⟩:=get cs vs ds hall hA.size hA.rep
     have hmm:=fJ i _ bl vs T _ hi hob (by simp[Env.blk,hh,aF]) hw
     have e0:(Value.pointer (some ⟨bl,off,none⟩))=.pointer (some ⟨bl,0+off,none⟩):=by rw[agC]
     rw[e0]
     have at_:∀(k:Nat) (s:PV),ds[k]?=some s→vs[k]?=some (vs.getD k undef):=fun k s hs=>by
      have hk:k<vs.size:=by rw[hA.size,←g1];exact (abd.1 hs).1
      rw[acW,acy hk];rfl
     refine .pt bl 0 off ds vs (fun k=>vs.getD k undef) hmm (fun k s hs=>?_) (fun k s hs=>g2 k _ s (at_ k s hs) hs)
     rw[agC]
     exact ⟨at_ k s hs,hA.one k _ (at_ k s hs)⟩
    ·cases hp
   ·rename_i T m f hi hob
    cases hp
    obtain ⟨bl,hh,rfl⟩:=eX hv
    obtain ⟨bl',vs,hh',hw,hs0,hvc⟩:=(h.ob _ _ hob).fI
    rw[hh] at hh';cases hh'
    have hmm:=fJ i _ bl vs T _ hi hob (by simp[Env.blk,hh,aF]) hw
    have e0:(Value.pointer (some ⟨bl,off,none⟩))=.pointer (some ⟨bl,0+off,none⟩):=by rw[agC]
    rw[e0]
    have lt:∀(k:Nat) (s:PV),(dL m f)[k]?=some s→k<m∧s=f k:=fun k s hs=>by
     rw[kJ] at hs
     by_cases hk:k<m
     ·rw[if_pos hk] at hs;exact ⟨hk,(Option.some.inj hs).symm⟩
     ·rw[if_neg hk] at hs;cases hs
    refine .pt bl 0 off _ vs (fun k=>vs.getD k undef) hmm (fun k s hs=>?_) (fun k s hs=>?_)
    ·obtain ⟨hk,rfl⟩:=lt k s hs
     obtain ⟨u,u1,u2,u3⟩:=hvc k hk
     rw[agC,acW,u1];exact ⟨rfl,u2⟩
    ·obtain ⟨hk,rfl⟩:=lt k s hs
     obtain ⟨u,u1,u2,u3⟩:=hvc k hk
     rw[acW,u1];exact u3.mono hle.mem
   ·cases hp
  | agg l=>
   simp only[kF] at hp
   split at hp
   ·rename_i ds hall
    cases hp
    cases hv with
    | agg vs _ hl h1 he=>
     obtain ⟨g1,g2⟩:=get l vs ds hall hl he
     exact .agg vs ds (by omega) h1 g2
   ·cases hp
  | tup l=>
   simp only[kF] at hp
   split at hp
   ·rename_i ds hall
    cases hp
    cases hv with
    | tup vs _ hl he=>
     obtain ⟨g1,g2⟩:=get l vs ds hall hl he
     exact .tup vs ds (by omega) g2
   ·cases hp
  | fn f l=>
   simp only[kF] at hp
   split at hp
   ·rename_i ds hall
    cases hp
    cases hv with
    | fn _ vs _ hl he=>
     obtain ⟨g1,g2⟩:=get l vs ds hall hl he
     exact .fn f vs ds (by omega) g2
   ·cases hp
  | _=>simp[kF] at hp
theorem pE {C:Ctx} {E:Env} {st:St} {a:Act} {w:World} (h:ay C E st a w) {X:bq} (hnt:C.nt=X.nt) (hcm:C.m=X.m) {d:Option Nat} (hd:bN X.nt d=true) {s:SV} {v:Value} (hv:aI E v s)
  {K:St→Prop} {js:List Nat} (hk:ab0 X s d st K js) {next:Act→World→Prop} (hn:∀st' E' a' w',K st'→ay C E' st' a' w'→next a' w'):next (a.put d v) w:=by
 unfold ab0 at hk
 split at hk
 ·rename_i d' hge hp
  have hh:=h.heap.al4 (js:=js) (fun j hj=>by
   obtain ⟨k,hk⟩:=aqE hj
   rw[hcm];exact oI js hge k j hk)
  exact aD (h.fC (st':={ st with ob:=mG js st.ob }) (aaq E st w js) rfl hh ⟨rfl,rfl⟩ (gM.refl w)) hnt hd hk (.p false _ _ (anP h.heap 5 s d' v hp hv)) hn
 ·exact hk.elim
theorem wH {C:Ctx} {E:Env} {st:St} {a:Act} {w:World} (h:ay C E st a w) {X:bq} (hnt:C.nt=X.nt) (hcm:C.m=X.m) {d:Option Nat} (hd:bN X.nt d=true) {s:SV} {v:Value} (hv:aI E v s)
  {K:St→Prop} (hk:ahy X s d st K) {next:Act→World→Prop} (hn:∀st' E' a' w',K st'→ay C E' st' a' w'→next a' w'):next (a.put d v) w:=by
 unfold ahy at hk
 split at hk
 ·rename_i i
  split at hk
  ·rename_i _ _ n f hb hob
   obtain ⟨E',hle,hs,hh,hv'⟩:=h.heap.freeze hob (by rw[hcm];exact ag2 hb)
   exact aD (h.fC (st':=st.bW i none) hle rfl hh hs (gM.refl w)) hnt hd hk (.p false _ _ (hv' _ hv)) hn
  ·exact hk.elim
 ·rename_i i sz lo n
  split at hk
  ·rename_i _ sz' m f hb hob
   cases hbq:sz.beq sz' with
   | false=>simp[hbq] at hk
   | true=>
    simp only[hbq] at hk
    obtain rfl:=afD hbq
    obtain ⟨E',hle,hs,hh,hv'⟩:=h.heap.freeze hob (by rw[hcm];exact ag2 hb)
    refine aD (h.fC (st':=st.bW i none) hle rfl hh hs (gM.refl w)) hnt hd hk (.p false _ _ ?_) hn
    cases hv with
    | sub _ _ _ _ b n' cap c ad hh2 hle2 hc hr ha=>
     obtain ⟨rfl,cur,u,hR⟩:=(h.heap.ob i _ hob).jL hh2
     rcases apT n with rfl | hn0
     ·exact .emp _ _ _
     ·obtain rfl:=ha (by omega)
      have hp:=hv' _ (.row i _ hh2 rfl)
      cases hp with
      | emp=>omega
      | seq _ _ _ _ sz2 _ cs u2 hm hcap hmax hl2 hc2 he2=>
       have e:sz2=sz:=by rw[←hl2 0 (by omega),hR.hl 0 (by omega)]
       subst e
       refine .seq b (lo*sz2) n c sz2 _ cs (fun j k=>u2 (lo+j) k) hm hc (by omega) (fun j hj=>hl2 _ (by omega)) (fun j k s hj hs=>?_) (fun j k s hj hs=>he2 _ _ _ (by omega) hs)
       have:=hc2 (lo+j) k s (by omega) hs
       rw[agC,arM,asO] at this
       exact this
  ·exact hk.elim
 ·exact pE h hnt hcm hd hv hk hn
 ·exact pE h hnt hcm hd hv hk hn
 ·exact pE h hnt hcm hd hv hk hn
 ·exact pE h hnt hcm hd hv hk hn
 ·exact pE h hnt hcm hd hv hk hn
 ·exact aD h hnt hd hk hv hn
theorem aha {C:Ctx} {E:Env} {st:St} {a:Act} {w:World} (h:ay C E st a w) {X:bq} (hnt:C.nt=X.nt) (hro:C.ro=X.ro) {F:Fence} (hcm:CX C X F) {o:Oper} (hd:bN X.nt o.dst=true) {f:Operand} {args:Array Operand} {ts:Array TypeId} (ho:o.op=.call ⟨.value f,args,ts⟩)
  (hF:gJ F) {K:St→Prop} {k:Nat} {capt:List SV} {cvs:Array Value} (hfe:a.eval f=.func (.func k) #[] cvs) (hcl:cvs.size=capt.length) (hce:∀(q:Nat) (u:Value) (s:SV),cvs[q]?=some u→capt[q]?=some s→aI E u s)
  (hk:aaF X k (evs st args.toList++capt) st (ajX X st.fr o.dst K)) {next:Act→World→Prop} {Q:Exit→Act→World→Prop}
  (hn:∀st' E' a' w',K st'→ay C E' st' a' w'→next a' w'):o.wpIn F 9 X.P a w next Q:=by
 have hnd:∀c',o.op≠.defer c':=by simp[ho]
 obtain ⟨e1,e2⟩:=oH h args.toList
 have hsz:(args.map a.eval++cvs).size=(evs st args.toList++capt).length:=by simp[e1,hcl]
 have hvs:∀(q:Nat) (u:Value) (s:SV),(args.map a.eval++cvs)[q]?=some u→(evs st args.toList++capt)[q]?=some s→aI E u s:=by
  intro q u s hu hs
  by_cases hq:q<args.size
  ·rw[alA (by simpa using hq)] at hu
   rw[aeM (by rw[e1];simpa using hq)] at hs
   exact e2 q u s (by simpa using hu) hs
  ·rw[arQ (by simp;omega)] at hu
   rw[afK (by rw[e1];simp;omega)] at hs
   rw[e1] at hs
   simp only[Array.size_map] at hu
   simp only[aku] at hs
   exact hce _ u s hu hs
 obtain ⟨⟨fn,hfn,hb,hnm⟩,hcalls⟩:=hk
 refine ⟨fun g _=>hF.fn g,?_⟩
 have hrun:(execOp a.eval o).run X.P w=.ok (.enter k (args.map a.eval++cvs)) w:=by
  simp[execOp,ho,resolve,hfe,Deferred.ofValue,invoke,mI hfn hb hnm]
 rw[Oper.semAt_plain F _ _ hnd,hrun]
 rw[Oper.uponIn_enter]
 refine ⟨fun hdep=>(by rw[hF.depth] at hdep;cases hdep),hF.calls ((hcalls C E _ w hcm.m hro hcm.rm hcm.lent hcm.gl hcm.nw h.heap ⟨hsz,hvs⟩).mono ?_)⟩
 rintro e w' ⟨v,E',s,st',rfl,hv,⟨hle,hws,hI⟩,hh,hnc,hK⟩
 cases st' with
 | mk fr' ob' no' k'=>
  have hM:=h.fC (st':=⟨st.fr,ob',no',k'⟩) hle rfl (hh.aoN st.fr) ⟨hws,hI⟩ hnc
  unfold ajX at hK
  cases hfz:frz X o.dst with
  | true=>simp only[hfz] at hK;exact wH hM hnt hcm.m hd hv hK hn
  | false=>simp only[hfz] at hK;exact aD hM hnt hd hK hv hn
theorem ahX {C:Ctx} {E:Env} {st:St} {a:Act} {w:World} (h:ay C E st a w) {X:bq} (hTb:X.Tb.Ok X.P) (hnt:C.nt=X.nt) (hro:C.ro=X.ro) {d:Option Nat} (hd:bN X.nt d=true) {t:Nat} {v:Value} {s:SV} {K:St→Prop}
  (hk:match look X.Tb t with
  | some ⟨.slice e,_,_,_⟩=>match look X.Tb e with
   | some ⟨_,sz+1,_,z⟩=>match s with
    | .sub i sz' lo n=>match (sz'.beq (sz+1)).and (X.ro.ble i),st.obj i with
     | true,some (.row T' sz'' m f)=>match sz''.beq (sz+1) with
      | true=>aN (st.bW i (some (.row T' (sz+1) m (rC f lo n (vals z))))) d .any K
      | false=>False
     | _,_=>False
    | _=>False
   | _=>False
  | _=>False) (hv:aI E v s) {next:Act→World→Prop} (hn:∀st' E' a' w',K st'→ay C E' st' a' w'→next a' w') (ty:TypeId) :
  ∃w',(Builtin.clear_ #[t] ty #[v]).run X.P w=.ok (.tuple #[]) w'∧next (a.put d (.tuple #[])) w':=by
 split at hk
 ·rename_i e _ _ _ hi
  have hu:X.P.underlying t=some (.slice e):=(hTb _ _ hi).desc
  split at hk
  ·rename_i _ sz by_ z hie
   split at hk
   ·rename_i i sz' lo n
    split at hk
    ·rename_i T' sz'' m f hble hob
     cases hbq:sz''.beq (sz+1) with
     | false=>simp[hbq] at hk
     | true=>
      simp only[hbq] at hk
      simp only[afT] at hble
      obtain ⟨hb1,hb2⟩:=hble
      obtain rfl:=afD hb1
      obtain rfl:=afD hbq
      have hri:C.ro≤i:=by rw[hro];exact ag2 hb2
      cases hv with
      | sub _ _ _ _ b n' cap c ad hh hle hc hr ha=>
       obtain ⟨rfl,vs,u,hR⟩:=(h.heap.ob i _ hob).jL hh
       rcases apT n with rfl | hn0
       ·refine ⟨w,?_,aD (h.fC (st':=st.bW i (some (.row T' (sz+1) n' (rC f lo 0 (vals z))))) (Env.Le.refl E) rfl ?_ ⟨rfl,rfl⟩ (gM.refl w)) hnt hd hk (.any _) hn⟩
        ·simp[Builtin.clear_,run_underlying hu]
        ·have e:∀j,rC f lo 0 (vals z) j=f j:=fun j=>by unfold rC;rw[if_neg (by omega)]
         have e2:rC f lo 0 (vals z)=f:=funext e
         rw[e2]
         exact h.heap.write hob (b:=b) (by simp[Env.blk,hh,aF]) hri (w':=w) (h.heap.ob i _ hob) rfl rfl rfl rfl (fun _ _=>rfl)
       ·obtain rfl:=ha (by omega)
        obtain ⟨I,hI,hIs,hIb,zv,hz,hzz,hone,hzc⟩:=(hTb _ _ hie).info
        simp only at hzz hzc
        have hzrun:∀w,(zeroValue e).run X.P w=.ok zv w:=fun w=>by simp[zeroValue,typeInfo,hI,hz]
        obtain ⟨L,hL⟩:∃L,L=(Builtin.zeroCells zv.cells n).toList:=⟨_,rfl⟩
        have hLl:L.length=n*(sz+1):=by rw[hL];simp[Builtin.zeroCells,hzc]
        have hLg:∀j k,j<n→k<sz+1→L[j*(sz+1)+k]?=zv.cells[k]?:=by
         intro j k hj hk
         have hlt:=kY hj hk
         have hmod:(j*(sz+1)+k) % zv.cells.size=k:=by rw[hzc,Nat.add_comm,as6,asw hk]
         have e1:zv.cells[k]?=some (zv.cells[k]'(by omega)):=acy _
         rw[hL,e1]
         simp[Builtin.zeroCells,hzc,hlt,hmod,getElem!_def,e1]
         rw[asw hk,e1]
        have hLone:∀v∈L,v.oneCell'=true:=by
         intro v hv
         obtain ⟨q,hq⟩:=aqE hv
         have hql:q<n*(sz+1):=by rw[←hLl];exact (abd.1 hq).1
         obtain ⟨d1,d2,d3⟩:=xM hql
         have:=hLg _ _ d1 d2
         rw[d3,hq] at this
         exact hone _ _ this.symm
        have hfit:lo*(sz+1)+n*(sz+1)≤vs.size:=by
         rw[hR.size,←arM];exact ajg _ (by have:=hR.hn;omega)
        have hst:=run_storeCells_at X.P b (lo*(sz+1)) T' L 0 vs w hR.heap (by rw[hLl];omega) hLone
        simp only[arO] at hst
        generalize hcs':(vs.toList.take (lo*(sz+1))++L++vs.toList.drop (lo*(sz+1)+L.length)).toArray=vs' at hst
        have hvs':vs'.size=vs.size:=by
         rw[←hcs'];simp only[asL,aas,aik,aql,hLl,aku];omega
        have hat:∀q,vs'[q]?=if lo*(sz+1)≤q∧q<lo*(sz+1)+n*(sz+1) then L[q-lo*(sz+1)]? else vs[q]?:=by
         intro q
         have hl1:(vs.toList.take (lo*(sz+1))).length=lo*(sz+1):=by rw[aik,aku];omega
         rw[←hcs']
         simp only[asD]
         by_cases hin:lo*(sz+1)≤q∧q<lo*(sz+1)+n*(sz+1)
         ·rw[if_pos hin,aeM (by rw[aas,hl1,hLl];omega),afK (by omega),hl1]
         ·rw[if_neg hin]
          by_cases hlt:q<lo*(sz+1)
          ·rw[aeM (by rw[aas,hl1];omega),aeM (by omega),ai3,if_pos hlt,aeD]
          ·rw[afK (by rw[aas,hl1,hLl];omega),aas,hl1,hLl,apP,show lo*(sz+1)+n*(sz+1)+(q-(lo*(sz+1)+n*(sz+1)))=q by omega,aeD]
        have flen:∀j',j'<n'→(rC f lo n (vals z) j').length=sz+1:=by
         intro j' hj'
         unfold rC
         split
         ·rw[qE,←hzz,aku];exact hzc
         ·exact hR.hl j' hj'
        have cellOf:∀j' k s,j'<n'→(rC f lo n (vals z) j')[k]?=some s→∃v,vs'[j'*(sz+1)+k]?=some v∧v.oneCell'=true∧aL E.mem v s:=by
         intro j' k s hj' hs
         have hks:k<sz+1:=by rw[←flen j' hj'];exact (abd.1 hs).1
         unfold rC at hs
         rw[hat]
         by_cases hin:lo≤j'∧j'<lo+n
         ·rw[if_pos hin,om,←hzz,aeD] at hs
          obtain ⟨q,rfl⟩:∃q,j'=lo+q:=⟨j' - lo,by omega⟩
          have hq:=kY (show q<n by omega) hks
          have e3:(lo+q)*(sz+1)+k=lo*(sz+1)+(q*(sz+1)+k):=by rw[arM];omega
          rw[e3,if_pos (by omega),asr,hLg q k (by omega) hks]
          cases hq2:zv.cells[k]? with
          | none=>rw[hq2] at hs;cases hs
          | some x=>
           rw[hq2] at hs;simp only[alC,Option.some.injEq] at hs;subst hs
           exact ⟨x,rfl,hone _ _ hq2,.val x⟩
         ·rw[if_neg hin] at hs
          have hout:¬(lo*(sz+1)≤j'*(sz+1)+k∧j'*(sz+1)+k<lo*(sz+1)+n*(sz+1)):=by
           rintro ⟨h1,h2⟩
           apply hin
           rw[←arM] at h2
           constructor
           ·exact Classical.byContradiction fun hh=>by
             have:=kY (Nat.lt_of_not_le hh) hks;omega
           ·exact Classical.byContradiction fun hh=>by
             have:=ajg (sz+1) (Nat.le_of_not_lt hh);omega
          rw[if_neg hout]
          obtain ⟨h1,h2⟩:=hR.hc j' k s hj' hs
          exact ⟨_,h1,h2,hR.he j' k s hj' hs⟩
        have hh2:=h.heap.write (o':=.row T' (sz+1) n' (rC f lo n (vals z))) hob (b:=b) (by simp[Env.blk,hh,aF]) hri (w':=w.setRow b vs')
         (.row T' (sz+1) n' _ _ (vs'.toList.take (n'*(sz+1))) (fun j' k=>vs'.getD (j'*(sz+1)+k) undef) hh
          ⟨by rw[aik,aku,hvs',hR.size];have:=ajg (sz+1) hR.hn;omega,.inr ⟨b,cap,vs',rfl,ae4 _,setRow_heap w b vs vs' T' (0,0) hR.heap,hR.hn,hR.hcap,by rw[hvs'];exact hR.size,rfl⟩⟩ hR.hmax
          flen
          (fun j' k s hj' hs=>by
           obtain ⟨v,h1,h2,h3⟩:=cellOf j' k s hj' hs
           have hks:k<sz+1:=by rw[←flen j' hj'];exact (abd.1 hs).1
           rw[ai3,if_pos (kY hj' hks),aeD,acW,h1]
           exact ⟨rfl,h2⟩)
          (fun j' k s hj' hs=>by
           obtain ⟨v,h1,h2,h3⟩:=cellOf j' k s hj' hs
           rw[acW,h1];exact h3)) rfl rfl rfl (by simp) (fun k hk=>setRow_other w b k vs' hk)
        refine ⟨w.setRow b vs',?_,aD (h.fC (st':=st.bW i (some (.row T' (sz+1) n' (rC f lo n (vals z))))) (Env.Le.refl E) rfl hh2 ⟨rfl,rfl⟩ (lu hR.heap fun k hk=>setRow_other w b k vs' hk)) hnt hd hk (.any _) hn⟩
        obtain ⟨n1,rfl⟩:∃n1,n=n1+1:=⟨n-1,by omega⟩
        rw[hL] at hst
        simp[Builtin.clear_,run_underlying hu,hzrun,hst]
    ·exact hk.elim
   ·exact hk.elim
  ·exact hk.elim
 ·exact hk.elim
theorem ajW {C:Ctx} {E:Env} {st:St} {a:Act} {w:World} (h:ay C E st a w) {X:bq} (hTb:X.Tb.Ok X.P) (hnt:C.nt=X.nt) (hro:C.ro=X.ro) {d:Option Nat} (hd:bN X.nt d=true) {t t':Nat} {x y:SV} {vx vy:Value} {K:St→Prop}
  (hk:ako X t x y d st K) (hx:aI E vx x) (hy:aI E vy y) {next:Act→World→Prop} (hn:∀st' E' a' w',K st'→ay C E' st' a' w'→next a' w') (ty:TypeId) :
  ∃v w',(Builtin.copy_ #[t,t'] ty #[vx,vy]).run X.P w=.ok v w'∧next (a.put d v) w':=by
 unfold ako at hk
 split at hk
 case h_2=>exact hk.elim
 rename_i e _ _ _ hi
 have hu:X.P.underlying t=some (.slice e):=(hTb _ _ hi).desc
 split at hk
 case h_2=>exact hk.elim
 rename_i _ _ _ hie
 split at hk
 case h_2=>exact hk.elim
 rename_i i N lo n
 split at hk
 case h_2=>exact hk.elim
 rename_i T N' f hble hob
 split at hk
 case h_2=>exact hk.elim
 rename_i b m g
 obtain ⟨⟨rfl,hg1⟩,hk⟩:=hk
 have hri:C.ro≤i:=by rw[hro];exact ag2 hble
 obtain ⟨b',vs,hh,hw,hs,hvc⟩:=(h.heap.ob i _ hob).fI
 obtain ⟨I,hI,hIs,_⟩:=(hTb _ _ hie).info
 have hIs:I.size=1:=hIs
 cases hx with
 | asl _ _ _ _ bb c ad hh2 hle hc ha=>
  rw[hh] at hh2;cases hh2
  have hpy:aL (E.m b) vy (.seq m g):=by cases hy with | p _ _ _ hp=>exact hp
  have zero:Nat.min m n=0→(Builtin.copy_ #[t,t'] ty #[.slice (some ad) n c,vy]).run X.P w=.ok (goInt 0) w→∃v w',(Builtin.copy_ #[t,t'] ty #[.slice (some ad) n c,vy]).run X.P w=.ok v w'∧next (a.put d v) w':=by
   intro h0 hr
   refine ⟨_,w,hr,?_⟩
   rw[h0] at hk
   have e:aaA f lo 0 g=f:=by funext k;unfold aaA;rw[if_neg (by omega)]
   rw[e] at hk
   have hh3:=h.heap.write (o':=.arr T N' f) hob (b:=b') (by simp[Env.blk,hh,aF]) hri (w':=w) (h.heap.ob i _ hob) rfl rfl rfl rfl (fun _ _=>rfl)
   exact aD (h.fC (st':=st.bW i (some (.arr T N' f))) (Env.Le.refl E) rfl hh3 ⟨rfl,rfl⟩ (gM.refl w)) hnt hd hk (.val _ _) hn
  rcases apT (Nat.min m n) with h0 | h0
  ·refine zero h0 ?_
   have h0':min m n=0:=h0
   cases hpy with
   | nil=>simp[Builtin.copy_,run_underlying hu,Builtin.lenOf,Builtin.firstCells,sizeOf,typeInfo,hI,hIs,h0',storeCells]
   | emp a0=>
    have hl0:=run_loadCells_list (P:=X.P) w a0 [] (by simp)
    simp only[al7] at hl0
    simp[Builtin.copy_,run_underlying hu,Builtin.lenOf,Builtin.firstCells,sizeOf,typeInfo,hI,hIs,storeCells,hl0]
   | seq b2 o2=>
    have hl0:=run_loadCells_list (P:=X.P) w ⟨b2,o2,none⟩ [] (by simp)
    simp only[al7] at hl0
    simp[Builtin.copy_,run_underlying hu,Builtin.lenOf,Builtin.firstCells,sizeOf,typeInfo,hI,hIs,h0',storeCells,hl0]
  ·have hmp:0<m∧0<n:=by have:0<min m n:=h0;omega
   obtain rfl:=ha (by omega)
   cases hpy with
   | nil=>omega
   | emp=>omega
   | seq b2 o2 _ cap sz _ cs u hm hcap hmax hl hc2 he=>
    have hsz:sz=1:=by rw[←hl 0 hmp.1,hg1 0 hmp.1]
    subst hsz
    obtain ⟨T2,fr2,hw2⟩:=h.heap.mem b2 cs (E.dS b _ _ hm)
    obtain ⟨q,hq⟩:∃q,q=Nat.min m n:=⟨_,rfl⟩
    have hqm:q≤m∧q≤n:=by have:q=min m n:=hq;omega
    have at_:∀j,j<q→∃s,(g j)[0]?=some s∧kC (g j) 0=s:=fun j hj=>by
     have:=hg1 j (by omega)
     cases hgj:g j with
     | nil=>rw[hgj] at this;cases this
     | cons s l=>exact ⟨s,rfl,rfl⟩
    obtain ⟨L,hL⟩:∃L:List Value,L=(List.range q).map (fun j=>u j 0):=⟨_,rfl⟩
    have hLl:L.length=q:=by rw[hL];simp
    have hLg:∀j,j<q→L[j]?=some (u j 0):=fun j hj=>by rw[hL,ais,asR hj];rfl
    have hcell:∀j,j<q→cs[o2+j]?=some (u j 0)∧(u j 0).oneCell'=true∧aL (E.m b) (u j 0) (kC (g j) 0):=fun j hj=>by
     obtain ⟨s,h1,h2⟩:=at_ j hj
     have:=hc2 j 0 s (by omega) h1
     rw[anW,arO] at this
     exact ⟨this.1,this.2,h2▸he j 0 s (by omega) h1⟩
    have hrun:=run_copy_row (P:=X.P) w t t' ty e b' lo n c ⟨b2,o2,none⟩ m cap vs T L hu (by rw[hI];simp[hIs]) hw (by rw[hLl,hq]) (fun j v hj=>by
      have hjl:j<q:=by rw[←hLl];exact (abd.1 hj).1
      rw[hLg j hjl] at hj;cases hj
      simp only[Addr.add_lit,World.cell?,hw2]
      exact (hcell j hjl).1) (by rw[hLl];omega) (fun v hv=>by
      obtain ⟨j,hj⟩:=aqE hv
      have hjl:j<q:=by rw[←hLl];exact (abd.1 hj).1
      rw[hLg j hjl] at hj;cases hj
      exact (hcell j hjl).2.1)
    generalize hvs':(vs.toList.take lo++L++vs.toList.drop (lo+L.length)).toArray=vs' at hrun
    refine ⟨_,_,hrun,?_⟩
    have hsz':vs'.size=vs.size:=by
     rw[←hvs'];simp only[asL,aas,aik,aql,aku];omega
    have hat:∀k,vs'[k]?=if lo≤k∧k<lo+q then L[k-lo]? else vs[k]?:=by
     intro k
     have hl1:(vs.toList.take lo).length=lo:=by rw[aik,aku];omega
     rw[←hvs']
     simp only[asD]
     by_cases hin:lo≤k∧k<lo+q
     ·rw[if_pos hin,aeM (by rw[aas,hl1];omega),afK (by omega),hl1]
     ·rw[if_neg hin]
      by_cases hlt:k<lo
      ·rw[aeM (by rw[aas,hl1];omega),aeM (by omega),ai3,if_pos hlt,aeD]
      ·rw[afK (by rw[aas,hl1];omega),aas,hl1,hLl,apP,show lo+q+(k-(lo+q))=k by omega,aeD]
    rw[←hq] at hk
    refine abH h hnt hd hob hri hh hw ⟨by omega,hs.2⟩ (fun k hk2=>?_) (.val _ _) (by rw[hLl];exact hk) hn
    rw[hat k]
    unfold aaA
    by_cases hin:lo≤k∧k<lo+q
    ·rw[if_pos hin,if_pos hin,hLg _ (by omega)]
     obtain ⟨c1,c2,c3⟩:=hcell (k-lo) (by omega)
     exact ⟨_,rfl,c2,c3.mono (E.dS b)⟩
    ·rw[if_neg hin,if_neg hin]
     exact hvc k hk2
theorem amx {μ:Nat→Option (Array Value)} {u v:Value} (h:aL μ u (yZ v)):u=v:=by
 cases v with
 | agg cs=>
  obtain ⟨vs,rfl,hl,h1,he⟩:=h.jO
  have hsz:vs.size=cs.size:=by simpa using hl
  congr 1
  apply asZ
  intro k
  rcases aqQ k vs.size with hk | hk
  ·have h2:=he k vs[k] (.val cs[k]) (acy hk) (by rw[hsz] at hk;simp[hk])
   rw[acy hk,h2.aJ,acy (by omega)]
  ·rw[alv hk,alv (by omega)]
 | _=>exact h.aJ
theorem uQ:∀{l:List PV},fM l=true→∀(k:Nat) s,l[k]?=some s→∃v,s=.val v
 | [],_,k,s,h=>by simp at h
 | .val v :: l,ha,k,s,h=>by
  cases k with
  | zero=>simp at h;exact ⟨v,h.symm⟩
  | succ k=>exact uQ (l:=l) ha k s (by simpa using h)
 | .seq _ _ :: l,ha,k,s,h=>by simp[fM] at ha
 | .pt _ _ :: l,ha,k,s,h=>by simp[fM] at ha
 | .agg _ :: l,ha,k,s,h=>by simp[fM] at ha
 | .tup _ :: l,ha,k,s,h=>by simp[fM] at ha
 | .fn _ _ :: l,ha,k,s,h=>by simp[fM] at ha
theorem aeK {μ μ':Nat→Option (Array Value)} {n:Nat} {f:Nat→PV} {v:Value} (h:∀k,k<n→fM [f k]=true) (hv:aL μ v (.arr n f)):aL μ' v (.arr n f):=by
 obtain ⟨vs,rfl,hs,hc⟩:=hv.fI
 refine aL.qB hs fun k hk=>?_
 obtain ⟨u,h1,h2,h3⟩:=hc k hk
 obtain ⟨x,hx⟩:=uQ (h k hk) 0 (f k) rfl
 refine ⟨u,h1,h2,?_⟩
 rw[hx] at h3 ⊢
 rw[h3.aJ];exact .val _
theorem akc {E:Env} {b:Bool} {d:PV} {v:Value} (h:vQ b d) (hv:aL (E.m b) v d):aL (E.m true) v d:=by
 cases b with
 | true=>exact hv
 | false=>
  cases d with
  | val u=>obtain rfl:=hv.aJ;exact .val _
  | agg l=>
   simp only[vQ] at h
   split at h
   ·rename_i ha
    obtain ⟨vs,rfl,hl,h1,he⟩:=hv.jO
    refine .agg vs l hl h1 fun k u s hu hs=>?_
    obtain ⟨w,rfl⟩:=uQ ha k s hs
    obtain rfl:=(he k u _ hu hs).aJ
    exact .val _
   ·exact h.elim
  | arr n f=>exact aeK h hv
  | _=>exact h.elim
theorem yQ {E:Env}:∀(ss:List SV) (x:List PV),mM ss x→ss.length=x.length∧∀(k:Nat) s d u,ss[k]?=some s→x[k]?=some d→aI E u s→aL (E.m true) u d
 | [],[],_=>by simp
 | [],_ :: _,h=>by simp[mM] at h
 | s :: ss,[],h=>by cases s<;>simp[mM] at h
 | s :: ss,v :: vs,h=>by
  have one:∀{b:Bool} {d x:PV} {u:Value},wT b d x→aI E u (.p b d)→aL (E.m true) u x:=fun h1 h2=>by
   cases h2 with | p _ _ _ hp=>exact oz h1.2 (akc h1.1 hp)
  have h':(∃b d,s=.p b d∧wT b d v)∧(mM ss vs):=by
   cases s with
   | p b d=>
    cases ss with
    | nil=>cases vs with
     | nil=>exact ⟨⟨b,d,rfl,h⟩,trivial⟩
     | cons _ _=>exact ⟨⟨b,d,rfl,h.1⟩,h.2⟩
    | cons _ _=>exact ⟨⟨b,d,rfl,h.1⟩,h.2⟩
   | _=>simp[mM] at h
  obtain ⟨⟨b,d,rfl,hd⟩,hr⟩:=h'
  obtain ⟨h1,h2⟩:=yQ (E:=E) ss vs hr
  refine ⟨by simp[h1],fun k s d' u hs hv hu=>?_⟩
  cases k with
  | zero=>simp at hs hv;subst hs;subst hv;exact one hd hu
  | succ k=>exact h2 k s d' u (by simpa using hs) (by simpa using hv) hu
theorem handed {C:Ctx} {E:Env} {st:St} {w:World} (h:bn C E st w) (htm:∀b,C.tm b→∃cs,C.mem0 b=some cs):∀b cs,E.m true b=some cs→C.adT b=some cs:=by
 intro b cs hb
 simp only[Env.m] at hb
 split at hb
 ·rename_i ht
  rw[h.base] at ht
  obtain ⟨c,hc⟩:=htm b ht
  have:=h.mem0 b c hc
  rw[hb] at this;cases this
  unfold Ctx.adT
  rw[if_pos ht];exact hc
 ·cases hb
theorem ay.yielded {C:Ctx} {E:Env} {st:St} {a:Act} {w:World} (h:ay C E st a w) (hwk:C.wk.heap=#[]) {w':World} {k':Option Nat} {I1:Nat→Prop}
  (hI1:∀b,(E.I b∨(E.ws.heap.size≤b∧b<w.heap.size))→I1 b) (hI2:∀b,I1 b→b<w'.heap.size)
  (hk:fU (fun b=>E.I b∨(E.ws.heap.size≤b∧b<w.heap.size)) C.mem0 w w') (hkl:∀i b,i<C.m→(C.hd0 i).bind aF=some b→w'.heap[b]?=w.heap[b]?) (hj:C.J k' I1 w') :
  ay C { E with ws:=w',I:=I1,k:=k' } { st with k:=k' } a w':=by
 have hmine:∀b,E.mine b→b<w.heap.size→(E.I b∨(E.ws.heap.size≤b∧b<w.heap.size)):=fun b hb hlt=>hb.elim (fun x=>.inr ⟨x,hlt⟩) .inl
 have hle:E.Le { E with ws:=w',I:=I1,k:=k' }:=⟨fun _ _ h=>h,fun _ _ h=>h,rfl⟩
 have hlt:∀i b,i<C.m→E.blk i=some b→w'.heap[b]?=w.heap[b]?:=fun i b hi hb=>hkl i b hi (by
  have:=h.heap.mkh
  rw[←h.heap.hd0 i (by omega)];exact hb)
 refine ⟨h.size,fun t=>(h.slot t).mono hle,⟨fun i o ho=>?_,h.heap.sep,fun i o b ho hb=>?_,fun b cs hb=>?_,h.heap.mem0,fun b cs hb=>?_,h.heap.new,h.heap.base,⟨?_,?_,?_,?_,afM _,?_,hI2,fun _ _ _=>rfl,hj⟩,h.heap.hd0,h.heap.mno,h.heap.mkh,rfl⟩,?_⟩
 ·refine ((h.heap.ob i o ho).mono hle).world fun b hb=>?_
  have hb':E.blk i=some b:=hb
  rcases (h.heap.own i o b ho hb').2.2 with this | this
  ·exact hk.own b (hmine b this ((h.heap.ob i o ho).fK hb'))
  ·exact hlt i b this.1 hb'
 ·obtain ⟨g1,g2,g3⟩:=h.heap.own i o b ho hb
  exact ⟨g1,g2,g3.imp (fun x=>.inr (hI1 b (hmine b x ((h.heap.ob i o ho).fK hb)))) id⟩
 ·rcases h.heap.memnew b cs hb with h1 | h1
  ·exact hk.mem b cs h1 (h.heap.mem b cs hb)
  ·obtain ⟨T,fr,hw⟩:=h.heap.mem b cs hb
   exact ⟨T,fr,by rw[hk.own b (hmine b h1.2 (h.heap.lQ hb))];exact hw⟩
 ·rcases h.heap.memnew b cs hb with h1 | h1
  ·exact .inl h1
  ·exact .inr ⟨h1.1,.inr (hI1 b (hmine b h1.2 (h.heap.lQ hb)))⟩
 ·exact hk.os.trans h.heap.fr.os
 ·exact hk.tape.trans h.heap.fr.tape
 ·exact hk.output.trans h.heap.fr.output
 ·exact aiK (aiK h.heap.fr.bsz h.heap.fr.wsz) hk.size
 ·exact ⟨hk.os.trans h.heap.fr.os,hk.tape.trans h.heap.fr.tape,hk.output.trans h.heap.fr.output⟩
 ·obtain ⟨_,l,l0,l1,l2,l3⟩:=h.marks
  refine ⟨fun D o hD _=>by rw[hwk] at hD;simp at hD,l,l0,l1,l2,fun D hD=>?_⟩
  obtain ⟨⟨d1,d2⟩,d3⟩:=l3 D hD
  have:=hmine D d2 (acn.1 d3).1
  exact ⟨⟨d1,.inr (hI1 D this)⟩,by rw[hk.own D this];exact d3⟩
theorem ay.sync {C:Ctx} {E:Env} {st:St} {a:Act} {w:World} (h:ay C E st a w) (hs:acw C.J):C.J E.k (fun b=>E.I b∨(E.ws.heap.size≤b∧b<w.heap.size)) w:=
 hs _ _ _ _ _ h.heap.fr.sync (fun b hb=>.inl hb) (fun b hb=>hb.imp id (fun x=>x.1)) (fun b hb=>hb.elim (fun x=>aky (h.heap.fr.isz b x) h.heap.fr.wsz) (fun x=>x.2)) (h.heap.fr.os.trans h.heap.fr.wos.1.symm) (h.heap.fr.tape.trans h.heap.fr.wos.2.1.symm) (h.heap.fr.output.trans h.heap.fr.wos.2.2.symm) h.heap.fr.wsz h.heap.fr.block
theorem ahO {C:Ctx} {E:Env} {st:St} {a:Act} {w:World} (h:ay C E st a w) {X:bq} (hnt:C.nt=X.nt) {F:Fence} (hcm:CX C X F) {o:Oper} (hd:bN X.nt o.dst=true) {f:Operand} {args:Array Operand} {ts:Array TypeId} (ho:o.op=.call ⟨.value f,args,ts⟩)
  {K:St→Prop} {l:Nat} (hfe:a.eval f=.func (.yield l) #[] #[]) (hk:agt X l (evs st args.toList) o.dst st K) {next:Act→World→Prop} {Q:Exit→Act→World→Prop}
  (hn:∀st' E' a' w',K st'→ay C E' st' a' w'→next a' w'):o.wpIn F 9 X.P a w next Q:=by
 have hnd:∀c',o.op≠.defer c':=by simp[ho]
 unfold agt at hk
 split at hk
 ·rename_i l' xs fr ob no k hyl
  obtain ⟨rfl,vs,hvs,hargs,hk1,hk2⟩:=hk
  obtain ⟨Y,hF⟩:=hcm.y _ _ hyl
  subst hF
  obtain ⟨e1,e2⟩:=oH h args.toList
  obtain ⟨g1,g2⟩:=yQ (E:=E) _ _ hargs
  have hav:adQ C.adT (args.map a.eval) vs:=by
   refine ⟨by rw[←g1,e1];simp,fun q u s hu hs=>?_⟩
   have hq:q<args.size:=by have:=(acn.1 hu).1;simpa using this
   have hq2:q<(evs ⟨fr,ob,no,some k⟩ args.toList).length:=by rw[e1];simpa using hq
   exact (g2 q _ s u (abb hq2) hs (e2 q _ _ (by simpa using hu) (abb hq2))).mono (handed h.heap Y.tm)
  have hkE:E.k=some k:=h.heap.kk
  have hsync:=h.heap.fr.sync
  rw[hkE] at hsync
  have hJ:C.J (some k) (fun b=>E.I b∨(E.ws.heap.size≤b∧b<w.heap.size)) w:=
   Y.abT _ _ _ _ _ hsync (fun b hb=>.inl hb) (fun b hb=>hb.imp id (fun x=>x.1)) (fun b hb=>hb.elim (fun x=>aky (h.heap.fr.isz b x) h.heap.fr.wsz) (fun x=>x.2)) (h.heap.fr.os.trans h.heap.fr.wos.1.symm) (h.heap.fr.tape.trans h.heap.fr.wos.2.1.symm) (h.heap.fr.output.trans h.heap.fr.wos.2.2.symm) h.heap.fr.wsz h.heap.fr.block
  obtain ⟨fn,tmps,assign,body,hy,hround⟩:=Y.at_ k vs (args.map a.eval) _ w hvs hav hJ
  refine ⟨fun g _=>trivial,?_⟩
  have hrun:(execOp a.eval o).run X.P w=.ok (.round l fn tmps assign body) w:=by
   simp[execOp,ho,resolve,hfe,Deferred.ofValue,invoke,hy]
  rw[Oper.semAt_plain Fence.wide _ _ hnd,hrun]
  rw[Oper.uponIn_round]
  refine ⟨fun hdep=>(by simp[Fence.wide] at hdep),?_⟩
  have hround':RoundIn Fence.wide 8 X.P l fn tmps assign body w _:=⟨trivial,fun c cs _=>hround.2 c cs (room_wide _)⟩
  refine hround'.mono ?_
  have hlt:∀w':World,w.heap.size≤w'.heap.size→∀b,(E.I b∨(E.ws.heap.size≤b∧b<w.heap.size))→b<w'.heap.size:=fun w' hs b hb=>hb.elim (fun x=>aky (h.heap.fr.isz b x) (aiK h.heap.fr.wsz hs)) (fun x=>aky x.2 hs)
  rintro e w' ⟨⟨hk,hkl⟩,⟨rfl,hj⟩ | ⟨rfl,hj⟩⟩
  ·exact aD (h.yielded Y.wk (fun _ x=>x) (hlt w' hk.size) hk hkl hj) hnt hd hk1 (.val _ _) hn
  ·exact aD (h.yielded Y.wk (fun _ x=>x) (hlt w' hk.size) hk hkl hj) hnt hd hk2 (.val _ _) hn
 ·exact hk.elim
theorem afe {C:Ctx} {E:Env} {st:St} {a:Act} {w:World} (h:ay C E st a w) {X:bq} (hnt:C.nt=X.nt) (hro:C.ro=X.ro) {F:Fence} (hcm:CX C X F) {o:Oper} (hd:bN X.nt o.dst=true) {f:Operand} {args:Array Operand} {ts:Array TypeId} (ho:o.op=.call ⟨.value f,args,ts⟩)
  (hF:gJ F) {K:St→Prop} {g:Nat} {capt:List SV} {cvs:Array Value} (hfe:a.eval f=.func (.func g) #[] cvs) (hcl:cvs.size=capt.length) (hce:∀(q:Nat) (u:Value) (s:SV),cvs[q]?=some u→capt[q]?=some s→aI E u s)
  (hk:ahj X g (evs st args.toList++capt) o.dst st K) {next:Act→World→Prop} {Q:Exit→Act→World→Prop}
  (hn:∀st' E' a' w',K st'→ay C E' st' a' w'→next a' w'):o.wpIn F 9 X.P a w next Q:=by
 have hnd:∀c',o.op≠.defer c':=by simp[ho]
 obtain ⟨e1,e2⟩:=oH h args.toList
 have hsz:(args.map a.eval++cvs).size=(evs st args.toList++capt).length:=by simp[e1,hcl]
 have hvs:∀(q:Nat) (u:Value) (s:SV),(args.map a.eval++cvs)[q]?=some u→(evs st args.toList++capt)[q]?=some s→aI E u s:=by
  intro q u s hu hs
  by_cases hq:q<args.size
  ·rw[alA (by simpa using hq)] at hu
   rw[aeM (by rw[e1];simpa using hq)] at hs
   exact e2 q u s (by simpa using hu) hs
  ·rw[arQ (by simp;omega)] at hu
   rw[afK (by rw[e1];simp;omega)] at hs
   rw[e1] at hs
   simp only[Array.size_map] at hu
   simp only[aku] at hs
   exact hce _ u s hu hs
 unfold ahj at hk
 split at hk
 ·rename_i l xs fr ob no k hyl
  obtain ⟨S,⟨⟨fn,hfn,hb,hnm⟩,hS⟩,a0,js,⟨hdist,hjl,hlend⟩,hargs,hobs,hpre,hys,hk1,hk2⟩:=hk
  obtain ⟨Y,hFw⟩:=hcm.y _ _ hyl
  subst hFw
  obtain ⟨hal,hag⟩:=adg ⟨fr,ob,no,some k⟩ js _ _ hargs
  obtain ⟨hl1,hl2⟩:=atq.1 hlend
  have hheap:=qG h.heap hdist (lend:=false) (ro:=(S.objs l a0).length) (t:=E.tm) hobs (fun h1=>by rw[hl2] at h1;cases h1)
  have hA:jP (aM E ⟨fr,ob,no,some k⟩ w js false (S.objs l a0) (S.objs l a0).length E.tm) (args.map a.eval++cvs) (S.args l a0):=by
   refine ⟨by omega,fun q u c hu hc=>?_⟩
   have hka:q<(evs ⟨fr,ob,no,some k⟩ args.toList++capt).length:=by rw[←hsz];exact (acn.1 hu).1
   have hs:=abb hka
   obtain ⟨l1,l2⟩:=lq (evs ⟨fr,ob,no,some k⟩ args.toList++capt) (S.args l a0) q
   exact akw h.heap (hag q _ c hs hc) (fun hl=>by rw[←hl1];exact l1 _ c hs hc hl)
    (fun f l' f' m e1 e2 e3=>by rw[←hl1];exact l2 f l' f' m (by rw[hs,e1]) (by rw[hc,e2]) e3) (hvs q u _ hu hs)
  obtain ⟨I0,hI0⟩:∃I0:Nat→Prop,I0=fun b=>E.I b∨(E.ws.heap.size≤b∧b<w.heap.size):=⟨_,rfl⟩
  have hI0lt:∀b,I0 b→b<w.heap.size:=fun b hb=>by rw[hI0] at hb;exact hb.elim (fun x=>aky (h.heap.fr.isz b x) h.heap.fr.wsz) (fun x=>x.2)
  have hmine:∀b,E.mine b→b<w.heap.size→I0 b:=fun b hb hlt=>by rw[hI0];exact hb.elim (fun x=>.inr ⟨x,hlt⟩) .inl
  obtain ⟨CL,hCL⟩:∃CL:Nat→Prop,CL=fun b=>∃i,i<C.m∧(C.hd0 i).bind aF=some b:=⟨_,rfl⟩
  have hCLlt:∀b,CL b→b<w.heap.size:=fun b hb=>by
   rw[hCL] at hb
   obtain ⟨i,hi,hb⟩:=hb
   have:=hcm.lent i b hi hb
   exact aky this (aiK h.heap.fr.bsz h.heap.fr.wsz)
  have hkE:E.k=some k:=h.heap.kk
  have hsync:=h.sync Y.abT
  rw[hkE,←hI0] at hsync
  obtain ⟨J',hJ'⟩:∃J':Option Nat→(Nat→Prop)→World→Prop,J'=fun q I W=>C.J (q.map (k+·)) (fun b=>I b∨I0 b) W∧(∀b,I b→w.heap.size≤b)∧(∀b,I0 b∨CL b→W.heap[b]?=w.heap[b]?)∧ab9 E.mem W∧w.heap.size≤W.heap.size∧(W.os=w.os∧W.tape=w.tape∧W.output=w.output):=⟨_,rfl⟩
  have hst:acw J':=by
   rw[hJ']
   intro q I I' W W' ⟨j1,j2,j3,j4,j5,j6⟩ i1 i2 i3 o1 o2 o3 s1 b1
   have hlow:∀b,b<w.heap.size→W'.heap[b]?=W.heap[b]?:=fun b hb=>b1 b (by omega) fun hh=>by have:=j2 b hh;omega
   refine ⟨Y.abT _ _ _ _ _ j1 (fun b hb=>hb.imp (i1 b) id) (fun b hb=>hb.elim (fun x=>(i2 b x).imp .inl id) (fun x=>.inl (.inr x))) (fun b hb=>hb.elim (i3 b) fun x=>by have:=hI0lt b x;omega) o1 o2 o3 s1 (fun b hb hn=>b1 b hb fun x=>hn (.inl x)),fun b hb=>(i2 b hb).elim (j2 b) (fun x=>by omega),fun b hb=>?_,fun b cs hb=>?_,by omega,o1.trans j6.1,o2.trans j6.2.1,o3.trans j6.2.2⟩
   ·rw[hlow b (hb.elim (hI0lt b) (hCLlt b))];exact j3 b hb
   ·obtain ⟨T,f2,hw⟩:=j4 b cs hb
    exact ⟨T,f2,by rw[hlow b (h.heap.lQ hb)];exact hw⟩
  have hJ0:J' (some 0) (fun _=>False) w:=by
   rw[hJ']
   refine ⟨?_,fun b hb=>hb.elim,fun _ _=>rfl,h.heap.mem,afM _,rfl,rfl,rfl⟩
   have e:(fun b=>False∨I0 b)=I0:=by funext b;simp
   show C.J (some (k+0)) (fun b=>False∨I0 b) w
   rw[e];exact hsync
  have hcmem:∀b cs,(aM E ⟨fr,ob,no,some k⟩ w js false (S.objs l a0) (S.objs l a0).length E.tm).mem b=some cs→E.mem b=some cs:=fun b cs hb=>lC hb
  have hlb:∀i b,i<(S.objs l a0).length→((aM E ⟨fr,ob,no,some k⟩ w js false (S.objs l a0) (S.objs l a0).length E.tm).hd i).bind aF=some b→I0 b∨CL b:=fun i b hi hb=>by
   have hj:js[i]?=some js[i]:=abb (by omega)
   have hb:E.blk js[i]=some b:=by simpa [aM,hj,Env.blk] using hb
   obtain ⟨_,hget⟩:=mE ⟨fr,ob,no,some k⟩ js js _ hobs
   have hM:=hget i js[i] _ hj (abb hi)
   obtain ⟨o',ho'⟩:∃o',St.obj ⟨fr,ob,no,some k⟩ js[i]=some o':=by
    unfold obM at hM
    cases hst:St.obj ⟨fr,ob,no,some k⟩ js[i] with
    | some o'=>exact ⟨o',rfl⟩
    | none=>rw[hst] at hM;split at hM<;>exact hM.elim
   rcases (h.heap.own _ _ _ ho' hb).2.2 with hm | hm
   ·exact .inl (hmine b hm ((h.heap.ob _ _ ho').fK hb))
   ·refine .inr ?_
    rw[hCL]
    have:=h.heap.mkh
    exact ⟨js[i],hm.1,by rw[←h.heap.hd0 _ (by omega)];exact hb⟩
  have hcalls:=hS a0 hpre l J' _ (args.map a.eval++cvs) w hst (fun b hb=>by
   have hb:E.tm b:=hb
   rw[h.heap.base] at hb
   obtain ⟨cs,hc⟩:=Y.tm b hb
   exact ⟨cs,eG (h.heap.mem0 _ _ hc)⟩) (fun i x us I W1 hx hus hJ1=>by
   rw[hJ'] at hJ1
   obtain ⟨j1,j2,j3,j4,j5,j6⟩:=hJ1
   obtain ⟨fn1,t1,as1,bd1,hy1,hr1⟩:=Y.at_ (k+i) x us _ W1 (hys i x hx) ⟨hus.1,fun q u s hu hs=>(hus.2 q u s hu hs).mono fun b cs hb=>handed h.heap Y.tm b cs (by
    simp only[Env.m] at hb ⊢
    split at hb
    ·rename_i ht
     rw[if_pos (show E.tm b from ht)]
     exact hcmem _ _ hb
    ·cases hb)⟩ j1
   refine ⟨fn1,t1,as1,bd1,hy1,hr1.mono ?_⟩
   rintro e W' ⟨⟨kk,kl⟩,hj⟩
   have hkeep:∀b,I0 b∨CL b→W'.heap[b]?=W1.heap[b]?:=fun b hb=>hb.elim (fun x=>kk.own b (.inr x)) fun x=>by
    rw[hCL] at x
    obtain ⟨i,hi,hb⟩:=x
    exact kl i b hi hb
   have hmem:∀b cs,E.mem b=some cs→acJ W1 b cs→acJ W' b cs:=fun b cs hb ha=>by
    rcases h.heap.memnew b cs hb with h1 | h1
    ·exact kk.mem b cs h1 ha
    ·obtain ⟨T,f2,hw⟩:=ha
     exact ⟨T,f2,by rw[hkeep b (.inl (hmine b h1.2 (h.heap.lQ hb)))];exact hw⟩
   have hJn:∀q,C.J (q.map (k+·)) (fun b=>I b∨I0 b) W'→J' q I W':=fun q hq=>by
    rw[hJ']
    exact ⟨hq,j2,fun b hb=>(hkeep b hb).trans (j3 b hb),fun b cs hb=>hmem b cs hb (j4 b cs hb),aiK j5 kk.size,kk.os.trans j6.1,kk.tape.trans j6.2.1,kk.output.trans j6.2.2⟩
   refine ⟨⟨⟨kk.os,kk.tape,kk.output,kk.size,fun b hb=>kk.own b (.inl hb),fun b cs hb ha=>hmem b cs (hcmem b cs hb) ha⟩,fun i b hi hb=>hkeep b (hlb i b hi hb)⟩,?_⟩
   rcases hj with ⟨rfl,hj⟩ | ⟨rfl,hj⟩
   ·exact .inl ⟨rfl,hJn (some (i+1)) hj⟩
   ·exact .inr ⟨rfl,hJn none hj⟩) hJ0 hheap hA
  refine ⟨fun g _=>trivial,?_⟩
  have hrun:(execOp a.eval o).run X.P w=.ok (.enter g (args.map a.eval++cvs)) w:=by
   simp[execOp,ho,resolve,hfe,Deferred.ofValue,invoke,mI hfn hb hnm]
  rw[Oper.semAt_plain Fence.wide _ _ hnd,hrun]
  rw[Oper.uponIn_enter]
  refine ⟨fun hdep=>(by simp[Fence.wide] at hdep),(vN hcalls).mono ?_⟩
  rintro e W' ⟨I,hIlt,hj⟩
  have hfin:∀q,J' q I W'→ay C { E with ws:=W',I:=fun b=>I b∨I0 b,k:=q.map (k+·) } ⟨fr,ob,no,q.map (k+·)⟩ a W':=fun q hq=>by
   rw[hJ'] at hq
   obtain ⟨j1,j2,j3,j4,j5,j6⟩:=hq
   refine h.yielded (I1:=fun b=>I b∨I0 b) Y.wk (fun b hb=>.inr (by rw[hI0];exact hb)) (fun b hb=>hb.elim (hIlt b) fun x=>by have:=hI0lt b x;omega)
    ⟨j6.1,j6.2.1,j6.2.2,j5,fun b hb=>j3 b (.inl (by rw[hI0];exact hb)),fun b cs hb _=>j4 b cs (h.heap.mem0 b cs hb)⟩ (fun i b hi hb=>j3 b (.inr (by rw[hCL];exact ⟨i,hi,hb⟩))) j1
  rcases hj with ⟨rfl,hj⟩ | ⟨rfl,hj⟩
  ·exact aD (hfin _ hj) hnt hd hk1 (.val _ _) hn
  ·exact aD (hfin _ hj) hnt hd hk2 (.val _ _) hn
 ·exact hk.elim
theorem adI {gr:Bool} {C:Ctx} {E:Env} {st:St} {a:Act} {w:World} (h:ay C E st a w) {X:bq} (hTb:X.Tb.Ok X.P) (hnt:C.nt=X.nt) (hro:C.ro=X.ro) {F:Fence} (hcm:CX C X F) {o:Oper} (hd:bN X.nt o.dst=true) {c:Call} (ho:o.op=.call c)
  (hF:gJ F) {K:St→Prop} (hk:wE X gr c o st K) {next:Act→World→Prop} {Q:Exit→Act→World→Prop}
  (hn:∀st' E' a' w',K st'→ay C E' st' a' w'→(gr=true→gQ o.op=true→Grow w w')→next a' w'):o.wpIn F 9 X.P a w next Q:=by
 have hnd:∀c',o.op≠.defer c':=by simp[ho]
 unfold wE at hk
 split at hk
 ·rename_i f args _
  split at hk
  ·rename_i k capt hf
   have hfv:=aG h f
   rw[hf] at hfv
   generalize hfe:a.eval f=v at hfv
   cases hfv with
   | fn _ cvs _ hcl hce=>
    split at hk
    ·exact afe h hnt hro hcm hd ho hF hfe hcl hce hk fun st' E' a' w' hk' h'=>hn st' E' a' w' hk' h' (by simp)
    ·exact hk.elim
    ·split at hk
     ·exact xZ h hnt hro hcm.gl hcm.nw hd ho hF hfe hcl hce hk hn
     ·exact aha h hnt hro hcm hd ho hF hfe hcl hce hk fun st' E' a' w' hk' h'=>hn st' E' a' w' hk' h' (by simp)
     ·exact hk.elim
  ·rename_i b k capt hf
   have hfv:=aG h f
   rw[hf] at hfv
   generalize hfe:a.eval f=v at hfv
   cases hfv with
   | p _ _ _ hp=>cases hp with
    | fn _ cvs _ hcl hce=>
     refine xZ h hnt hro hcm.gl hcm.nw hd ho hF hfe (by rw[lU];exact hcl) (fun q u s hu hs=>?_) hk hn
     rw[ig] at hs
     cases hd':capt[q]? with
     | none=>simp[hd'] at hs
     | some d=>simp[hd'] at hs;subst hs;exact .p _ _ _ (hce q u d hu hd')
  ·rename_i b k l hf
   have hfv:=aG h f
   rw[hf] at hfv
   generalize hfe:a.eval f=v at hfv
   cases hfv with
   | p _ _ _ hp=>cases hp with
    | bnd _ cvs _ hcl hce=>
     refine afd h hnt hro hcm.gl hcm.nw hd ho hF hfe (by rw[lU];exact hcl) (fun q u s hu hs=>?_) hk hn
     rw[ig] at hs
     cases hd':l[q]? with
     | none=>simp[hd'] at hs
     | some d=>simp[hd'] at hs;subst hs;exact .p _ _ _ (hce q u d hu hd')
  ·rename_i b l hf
   have hfv:=aG h f
   rw[hf] at hfv
   cases gr with
   | true=>exact hk.elim
   | false=>exact ahO h hnt hcm hd ho hfv.aJ hk fun st' E' a' w' hk' h'=>hn st' E' a' w' hk' h' (by simp)
  ·exact hk.elim
 ·rename_i s x t t'
  cases htt:t.beq t' with
  | false=>
   simp only[htt] at hk
   obtain ⟨v',w',hr,hnx⟩:=yh h hTb hnt hcm.m hd (aG h s) (aG h x) hk (fun st' E' a' w' hk' h' _=>hn st' E' a' w' hk' h' (by simp[gQ,ho])) o.type
   refine dz hF hnd (v:=v') (w':=w') ?_ hnx
   simp only[execOp,ho,resolve,invoke,builtin,Sem.run_bind,Sem.run_pure,Result.andThen_ok,asX,ak3,asI,hr]
  | true=>
   obtain rfl:=afD htt
   simp only[htt] at hk
   obtain ⟨v',w',hr,hnx⟩:=yx h hTb hnt hro hcm.m hd (aG h s) (aG h x) hk (fun st' E' a' w' hk' h' _=>hn st' E' a' w' hk' h' (by simp[gQ,ho])) o.type
   refine dz hF hnd (v:=v') (w':=w') ?_ hnx
   simp only[execOp,ho,resolve,invoke,builtin,Sem.run_bind,Sem.run_pure,Result.andThen_ok,asX,ak3,asI,hr]
 ·rename_i x y _
  split at hk
  ·rename_i _ k a0 _ k' b0 hx hy
   have hxv:=aG h x
   have hyv:=aG h y
   rw[hx] at hxv
   rw[hy] at hyv
   have hxe:=hxv.aJ
   have hye:=hyv.aJ
   refine dz hF hnd (v:=.int k (if b0<a0 then b0 else a0)) (w':=w) ?_ (dB h hnt hd hk (.val _ _) fun st' E' a' w' hk' h' hw=>hn st' E' a' w' hk' h' fun _ _=>hw▸Grow.refl w)
   simp[execOp,ho,resolve,invoke,builtin,Builtin.min_,Builtin.min2,hxe,hye]
  ·exact hk.elim
 ·rename_i x y _
  split at hk
  ·rename_i _ k a0 _ k' b0 hx hy
   have hxv:=aG h x
   have hyv:=aG h y
   rw[hx] at hxv
   rw[hy] at hyv
   have hxe:=hxv.aJ
   have hye:=hyv.aJ
   refine dz hF hnd (v:=.int k (if b0>a0 then b0 else a0)) (w':=w) ?_ (dB h hnt hd hk (.val _ _) fun st' E' a' w' hk' h' hw=>hn st' E' a' w' hk' h' fun _ _=>hw▸Grow.refl w)
   simp[execOp,ho,resolve,invoke,builtin,Builtin.max_,Builtin.max2,hxe,hye]
  ·exact hk.elim
 ·rename_i x y t t'
  obtain ⟨v,w',hr,hnx⟩:=ajW (t':=t') h hTb hnt hro hd hk (aG h x) (aG h y) (fun st' E' a' w' hk' h'=>hn st' E' a' w' hk' h' (by simp[gQ,ho])) o.type
  refine dz hF hnd (v:=v) (w':=w') ?_ hnx
  simp only[execOp,ho,resolve,invoke,builtin,Sem.run_bind,Sem.run_pure,Result.andThen_ok,asX,ak3,asI,hr]
 ·rename_i x t
  obtain ⟨w',hr,hnx⟩:=ahX h hTb hnt hro hd hk (aG h x) (fun st' E' a' w' hk' h'=>hn st' E' a' w' hk' h' (by simp[gQ,ho])) o.type
  refine dz hF hnd (v:=.tuple #[]) (w':=w') ?_ hnx
  simp only[execOp,ho,resolve,invoke,builtin,Sem.run_bind,Sem.run_pure,Result.andThen_ok,asX,ak3,asI,hr]
 ·exact hk.elim
theorem afh {C:Ctx} {E:Env} {st:St} {a:Act} {w:World} {R:World→Prop} (h:ay C E st a w) {X:bq} (hTb:X.Tb.Ok X.P) (hnt:C.nt=X.nt) {o:Oper} (hR:∀w1,R w1→eY o.op=true→Grow w w1) (hd:bN X.nt o.dst=true) {c:Call} (ho:o.op=.call c)
  {K:St→Prop} (hk:ad7 X c o st K) {next:Act→World→Prop}
  (hn:∀st' E' a' w',K st'→ay C E' st' a' w'→next a' w'):aP R X.P o a w next:=by
 unfold ad7 at hk
 split at hk
 ·rename_i x t
  split at hk
  ·rename_i hi
   have hu:X.P.underlying t=some .string:=(hTb _ _ hi).desc
   split at hk
   ·rename_i _ s hx
    have hxv:=aG h x
    rw[hx] at hxv
    have hxe:=hxv.aJ
    exact aP.mk' (v:=.int .i64 s.size) (fun w1 hg=>by simp[execOp,ho,resolve,invoke,builtin,Builtin.len_,run_underlying hu,hxe,goInt]) (aD h hnt hd hk (.val _ _) hn)
   ·exact hk.elim
  ·rename_i e _ _ _ hi
   have hu:X.P.underlying t=some (.slice e):=(hTb _ _ hi).desc
   have go:∀(n:Nat),(∃(ad:Option Addr) (c:Nat),a.eval x=.slice ad n c)→aN st o.dst (.p true (.val (.int .i64 n))) K→aP R X.P o a w next:=by
    rintro n ⟨ad,c,hx⟩ hk
    exact aP.mk' (v:=.int .i64 n) (fun w1 hg=>by simp[execOp,ho,resolve,invoke,builtin,Builtin.len_,run_underlying hu,hx,goInt]) (aD h hnt hd hk (.val _ _) hn)
   split at hk
   ·rename_i b n f hx
    have hxv:=aG h x
    rw[hx] at hxv
    refine go n ?_ hk
    generalize a.eval x=v at hxv
    cases hxv with
    | p _ _ _ hp=>
     cases hp with
     | nil=>exact ⟨_,_,rfl⟩
     | emp=>exact ⟨_,_,rfl⟩
     | seq=>exact ⟨_,_,rfl⟩
   ·rename_i b hx
    have hxv:=aG h x
    rw[hx] at hxv
    exact go 0 ⟨_,_,hxv.aJ⟩ hk
   ·rename_i i hx
    split at hk
    ·rename_i T sz n f hob
     have hxv:=aG h x
     rw[hx] at hxv
     refine go n ?_ hk
     generalize a.eval x=v at hxv
     obtain ⟨v0,xs,u,hh,hw,_⟩:=jG (h.heap.ob _ _ hob)
     cases hxv with
     | row _ _ hh2 _=>
      rw[hh] at hh2;cases hh2
      rcases hw.2 with ⟨rfl,rfl⟩ | ⟨g,cap,cur,rfl,_⟩
      ·exact ⟨_,_,rfl⟩
      ·exact ⟨_,_,rfl⟩
    ·exact hk.elim
   ·rename_i i sz lo n hx
    have hxv:=aG h x
    rw[hx] at hxv
    refine go n ?_ hk
    generalize a.eval x=v at hxv
    cases hxv with
    | sub=>exact ⟨_,_,rfl⟩
   ·rename_i i N lo n hx
    have hxv:=aG h x
    rw[hx] at hxv
    refine go n ?_ hk
    generalize a.eval x=v at hxv
    cases hxv with
    | asl=>exact ⟨_,_,rfl⟩
   ·exact hk.elim
  ·rename_i kT eT _ _ _ hi
   have hu:X.P.underlying t=some (.map kT eT):=(hTb _ _ hi).desc
   split at hk
   ·rename_i i hx
    split at hk
    ·rename_i kt n get hob
     have hxv:=aG h x
     rw[hx] at hxv
     obtain ⟨r,hh,hxe⟩:=afC hxv
     obtain ⟨r',es,clock,hh2,hw,hsz,_⟩:=(h.heap.ob i _ hob).sI
     rw[hh] at hh2;cases hh2
     have hrl:=(acn.1 hw).1
     refine aP.mk' (v:=.int .i64 n) (fun w1 hg=>?_) (aD h hnt hd hk (.val _ _) hn)
     have hw1:w1.heap[r]?=some (.map es clock):=by
      rw[(hR w1 hg (by simp[eY,ho])).2 r hrl];exact hw
     simp[execOp,ho,resolve,invoke,builtin,Builtin.len_,run_underlying hu,hxe,goInt,MapKept.run_getObj_map hw1,hsz]
    ·exact hk.elim
   ·exact hk.elim
  ·exact hk.elim
 ·exact hk.elim
theorem al6 {C:Ctx} {E:Env} {st:St} {a:Act} {w:World} {R:World→Prop} (h:ay C E st a w) {X:bq} (hnt:C.nt=X.nt) (hcm:C.m=X.m) {o:Oper} (hd:bN X.nt o.dst=true) {x:Operand} (ho:o.op=.assign x)
  {K:St→Prop} (hk:aqw X x o.dst st K) {next:Act→World→Prop} (hn:∀st' E' a' w',K st'→ay C E' st' a' w'→next a' w'):aP R X.P o a w next:=
 aP.mk' (v:=a.eval x) (fun w1 hg=>by simp[execOp,ho]) (wH h hnt hcm hd (aG h x) hk hn)
theorem abj {C:Ctx} {E:Env} {st:St} {a:Act} {w:World} {R:World→Prop} (h:ay C E st a w) {X:bq} (hTb:X.Tb.Ok X.P) (hnt:C.nt=X.nt) (hcm:C.m=X.m) {o:Oper} (hR:∀w1,R w1→eY o.op=true→Grow w w1) (hd:bN X.nt o.dst=true)
  {K:St→Prop} (hk:wL X o st K) {next:Act→World→Prop} (hn:∀st' E' a' w',K st'→ay C E' st' a' w'→next a' w'):aP R X.P o a w next:=by
 unfold wL at hk
 split at hk
 ·rename_i c ho
  exact afh h hTb hnt hR hd ho hk hn
 ·exact pU h hTb hnt hR hd hk hn
 ·exact pU h hTb hnt hR hd hk hn
 ·exact pU h hTb hnt hR hd hk hn
 ·rename_i x ho
  split at hk
  ·exact al6 h hnt hcm hd ho hk hn
  ·exact vV h hTb hnt hR hd hk hn
 ·exact vV h hTb hnt hR hd hk hn
theorem ahN {gr:Bool} {C:Ctx} {E:Env} {st:St} {a:Act} {w:World} (h:ay C E st a w) {X:bq} (hTb:X.Tb.Ok X.P) (hnt:C.nt=X.nt) (hro:C.ro=X.ro) {F:Fence} (hcm:CX C X F) {o:Oper} (hd:bN X.nt o.dst=true)
  (hF:gJ F) {K:St→Prop} (hk:aft X gr o st K) {next:Act→World→Prop} {Q:Exit→Act→World→Prop}
  (hn:∀st' E' a' w',K st'→ay C E' st' a' w'→(gr=true→gQ o.op=true→Grow w w')→next a' w'):o.wpIn F 9 X.P a w next Q:=by
 unfold aft at hk
 split at hk
 ·rename_i c ho
  exact adI h hTb hnt hro hcm hd ho hF hk hn
 ·split at hk
  ·exact aeg h hTb hnt hd hF hk fun st' E' a' w' hk' h' hg=>hn st' E' a' w' hk' h' fun _=>hg
  ·exact afg h hTb hnt hro hd hF hk fun st' E' a' w' hk' h' hg=>hn st' E' a' w' hk' h' fun _=>hg
theorem afc (s:ByteArray) (cap j:Nat) (hj:j<s.size):(bytesRow s cap)[j]?=some (.int .u8 (s.data.getD j 0).toNat):=by
 rw[bytesRow_at s cap j hj]
 have:s.data.getD j 0=s.data[j]:=by simp[Array.getD];exact dif_pos hj
 rw[this]
theorem bn.anD {C:Ctx} {E:Env} {st:St} {w w':World} (h:bn C E st w) {g:Nat} {cs:Array Value} {T:TypeId} {fr fr':Nat×Nat} (hg:E.mem g=some cs) (hm:E.mine g) (hw:w.heap[g]?=some (.cells cs T fr)) (hw':w'.heap[g]?=some (.cells cs T fr'))
  (hk:∀k,k≠g→w'.heap[k]?=w.heap[k]?) (hos:w'.os=w.os) (htape:w'.tape=w.tape) (hout:w'.output=w.output) (hsz:w'.heap.size=w.heap.size):bn C E st w':=by
 refine ⟨fun i o ho=>(h.ob i o ho).world fun b hb=>hk b fun e=>?_,h.sep,h.own,fun b cs' hb=>?_,h.mem0,h.memnew,h.new,h.base,⟨hos.trans h.fr.os,htape.trans h.fr.tape,hout.trans h.fr.output,h.fr.bsz,by rw[hsz];exact h.fr.wsz,h.fr.wos,h.fr.isz,fun k hk1 hI=>?_,h.fr.sync⟩,h.hd0,h.mno,h.mkh,h.kk⟩
 ·subst e
  have:=(h.own i o b ho hb).1
  rw[hg] at this;cases this
 ·by_cases e:b=g
  ·subst e
   rw[hg] at hb;cases hb
   exact ⟨T,fr',hw'⟩
  ·rw[hk b e];exact h.mem b cs' hb
 ·have e:k≠g:=fun e=>by
   subst e
   rcases hm with hx | hx
   ·omega
   ·exact hI hx
  rw[hk k e];exact h.fr.block k hk1 hI
theorem akV {P:Program} {w:World} {s e g:Nat} {n cap:Nat} {cs:Array Value} {T:TypeId} (hs:P.underlying s=some (.slice e)) (he:P.underlying e=some (.int .u8)) (hw:w.heap[g]?=some (.cells cs T (0,0))) :
  (convert s s (.slice (some ⟨g,0,none⟩) n cap)).run P w=.ok (.slice (some ⟨g,0,none⟩) n cap) (w.freeze ⟨g,cs.size,none⟩ 1):=by
 have hsh:w.shape? g=some (T,cs.size):=by simp[World.shape?,hw]
 simp[convert,run_underlying hs,run_underlying he,markStringish,hsh]
theorem ahE {w:World} {g n:Nat} {cs:Array Value} {T:TypeId} (hw:w.heap[g]?=some (.cells cs T (0,0))):(w.freeze ⟨g,n,none⟩ 1).heap[g]?=some (.cells cs T (n,n+1)):=by
 have hg:=(acn.1 hw).1
 unfold World.freeze
 rw[if_neg (by decide)]
 show (w.heap.modify g _)[g]?=_
 rw[aq0,if_pos rfl,hw];rfl
theorem vJ {w:World} {g n k:Nat} (hk:k≠g):(w.freeze ⟨g,n,none⟩ 1).heap[k]?=w.heap[k]?:=by
 unfold World.freeze
 rw[if_neg (by decide)]
 show (w.heap.modify g _)[k]?=_
 rw[aq0,if_neg (fun e=>hk e.symm)]
theorem acj {C:Ctx} {E:Env} {st:St} {a:Act} {w:World} (h:ay C E st a w) {X:bq} (hTb:X.Tb.Ok X.P) (hnt:C.nt=X.nt) (hcm:C.m=X.m) (htr:X.nw=true→∀b,C.base≤b→C.tm b) {o:Oper} (hd:bN X.nt o.dst=true)
  {F:Fence} (hF:gJ F) {K:St→Prop} (hk:uV X o st K) {next:Act→World→Prop} {Q:Exit→Act→World→Prop}
  (hn:∀st' E' a' w',K st'→ay C E' st' a' w'→next a' w'):o.wpIn F 9 X.P a w next Q:=by
 unfold uV at hk
 split at hk
 ·rename_i s t x ho
  split at hk
  ·rename_i e _ _ _ hi1 hi2
   split at hk
   ·rename_i hie
    split at hk
    ·rename_i _ v hx
     obtain ⟨hmax,hk⟩:=hk
     have hxv:=aG h x
     rw[hx] at hxv
     have hxe:=hxv.aJ
     have hs:X.P.underlying s=some .string:=(hTb _ _ hi1).desc
     have hd2:X.P.underlying t=some (.slice e):=(hTb _ _ hi2).desc
     have he8:X.P.underlying e=some (.int .u8):=(hTb _ _ hie).desc
     have hrun:=run_bytes_of_string (P:=X.P) w s t e v hs hd2 he8
     generalize hcap:grownCap w v.size 0 e=cap at hrun
     generalize hcs:bytesRow v cap=cs at hrun
     have hnew:(w.drew.alloc (.cells cs e (cs.size,cs.size+1))).heap[w.heap.size]?=some (.cells cs e (cs.size,cs.size+1)):=by
      show (w.heap.push _)[w.heap.size]?=_
      simp
     have hkeep:∀k,k<w.heap.size→(w.drew.alloc (.cells cs e (cs.size,cs.size+1))).heap[k]?=w.heap[k]?:=fun k hk=>RowKit.Below.heap_alloc w.drew _ k hk
     obtain ⟨hh,hle⟩:=h.heap.acL hnew rfl rfl rfl (by show w.heap.size≤(w.heap.push _).size;simp) hkeep
     have hM:=h.fC (st':=st) hle rfl hh ⟨rfl,rfl⟩ (gW w.drew _)
     have hb0:C.base≤w.heap.size:=aiK h.heap.fr.bsz h.heap.fr.wsz
     have hvle:v.size≤cap:=by
      rw[←hcap];exact grownCap_ge w v.size 0 e
     refine dz hF (by simp[ho]) (by simp[execOp,ho,hxe,hrun]) (aD hM hnt hd hk (.p X.nw _ _ (.seq w.heap.size 0 v.size cap 1 _ cs (fun j _=>.int .u8 (v.data.getD j 0).toNat) ?_ hvle hmax (fun j hj=>rfl) (fun j k s hj hs=>?_) (fun j k s hj hs=>?_))) hn)
     ·have hmm:(E.fE w.heap.size cs).mem w.heap.size=some cs:=by simp[Env.fE]
      cases hnw:X.nw with
      | false=>exact hmm
      | true=>
       simp only[Env.m]
       rw[if_pos (show (E.fE w.heap.size cs).tm w.heap.size from by show E.tm w.heap.size;rw[h.heap.base];exact htr hnw _ hb0)]
       exact hmm
     ·cases k with
      | zero=>
       simp only[agC,anW,arO]
       rw[←hcs,afc v cap j hj]
       exact ⟨rfl,rfl⟩
      | succ k=>simp[jT] at hs
     ·cases k with
      | zero=>obtain rfl:=Option.some.inj hs;exact .val _
      | succ k=>simp[jT] at hs
    ·exact hk.elim
   ·exact hk.elim
  ·rename_i e _ _ _ e' _ _ _ hi1 hi2
   split at hk
   ·rename_i hst hie
    obtain rfl:=afD hst
    split at hk
    ·rename_i i hx
     split at hk
     ·rename_i T sz n f hmi hob
      obtain ⟨hn0,hk⟩:=hk
      have hmi:=ag2 hmi
      have hxv:=aG h x
      rw[hx] at hxv
      have hs:X.P.underlying s=some (.slice e):=(hTb _ _ hi1).desc
      have he8:X.P.underlying e=some (.int .u8):=(hTb _ _ hie).desc
      obtain ⟨v0,xs,u,hh,hw,hmax,hl,hc,he⟩:=jG (h.heap.ob _ _ hob)
      have hv:a.eval x=v0:=by
       generalize hae:a.eval x=v at hxv
       cases hxv with | row _ _ hh2 _=>rw[hh] at hh2;cases hh2;rfl
      rcases hw.2 with ⟨_,hz⟩ | ⟨g,cap,cur,hv0,_,hgw,_⟩
      ·omega
      ·obtain ⟨E',hle,hsame,hH,hfz⟩:=h.heap.freeze hob (by rw[hcm];exact hmi)
       have hP:=hfz _ hxv
       rw[hv,hv0] at hP
       have hEg:E'.mem g=some cur:=by
        cases hP with
        | emp=>omega
        | seq b o n cap sz f cs u hm=>
         obtain ⟨T',fr',hw'⟩:=hH.mem _ _ hm
         rw[hgw] at hw';cases hw';exact hm
       have hbk:E.blk i=some g:=by simp[Env.blk,hh,hv0,aF]
       obtain ⟨q1,q2,q3⟩:=h.heap.own i _ g hob hbk
       have hmine:E'.mine g:=by
        have:E.mine g:=q3.resolve_right (fun x=>by omega)
        unfold Env.mine at this ⊢
        rw[hsame.1,hsame.2];exact this
       have hH2:=hH.anD (w':=w.freeze ⟨g,cur.size,none⟩ 1) hEg hmine hgw (ahE hgw) (fun k hk=>vJ hk) rfl rfl rfl (by unfold World.freeze;rw[if_neg (by decide)];simp)
       have hM:=h.fC (st':=st.bW i none) hle rfl hH2 hsame (lu hgw fun k hk=>vJ hk)
       exact dz hF (by simp[ho]) (by simp[execOp,ho,hv,hv0,akV hs he8 hgw]) (aD hM hnt hd hk (.p false _ _ hP) hn)
     ·exact hk.elim
    ·exact hk.elim
   ·exact hk.elim
  ·exact hk.elim
 ·exact hk.elim
theorem ahH {gr:Bool} {C:Ctx} {E:Env} {st:St} {a:Act} {w:World} (h:ay C E st a w) {X:bq} (hTb:X.Tb.Ok X.P) (hnt:C.nt=X.nt) (hro:C.ro=X.ro) {F:Fence} (hcm:CX C X F) {o:Oper}
  (hF:gJ F) {K:St→Prop} (hk:step0 X gr o st K) {next:Act→World→Prop} {Q:Exit→Act→World→Prop}
  (hn:∀st' E' a' w',K st'→ay C E' st' a' w'→(gr=true→gQ o.op=true→Grow w w')→next a' w'):o.wpIn F 9 X.P a w next Q:=by
 unfold step0 at hk
 split at hk
 ·rename_i hd hf
  have hk':wL X o st K∨(gr=false∧uV X o st K):=by
   split at hk
   ·split at hk
    ·exact .inr ⟨rfl,hk⟩
    ·exact .inl hk
   ·exact .inl hk
  clear hk
  rcases hk' with hk | ⟨hgr,hk⟩
  case inr=>exact acj h hTb hnt hcm.m hcm.nw hd hF hk fun st' E' a' w' hk' h'=>hn st' E' a' w' hk' h' fun hg _=>by rw[hgr] at hg;cases hg
  by_cases hdef:∃c,o.op=.defer c
  ·obtain ⟨c,hc⟩:=hdef
   simp[wL,uG,hc] at hk
  ·obtain ⟨v,hv,hnx⟩:=abj (R:=Grow w) (next:=fun a' w'=>w'=w→next a' w') h hTb hnt hcm.m (fun _ hg _=>hg) hd hk (fun st' E' a' w' hk' h' hw=>hn st' E' a' w' hk' h' fun _ _=>hw▸Grow.refl w)
   exact dz hF (fun c hc=>hdef ⟨c,hc⟩) (hv w (Grow.refl w)) (hnx rfl)
 ·rename_i hd hf
  exact ahN h hTb hnt hro hcm hd hF hk hn
 ·exact hk.elim
theorem agq (a:Act) (t:Nat):a.put (some t) (a.tmps.getD t undef)=a:=by
 cases a with
 | mk tmps defers=>
  simp only[Act.put]
  congr 1
  apply asZ
  intro k
  rw[asy]
  by_cases e:t=k
  ·subst e
   rw[if_pos rfl]
   by_cases hk:t<tmps.size
   ·rw[if_pos hk,acW,acy hk];rfl
   ·rw[if_neg hk,alv (by omega)]
  ·rw[if_neg e]
theorem xB {C:Ctx} {E:Env} {st:St} {a:Act} {w:World} (h:ay C E st a w) {X:bq} (hnt:C.nt=X.nt) (hcm:C.m=X.m) {d:Option Nat} (hd:bN X.nt d=true)
  {K:St→Prop} (hk:agc X d st K) {next:Act→World→Prop} (hn:∀st' E' a' w',K st'→ay C E' st' a' w'→w'=w→next a' w'):next a w:=by
 unfold agc at hk
 split at hk
 ·rename_i t
  split at hk
  ·have:=wH h hnt hcm hd (h.slot t) hk (next:=fun a2 w2=>w2=w→next a2 w2) hn rfl
   rwa [agq] at this
  ·exact hn _ _ _ _ hk h rfl
 ·exact hn _ _ _ _ hk h rfl
theorem zq {C:Ctx} {E:Env} {st:St} {a:Act} {w:World} {R:World→Prop} (h:ay C E st a w) {X:bq} (hTb:X.Tb.Ok X.P) (hnt:C.nt=X.nt) (hcm:C.m=X.m) {o:Oper} (hR:∀w1,R w1→eY o.op=true→Grow w w1) (hd:bN X.nt o.dst=true)
  {K:St→Prop} (hk:wL X o st fun st'=>agc X o.dst st' K) {next:Act→World→Prop} (hn:∀st' E' a' w',K st'→ay C E' st' a' w'→next a' w'):aP R X.P o a w next:=
 abj h hTb hnt hcm hR hd hk fun _ _ _ _ hk' h'=>xB h' hnt hcm hd hk' fun st2 E2 a2 w2 hk2 h2 _=>hn st2 E2 a2 w2 hk2 h2
theorem ade {gr:Bool} {C:Ctx} {E:Env} {st:St} {a:Act} {w:World} (h:ay C E st a w) {X:bq} (hTb:X.Tb.Ok X.P) (hnt:C.nt=X.nt) (hro:C.ro=X.ro) {F:Fence} (hcm:CX C X F) {o:Oper}
  (hF:gJ F) {K:St→Prop} (hk:step X gr o st K) {next:Act→World→Prop} {Q:Exit→Act→World→Prop}
  (hn:∀st' E' a' w',K st'→ay C E' st' a' w'→(gr=true→gQ o.op=true→Grow w w')→next a' w'):o.wpIn F 9 X.P a w next Q:=by
 unfold step at hk
 have hd:bN X.nt o.dst=true:=by
  cases hd:bN X.nt o.dst with
  | true=>rfl
  | false=>
   unfold step0 at hk
   rw[hd] at hk
   split at hk
   ·rename_i e _;cases e
   ·rename_i e _;cases e
   ·exact hk.elim
 refine ahH h hTb hnt hro hcm hF hk fun st' E' a' w' hk' h' hg=>?_
 exact xB h' hnt hcm.m hd hk' fun st2 E2 a2 w2 hk2 h2 hw=>hn st2 E2 a2 w2 hk2 h2 (by rw[hw];exact hg)
theorem aoS {want lit:Bool} {A B:Prop} (h:aks want lit A B):(lit=want∧A)∨(lit≠want∧B):=by
 cases want<;>cases lit<;>first | exact .inl ⟨rfl,h⟩ | exact .inr ⟨by simp,h⟩
theorem ay.apy {C:Ctx} {E:Env} {st:St} {a:Act} {w:World} (h:ay C E st a w) {d:Nat} {b:Bool} (hv:a.tmps.getD d undef=.bool b):ay C E (st.put d (.p true (.val (.bool b)))) a w:=by
 refine ⟨h.size,fun t=>?_,⟨h.heap.ob,h.heap.sep,h.heap.own,h.heap.mem,h.heap.mem0,h.heap.memnew,h.heap.new,h.heap.base,h.heap.fr,h.heap.hd0,h.heap.mno,h.heap.mkh,h.heap.kk⟩,h.marks⟩
 rw[get_put]
 by_cases e:d=t
 ·subst e;rw[if_pos rfl,hv];exact .val _ _
 ·rw[if_neg e];exact h.slot t
theorem aju {C:Ctx} {E:Env} {st:St} {a:Act} {w:World} (h:ay C E st a w) {all:Array Oper} {j d:Nat} {oj:Oper} {b t:Bool} (hoj:nth all.toList j=some oj) (hdj:oj.dst=some d) (hget:st.get d=.p b (.val (.bool t))) :
  a.tmps.getD d undef=.bool t∧yielded all a.tmps j=some t:=by
 have hv:a.tmps.getD d undef=.bool t:=by
  have:=h.slot d
  rw[hget] at this
  exact this.aJ
 refine ⟨hv,?_⟩
 have hlt:d<a.tmps.size:=by
  rcases aqQ d a.tmps.size with h1 | h1
  ·exact h1
  ·rw[acW,alv h1] at hv
   simp[undef] at hv
 rw[dW] at hoj
 have hoj':all[j]?=some oj:=by simpa using hoj
 rw[acW] at hv
 have hv':a.tmps[d]?=some (.bool t):=by
  rw[acy hlt] at hv ⊢
  simpa using hv
 simp[yielded,hoj',hdj,hv']
theorem vB {gr:Bool} {C:Ctx} {E:Env} {st:St} {a:Act} {w:World} (h:ay C E st a w) {X:bq} {all:Array Oper} {o:Oper} {K:St→Prop} (hk:stepG X gr all.toList o st K) :
  (Region.wanted o (yielded all a.tmps)=true∧∃st1,ay C E st1 a w∧step X gr o st1 K) ∨
  (Region.wanted o (yielded all a.tmps)=false∧bN X.nt o.dst=true∧∃st1,ay C E st1 a w∧aN st1 o.dst skipped K):=by
 unfold stepG at hk
 split at hk
 ·rename_i hg
  exact .inl ⟨by simp[Region.wanted,hg],st,h,hk⟩
 ·rename_i j want hg
  split at hk
  ·rename_i oj hoj
   split at hk
   ·rename_i d hdj
    split at hk
    ·rename_i b t hget hdo
     obtain ⟨hv,hy⟩:=aju h hoj hdj hget
     have fin:∀(lit:Bool),t=lit→aks want lit (step X gr o (st.put d (.p true (.val (.bool lit)))) K) (aN (st.put d (.p true (.val (.bool lit)))) o.dst skipped K) →
       ((Region.wanted o (yielded all a.tmps)=true∧∃st1,ay C E st1 a w∧step X gr o st1 K) ∨
       (Region.wanted o (yielded all a.tmps)=false∧bN X.nt o.dst=true∧∃st1,ay C E st1 a w∧aN st1 o.dst skipped K)):=by
      intro lit hlit hsel
      subst hlit
      have hM:=h.apy hv
      rcases aoS hsel with ⟨h1,h2⟩ | ⟨h1,h2⟩
      ·exact .inl ⟨by simp[Region.wanted,hg,hy,h1],_,hM,h2⟩
      ·exact .inr ⟨by simp[Region.wanted,hg,hy,h1],hdo,_,hM,h2⟩
     rcases xI hk with ⟨h1,h2⟩ | ⟨h1,h2⟩
     ·rw[vS] at h2;exact fin true h1 h2
     ·rw[vS] at h2;exact fin false h1 h2
    ·rename_i b hget hdo
     have hk:aN st o.dst skipped K:=hk
     refine .inr ⟨?_,hdo,st,h,hk⟩
     have hv:a.tmps.getD d undef=undef:=by
      have:=h.slot d
      rw[hget] at this
      exact this.aJ
     have hy:yielded all a.tmps j=none:=by
      rw[dW] at hoj
      have hoj':all[j]?=some oj:=by simpa using hoj
      rw[acW] at hv
      simp only[yielded,hoj',atl,hdj]
      cases hq:a.tmps[d]? with
      | none=>rfl
      | some q=>rw[hq] at hv;simp only[Option.getD_some] at hv;subst hv;rfl
     simp[Region.wanted,hg,hy]
    ·exact hk.elim
   ·exact hk.elim
  ·exact hk.elim
theorem aa4 {C:Ctx} {X:bq} (hTb:X.Tb.Ok X.P) (hnt:C.nt=X.nt) (hro:C.ro=X.ro) {F:Fence} (hcm:CX C X F) (hF:gJ F) (all:Array Oper) {K:St→Prop} {Q:Exit→Act→World→Prop}
  (hn:∀st' E' a' w',K st'→ay C E' st' a' w'→Q .normal a' w'):∀(ops:List Oper) (st:St) (E:Env) (a:Act) (w:World),aco X all.toList ops st K→ay C E st a w→wpListIn F 9 X.P all Q ops a w
 | [],st,E,a,w,hk,h=>hn st E a w hk h
 | o :: rest,st,E,a,w,hk,h=>by
  rw[aki] at hk
  simp only[wpListIn]
  have ih:=aa4 hTb hnt hro hcm hF all hn rest
  rcases vB h hk with ⟨h1,st1,h2,h3⟩ | ⟨h1,hdo,st1,h2,h3⟩
  ·rw[if_pos h1]
   exact ade h2 hTb hnt hro hcm hF h3 fun st' E' a' w' hk' h' _=>ih st' E' a' w' hk' h'
  ·rw[if_neg (by simp[h1])]
   exact ⟨fun f _=>hF.fn f,aD h2 hnt hdo h3 (.val true undef) fun st' E' a' w' hk' h'=>ih st' E' a' w' hk' h'⟩
section
variable {F : Fence} {n : Nat} {P : Program} {ops : Array Oper} {Q : Exit → Act → World → Prop} {md : Region.Mode}
def jF (P:Program) (ops:Array Oper) (R:World→Prop) (o:Oper) (v:Value) (a:Act):Prop:=
 (Region.wanted o (yielded ops a.tmps)=true∧(∀c,o.op≠.defer c)∧∀w,R w→(execOp a.eval o).run P w=.ok (.value v) w) ∨
 (Region.wanted o (yielded ops a.tmps)=false∧v=undef)
theorem jF.same {R:World→Prop} {o:Oper} {v:Value} {a a':Act} (h:jF P ops R o v a) (he:execOp a'.eval o=execOp a.eval o) (hw:Region.wanted o (yielded ops a'.tmps)=Region.wanted o (yielded ops a.tmps)):jF P ops R o v a':=by
 unfold jF at *;rw[he,hw];exact h
theorem jF.op (hF:gJ F) {R:World→Prop} {w:World} {i:Nat} {o:Oper} {v:Value} {a:Act} (hi:ops[i]?=some o) (h:jF P ops R o v a) (hg:R w) {K:Act→World→Prop} (hk:K (a.put o.dst v) w):wpOpIn F 9 P ops Q i K a w:=by
 unfold wpOpIn
 simp only[hi]
 rcases h with ⟨h1,h2,h3⟩ | ⟨h1,rfl⟩
 ·rw[if_pos h1];exact dz hF h2 (h3 w hg) hk
 ·rw[if_neg (by simp[h1])];exact ⟨fun f _=>hF.fn f,hk⟩
theorem amH (hF:gJ F) {w0:World→Prop} {j:Nat} {oi oj:Oper} {v:Value} (hj:ops[j]?=some oj) (hap:oi.apart ops oj=true) (hsi:∀cs b,oi.op≠.select cs b) (hsj:∀cs b,oj.op≠.select cs b) (hdj:∀c,oj.op≠.defer c)
  (hQ:∀c a w,¬Q (.panic c) a w) {K:Act→World→Prop} {a:Act} {w:World} (hy:jF P ops w0 oi v a) (h:wpOpIn F 9 P ops Q j K (a.put oi.dst v) w) :
  wpOpIn F 9 P ops Q j (fun a' w'=>jF P ops w0 oi v a'∧K (a'.put oi.dst v) w') a w:=by
 obtain ⟨p1,p2,p3⟩:=Oper.apart_spec hap
 have keep:∀u,jF P ops w0 oi v (a.put oj.dst u):=fun u=>hy.same (execOp_put oi hsi a oj.dst u p3) (wanted_put oi a oj.dst u p3)
 have swap:∀u w',K ((a.put oi.dst v).put oj.dst u) w'→jF P ops w0 oi v (a.put oj.dst u)∧K ((a.put oj.dst u).put oi.dst v) w':=fun u w' hk=>⟨keep u,by rw[←Act.put_comm a v u p2];exact hk⟩
 unfold wpOpIn at *
 simp only[hj] at *
 rw[wanted_put oj a oi.dst v p1] at h
 by_cases hw:Region.wanted oj (yielded ops a.tmps)=true
 ·rw[if_pos hw] at h ⊢
  refine ⟨fun f _=>hF.fn f,?_⟩
  have h2:=h.2
  rw[Oper.semAt_plain F _ _ hdj] at h2 ⊢
  rw[execOp_put oj hsj a oi.dst v p1] at h2
  generalize (execOp a.eval oj).run P w=r at h2 ⊢
  cases r with
  | halt x w'=>cases x<;>simp only[Oper.uponIn] at h2 ⊢;exact absurd h2 (hQ _ _ _)
  | ok x w'=>
   cases x<;>simp only[Oper.uponIn] at h2 ⊢
   case value u=>exact swap u w' h2
   case skip=>exact swap undef w' h2
   case defer d=>
    refine ⟨(keep undef).same (by cases oj.dst<;>rfl) (by cases oj.dst<;>rfl),?_⟩
    rw[←Act.put_comm _ v undef p2,←Act.put_defers]
    exact h2
   case enter f args=>
    refine ⟨h2.1,CallsIn.mono h2.2 fun e w'' he=>?_⟩
    cases e with
    | returned u=>exact swap u w'' he
    | panicked c=>exact absurd he (hQ _ _ _)
    | outgrown=>exact he
   case row row args=>exact ⟨h2.1,RowsIn.mono h2.2 fun u w'' he=>swap u w'' he⟩
   case round l f tmps assign body=>
    refine ⟨h2.1,RoundIn.mono h2.2 fun e w'' he=>?_⟩
    cases e with
    | returned u=>exact swap u w'' he
    | panicked c=>exact absurd he (hQ _ _ _)
    | outgrown=>exact he
 ·rw[if_neg hw] at h ⊢
  exact ⟨fun f _=>hF.fn f,swap undef w h.2⟩
def lJ (F:Fence) (P:Program) (md:Region.Mode) (ops:Array Oper) (Q:Exit→Act→World→Prop) (g:Nat→World→World→Prop):Nat→Array Bool→Act→World→Prop
 | 0,listed,a,w=>Region.ready md ops listed=[]∧Q .normal a w
 | fuel+1,listed,a,w=>
  (Region.ready md ops listed=[]→Q .normal a w) ∧
  ∀i∈Region.ready md ops listed,wpOpIn F 9 P ops Q i (fun a' w'=>g i w w'∧lJ F P md ops Q g fuel (listed.setIfInBounds i true) a' w') a w
theorem ahw {g:Nat→World→World→Prop}:∀(fuel:Nat) (listed:Array Bool) (a:Act) (w:World),lJ F P md ops Q g fuel listed a w→wpAnyIn F 9 P md ops Q fuel listed a w
 | 0,_,_,_,h=>h
 | fuel+1,_,_,_,h=>⟨h.1,fun i hi=>wpOpIn_mono (fun a' w' h'=>ahw fuel _ a' w' h'.2) (h.2 i hi)⟩
def iG (md:Region.Mode) (ops:Array Oper) (i:Nat):Nat→Nat
 | 0=>0
 | k+1=>match ops[k]? with
  | none=>iG md ops i k
  | some o=>bif o.after.toList.any (fun e=>Region.binds md e&&(Nat.beq e.on i||Nat.testBit (iG md ops i k) e.on)) then Nat.lor (iG md ops i k) (Nat.shiftLeft 1 k) else iG md ops i k
def waits (md:Region.Mode) (ops:Array Oper) (i j:Nat):Bool:=Nat.testBit (iG md ops i ops.size) j
theorem aa8 (a b i:Nat):Nat.testBit (Nat.lor a b) i=(Nat.testBit a i||Nat.testBit b i):=Nat.testBit_or a b i
theorem ajH (k i:Nat):Nat.testBit (Nat.shiftLeft 1 k) i=decide (i=k):=by
 show Nat.testBit (1 <<< k) i=_
 rw[Nat.testBit_shiftLeft]
 by_cases h:i=k
 ·subst h;simp
 ·by_cases h2:k≤i
  ·rw[decide_eq_true h2,decide_eq_false h,arL]
   obtain ⟨d,hd⟩:∃d,i-k=d+1:=⟨i-k-1,by omega⟩
   rw[hd];simp[Nat.testBit_succ]
  ·simp[h,h2]
theorem abe {i k x:Nat} (h:Nat.testBit (iG md ops i k) x=true):Nat.testBit (iG md ops i (k+1)) x=true:=by
 rw[iG]
 split
 ·exact h
 ·cases (Array.toList _).any _ with
  | true=>simp only[cond_true];rw[aa8,h,atr]
  | false=>exact h
theorem yU {i j k:Nat} (h:Nat.testBit (iG md ops i (k+1)) j=true):Nat.testBit (iG md ops i k) j=true∨∃o,ops[j]?=some o∧∃e∈o.after,Region.binds md e=true∧(e.on=i∨Nat.testBit (iG md ops i k) e.on=true):=by
 rw[iG] at h
 split at h
 ·exact .inl h
 ·rename_i o ho
  cases hc:o.after.toList.any (fun e=>Region.binds md e&&(Nat.beq e.on i||Nat.testBit (iG md ops i k) e.on)) with
  | false=>rw[hc] at h;exact .inl h
  | true=>
   rw[hc] at h
   simp only[cond_true] at h
   rw[aa8,ajH,ap3,decide_eq_true_eq] at h
   rcases h with h | h
   ·exact .inl h
   ·subst h
    obtain ⟨e,he,h1⟩:=arN.1 hc
    simp only[afT,ap3] at h1
    exact .inr ⟨o,ho,e,by simpa using he,h1.1,h1.2.imp afD id⟩
theorem abl {i j:Nat}:∀{k:Nat},Nat.testBit (iG md ops i k) j=true→∃o,ops[j]?=some o∧∃e∈o.after,Region.binds md e=true∧(e.on=i∨Nat.testBit (iG md ops i k) e.on=true)
 | 0,h=>by simp[iG] at h
 | k+1,h=>by
  rcases yU h with h | ⟨o,ho,e,he,hb,h1⟩
  ·obtain ⟨o,ho,e,he,hb,h1⟩:=abl h
   exact ⟨o,ho,e,he,hb,h1.imp id abe⟩
  ·exact ⟨o,ho,e,he,hb,h1.imp id abe⟩
theorem acF {i j:Nat} (h:waits md ops i j=true):∃o,ops[j]?=some o∧∃e∈o.after,Region.binds md e=true∧(e.on=i∨waits md ops i e.on=true):=abl h
def wR (md:Region.Mode) (ops:Array Oper) (g:Nat→Bool) (listed:Array Bool) (i:Nat):Bool:=
 match ops[i]? with
 | none=>false
 | some oi=>(List.range ops.size).all fun j=>j==i||match listed.getD j true with
  | true=>!waits md ops i j
  | false=>match ops[j]? with
   | some oj=>waits md ops i j||(oi.apart ops oj&&(g j||!eY oi.op))
   | none=>true
theorem yc {g:Nat→Bool} {i:Nat} {oi:Oper} {listed:Array Bool} (hi:ops[i]?=some oi) (h:wR md ops g listed i=true) :
  (∀j,j≠i→listed.getD j true=true→waits md ops i j=false) ∧
  ∀(j:Nat) (oj:Oper),ops[j]?=some oj→j≠i→listed.getD j true=false→waits md ops i j=false→oi.apart ops oj=true∧(g j||!eY oi.op)=true:=by
 simp only[wR,hi,alM,as2] at h
 constructor
 ·intro j hne hl
  cases hw:waits md ops i j with
  | false=>rfl
  | true=>
   obtain ⟨o,ho,_⟩:=acF hw
   have h1:=h j (acn.1 ho).1
   simp[hne,hl,hw] at h1
 ·intro j oj hj hne hun hw
  have h1:=h j (acn.1 hj).1
  simp only[ap3,beq_iff_eq,hne,false_or,hun,hj,hw,Bool.false_eq_true,afT] at h1
  exact ⟨h1.1,by simpa using h1.2⟩
theorem acQ (hF:gJ F) {g:Nat→World→World→Prop} (hgr:∀i w,g i w w) {i:Nat} {oi:Oper} {v:Value} {R:World→Prop} {ok:Nat→Bool} (hRs:∀(j:Nat) (w w':World),R w→g j w w'→ok j=true→R w')
  (hi:ops[i]?=some oi) (hsel:∀(j:Nat) (o:Oper),ops[j]?=some o→(∀cs b,o.op≠.select cs b)∧∀c,o.op≠.defer c) (hQ:∀c a w,¬Q (.panic c) a w) :
  ∀(fuel:Nat) (listed:Array Bool) (a:Act) (w:World),
   (∀j,j≠i→listed.getD j true=true→waits md ops i j=false) →
   (∀j oj,ops[j]?=some oj→j≠i→listed.getD j true=false→waits md ops i j=false→oi.apart ops oj=true∧ok j=true) →
   i∈Region.ready md ops listed→jF P ops R oi v a→R w→lJ F P md ops Q g fuel (listed.setIfInBounds i true) (a.put oi.dst v) w→lJ F P md ops Q g (fuel+1) listed a w:=by
 intro fuel
 induction fuel with
 | zero=>
  intro listed a w _ _ hr hy hg H
  refine ⟨fun h=>(by rw[h] at hr;cases hr),fun j hj=>?_⟩
  by_cases hji:j=i
  ·subst hji;exact hy.op hF hi hg ⟨hgr _ w,H⟩
  ·have:=ready_mono hj hji
   rw[H.1] at this
   cases this
 | succ fuel ih=>
  intro listed a w hdone hfree hr hy hg H
  refine ⟨fun h=>(by rw[h] at hr;cases hr),fun j hj=>?_⟩
  by_cases hji:j=i
  ·subst hji;exact hy.op hF hi hg ⟨hgr _ w,H⟩
  ·have h1:=H.2 j (ready_mono hj hji)
   obtain ⟨hjun,oj,hoj,hall⟩:=mem_ready.1 hj
   have hnot:waits md ops i j=false:=by
    cases hw:waits md ops i j with
    | false=>rfl
    | true=>
     exfalso
     obtain ⟨o,ho,e,he,hb,h2⟩:=acF hw
     obtain rfl:oj=o:=by rw[hoj] at ho;exact Option.some.inj ho
     have h3:=hall e he hb
     have h0:=(mem_ready.1 hr).1
     have h4:listed.getD e.on true=true:=by
      rcases aqQ e.on listed.size with h' | h'
      ·simp[h'] at h3 ⊢;exact h3
      ·simp[alv h'] at h3
     rcases h2 with h2 | h2
     ·rw[h2,h0] at h4;cases h4
     ·have hne:e.on≠i:=fun e1=>by rw[e1,h0] at h4;cases h4
      rw[hdone _ hne h4] at h2;cases h2
   obtain ⟨hap,hgj⟩:=hfree j oj hoj hji hjun hnot
   have h2:=amH hF hoj hap (hsel i oi hi).1 (hsel j oj hoj).1 (hsel j oj hoj).2 hQ hy h1
   refine wpOpIn_mono (fun a' w' ⟨h3,h4,h5⟩=>⟨h4,?_⟩) h2
   refine ih (listed.setIfInBounds j true) a' w' (fun k hki hk=>?_) (fun k ok hk hki hun hno=>?_) (ready_mono hr (Ne.symm hji)) h3 (hRs j w w' hg h4 hgj) ?_
   ·by_cases hjk:j=k
    ·subst hjk;exact hnot
    ·rw[getD_set_ne true hjk] at hk;exact hdone k hki hk
   ·refine hfree k ok hk hki ?_ hno
    by_cases hjk:j=k
    ·subst hjk;exact hjun
    ·rw[getD_set_ne true hjk] at hun;exact hun
   ·rw[Array.setIfInBounds_comm _ _ hji];exact h5
end
def aaD (ops:Array Oper) (i:Nat):Bool:=match ops[i]? with | some o=>gQ o.op | none=>true
def OT.heads:OT→List Nat
 | .alt i _ u=>i :: u.heads
 | .altw i _ u=>i :: u.heads
 | _=>[]
def OT.yO:OT→List Nat
 | .nm t=>t.yO
 | .lim l _=>l
 | .set _ t=>t.yO
 | .rd _ _ t=>t.yO
 | .one _ t=>t.yO
 | .alt _ t u=>t.yO++u.yO
 | .altw i t u=>i :: (t.yO++u.yO)
 | .wr i t=>i :: t.yO
 | _=>[]
def wQ (ops:Array Oper) (l:List Nat) (i:Nat):Bool:=aaD ops i&&!(gI i l)
def agU (ops:Array Oper) (i:Nat):Bool:=match ops[i]? with
 | some o=>adN o.op
 | none=>false
def isLoad:Op→Bool
 | .load _ _=>true
 | _=>false
def jZ:List Nat→Bool
 | []=>true
 | d :: l=>!(gI d l)&&jZ l
def ape (ops:Array Oper) (j:Nat):Bool:=match ops[j]? with
 | some o=>match o.dst with
  | some _=>true
  | none=>false
 | none=>false
def qw (ops:Array Oper) (j:Nat):List Nat:=match ops[j]? with
 | some o=>aax o
 | none=>[]
def abx (ops:Array Oper):List Nat→Array Bool→Bool
 | [],_=>true
 | i :: l,listed=>(qw ops i).all (fun e=>listed.getD e false)&&abx ops l (listed.setIfInBounds i true)
def jY (l:List Nat) (listed:Array Bool):Array Bool:=l.foldl (fun a i=>a.setIfInBounds i true) listed
def agl (ops:Array Oper) (A:l5) (listed:Array Bool):Bool:=
 listed.size.beq ops.size&&(A.l.all (fun j=>j.blt ops.size&&(!(listed.getD j true)&&ape ops j))&&(jZ A.l&&(jZ (A.l.map (nU ops.toList))&&(A.own.all (fun q=>gI q A.l) &&
 (A.l.all (fun i=>(A.u i).all fun q=>gI q A.own&&((q.beq i)||(qw ops i).any fun k=>gI k A.l&&gI q (A.u k))) &&
 (abx ops A.l listed&&((List.range ops.size).all (fun j=>gI j A.l||(listed.getD j true||A.l.all fun i=>waits .any ops i j)) &&
 (List.range ops.size).all (fun k=>!(listed.getD k false)||(qw ops k).all fun e=>listed.getD e false))))))))
def dQ (ops:Array Oper) (g:Nat→Bool):OT→Bool→Nat→Array Bool→Bool
 | .done,first,fuel,listed=>first&&(Nat.beq fuel 0&&(Region.ready .any ops listed).isEmpty)
 | .one i t,first,fuel+1,listed=>
  first&&((match ops[i]? with
  | some o=>match mV o.op with
   | true=>(Region.ready .any ops listed).contains i&&wR .any ops g listed i
   | false=>Region.ready .any ops listed==[i]
  | none=>false)&&dQ ops g t true fuel (listed.setIfInBounds i true))
 | .wr i t,first,fuel+1,listed=>
  first&&((match ops[i]? with
  | some o=>match mV o.op with
   | true=>false
   | false=>Region.ready .any ops listed==[i]&&!(g i)
  | none=>false)&&dQ ops g t true fuel (listed.setIfInBounds i true))
 | .alt i t u,first,fuel+1,listed=>
  (!first||Region.ready .any ops listed==i :: u.heads)&&(dQ ops g t true fuel (listed.setIfInBounds i true)&&dQ ops g u false (fuel+1) listed)
 | .altw i t u,first,fuel+1,listed=>
  (!first||Region.ready .any ops listed==i :: u.heads)&&((match ops[i]? with
  | some o=>!(mV o.op)&&!(g i)
  | none=>false)&&(dQ ops g t true fuel (listed.setIfInBounds i true)&&dQ ops g u false (fuel+1) listed))
 | .rd i l t,first,fuel+1,listed=>
  first&&(((match ops[i]? with
  | some o=>isLoad o.op&&((Region.ready .any ops listed).contains i&&wR .any ops (fun j=>g j||(agU ops j&&l.contains j)) listed i)
  | none=>false))&&dQ ops g t true fuel (listed.setIfInBounds i true))
 | .nm t,first,fuel,listed=>first&&dQ ops g t true fuel listed
 | .lim _ t,first,fuel,listed=>first&&dQ ops g t true fuel listed
 | .set A t,first,fuel,listed=>first&&(agl ops A listed&&(Nat.ble A.l.length fuel&&dQ ops g t true (fuel-A.l.length) (jY A.l listed)))
 | .stop,first,_,_=>!first
 | _,_,_,_=>false
def aj2 (ops:Array Oper) (ord:OT):Bool:=
 (ops.all fun o=>match o.op with | .select ..=>false | .defer _=>false | _=>true)&&dQ ops (wQ ops ord.yO) ord true ops.size (Array.replicate ops.size false)
def ku (Ts:Nat→Bool) (w w':World):Prop:=w.heap.size≤w'.heap.size∧∀b,b<w.heap.size→(∀cs T fr,w.heap[b]?=some (.cells cs T fr)→Ts T=false)→w'.heap[b]?=w.heap[b]?
theorem ku.refl (Ts:Nat→Bool) (w:World):ku Ts w w:=⟨afM _,fun _ _ _=>rfl⟩
theorem ku.trans {Ts:Nat→Bool} {a b c:World} (h:ku Ts a b) (k:ku Ts b c):ku Ts a c:=
 ⟨aiK h.1 k.1,fun x hx hT=>(k.2 x (aky hx h.1) (fun cs T fr e=>hT cs T fr ((h.2 x hx hT).symm.trans e))).trans (h.2 x hx hT)⟩
theorem Grow.toT {Ts:Nat→Bool} {w w':World} (h:Grow w w'):ku Ts w w':=⟨h.1,fun b hb _=>h.2 b hb⟩
theorem nW.toT {Ts:Nat→Bool} {e:Nat} {w w':World} (h:nW e w w') (he:Ts e=true):ku Ts w w':=
 ⟨h.1,fun b hb hT=>h.2 b hb fun cs fr hc=>by rw[hT cs e fr hc] at he;cases he⟩
def iD (Tb:Tab) (ops:Array Oper) (g:Nat→Bool) (i:Nat) (w w':World):Prop:=(g i=true→Grow w w')∧(∀o,ops[i]?=some o→adN o.op=true→ku (pI Tb [o]) w w')
theorem iD.refl {Tb:Tab} {ops:Array Oper} {g:Nat→Bool} (i:Nat) (w:World):iD Tb ops g i w w:=⟨fun _=>Grow.refl w,fun _ _ _=>ku.refl _ w⟩
theorem ain {Tb:Tab} {o:Oper} {s x:Operand} {t t':TypeId} {e:Nat} (ho:o.op=.call ⟨.builtin .append,⟨[s,x]⟩,⟨[t,t']⟩⟩) (he:elemOf Tb t=some e):∀{l:List Oper},o∈l→pI Tb l e=true
 | [],h=>by cases h
 | p :: l,h=>by
  unfold elemOf at he
  split at he
  case h_2=>cases he
  rename_i _ _ _ _ hl
  cases he
  rcases ah5.1 h with rfl | h
  ·unfold pI
   rw[ho]
   simp only[hl]
   simp
  ·have ih:=ain (Tb:=Tb) ho (e:=e) (by unfold elemOf;rw[hl]) h
   unfold pI
   split
   ·split
    ·rw[ih,att]
    ·exact ih
   ·exact ih
theorem aiz {Tb:Tab} {o:Oper} {T:Nat} (h:pI Tb [o] T=true):∀{l:List Oper},o∈l→pI Tb l T=true
 | [],hm=>by cases hm
 | p :: l,hm=>by
  rcases ah5.1 hm with rfl | hm
  ·unfold pI at h ⊢
   split
   ·rename_i ho
    rw[ho] at h
    simp only at h
    split
    ·rename_i hl
     rw[hl] at h
     simp only[pI,asY] at h
     rw[h];rfl
    ·rename_i hl
     split at h
     ·rename_i hl2;exact absurd hl2 (by intro e;exact hl _ _ _ _ e)
     ·simp[pI] at h
   ·rename_i ho
    split at h
    ·rename_i ho2;exact absurd ho2 (by intro e;exact ho _ _ _ _ e)
    ·simp[pI] at h
  ·have ih:=aiz h hm
   unfold pI
   split
   ·split
    ·rw[ih,att]
    ·exact ih
   ·exact ih
theorem ku.sub {Ts Us:Nat→Bool} {w w':World} (h:ku Ts w w') (hs:∀T,Ts T=true→Us T=true):ku Us w w':=
 ⟨h.1,fun b hb hT=>h.2 b hb fun cs T fr e=>by
  have:=hT cs T fr e
  cases ht:Ts T with
  | false=>rfl
  | true=>rw[hs T ht] at this;cases this⟩
theorem aeH {all:List Oper} {j:Nat} {o:Oper} (ho:nth all j=some o):∀{l:List Nat},j∈l→o∈picks all l
 | [],h=>by cases h
 | i :: l,h=>by
  unfold picks
  rcases ah5.1 h with rfl | h
  ·rw[ho];exact an0 ..
  ·have ih:=aeH ho h
   split
   ·exact aoc _ ih
   ·exact ih
theorem ahf {gr:Bool} {C:Ctx} {E:Env} {st:St} {a:Act} {w:World} (h:ay C E st a w) {X:bq} (hTb:X.Tb.Ok X.P) (hnt:C.nt=X.nt) (hro:C.ro=X.ro) {F:Fence} (hcm:CX C X F) {o:Oper} (hap:adN o.op=true)
  {all:List Oper} (hmem:o∈all) (hF:gJ F) {K:St→Prop} (hk:step X gr o st K) {next:Act→World→Prop} {Q:Exit→Act→World→Prop}
  (hn:∀st' E' a' w',K st'→ay C E' st' a' w'→ku (pI X.Tb all) w w'→next a' w'):o.wpIn F 9 X.P a w next Q:=by
 unfold adN at hap
 split at hap
 case h_2=>cases hap
 rename_i s x t t' ho
 have hnd:∀c',o.op≠.defer c':=by simp[ho]
 have hfl:mV o.op=false:=by rw[ho];rfl
 unfold step step0 at hk
 rw[hfl] at hk
 cases hd:bN X.nt o.dst with
 | false=>simp[hd] at hk
 | true=>
  simp only[hd,aft,ho,wE] at hk
  have hn2:∀st' E' a' w',agc X o.dst st' K→ay C E' st' a' w'→(∃e,elemOf X.Tb t=some e∧nW e w w')→next a' w':=by
   intro st' E' a' w' hk' h' ⟨e,he,hg⟩
   exact xB h' hnt hcm.m hd hk' fun st2 E2 a2 w2 hk2 h2 hw=>hn st2 E2 a2 w2 hk2 h2 (by rw[hw];exact hg.toT (ain ho he hmem))
  cases htt:t.beq t' with
  | false=>
   simp only[htt] at hk
   obtain ⟨v',w',hr,hnx⟩:=yh h hTb hnt hcm.m hd (aG h s) (aG h x) hk hn2 o.type
   refine dz hF hnd (v:=v') (w':=w') ?_ hnx
   simp only[execOp,ho,resolve,invoke,builtin,Sem.run_bind,Sem.run_pure,Result.andThen_ok,asX,ak3,asI,hr]
  | true=>
   obtain rfl:=afD htt
   simp only[htt] at hk
   obtain ⟨v',w',hr,hnx⟩:=yx h hTb hnt hro hcm.m hd (aG h s) (aG h x) hk hn2 o.type
   refine dz hF hnd (v:=v') (w':=w') ?_ hnx
   simp only[execOp,ho,resolve,invoke,builtin,Sem.run_bind,Sem.run_pure,Result.andThen_ok,asX,ak3,asI,hr]
theorem afV {C:Ctx} {E:Env} {st:St} {a:Act} {w:World} (h:ay C E st a w) {X:bq} (hTb:X.Tb.Ok X.P) (hnt:C.nt=X.nt) {o:Oper} {all:List Oper} {K:St→Prop} (hk:acO X all o st K) {next:Act→World→Prop}
  (hn:∀st' E' a' w',K st'→ay C E' st' a' w'→next a' w'):o.guard=none∧aP (ku (pI X.Tb all) w) X.P o a w next:=by
 unfold acO at hk
 split at hk
 case h_2=>exact hk.elim
 rename_i T x hg ho hd
 refine ⟨hg,?_⟩
 split at hk
 case h_2=>exact hk.elim
 rename_i d size _ _ hi
 split at hk
 case h_2=>exact hk.elim
 rename_i i off hbig hx
 split at hk
 case h_2=>exact hk.elim
 rename_i T' cs hob
 split at hk
 case h_2=>exact hk.elim
 rename_i hap
 split at hk
 case h_2=>exact hk.elim
 rename_i s hr
 have hxv:=aG h x
 rw[hx] at hxv
 obtain ⟨b,hb,hxe⟩:=eX hxv
 obtain ⟨b',vs,hb',hw,hA⟩:=(h.heap.ob i _ hob).iC
 rw[hb] at hb';cases hb'
 have hc:lW E (fun k=>w.cell? ⟨b,0+k,none⟩) cs:=fun k s hs=>by
  obtain ⟨u,hu,h1,h2⟩:=hA.at k s hs
  exact ⟨u,by simp[World.cell?,hw];exact hu,h1,h2⟩
 obtain ⟨v,hv,hs⟩:=uj (hTb _ _ hi) hc hr
 refine aP.mk' (v:=v) (fun w1 hg1=>?_) (aD h hnt hd hk hs hn)
 have hsame:w1.heap[b]?=w.heap[b]?:=hg1.2 b (acn.1 hw).1 fun cs2 T2 fr2 e2=>by rw[hw] at e2;cases e2;exact hap
 have:=hv w1 (fun k=>by simp only[World.cell?,hsame])
 simp only[agC] at this
 simp[execOp,ho,Instr.loadAt,hxe,Instr.sureAddr,this]
theorem ay.weak {C:Ctx} {E:Env} {st st':St} {a:Act} {w:World} (h:ay C E st a w) (hs:∀t,st'.get t=st.get t∨st'.get t=.any) (ho:st'.ob=st.ob) (hno:st'.no=st.no) (hk:st'.k=st.k):ay C E st' a w:=by
 have ho:∀i,st'.obj i=st.obj i:=fun i=>by unfold St.obj;rw[ho]
 refine ⟨h.size,fun t=>?_,⟨fun i o hi=>h.heap.ob i o ((ho i).symm.trans hi),fun i j o o' b hi hj=>h.heap.sep i j o o' b ((ho i).symm.trans hi) ((ho j).symm.trans hj),fun i o b hi=>h.heap.own i o b ((ho i).symm.trans hi),h.heap.mem,h.heap.mem0,h.heap.memnew,by rw[hno];exact h.heap.new,h.heap.base,h.heap.fr,h.heap.hd0,by rw[hno];exact h.heap.mno,h.heap.mkh,by rw[hk];exact h.heap.kk⟩,h.marks⟩
 rcases hs t with e | e
 ·rw[e];exact h.slot t
 ·rw[e];exact .any _
theorem abk {all:List Oper} {g g':Nat→SV} {fr:List (Nat×SV)} {i t:Nat} (ht:t≠nU all i):∀{l:List Nat},(∀j∈l,j≠i→g' j=g j)→look (mg all g' fr l) t=look (mg all g fr l) t
 | [],_=>rfl
 | j :: l,h=>by
  simp only[mg,bC]
  by_cases e:nU all j=t
  ·rw[if_pos e,if_pos e]
   have:j≠i:=fun ji=>by subst ji;exact ht e.symm
   rw[h j (an0 ..) this]
  ·rw[if_neg e,if_neg e];exact abk ht fun j hj=>h j (aoc _ hj)
theorem abp {all:List Oper} {g:Nat→SV} {fr:List (Nat×SV)} {i:Nat}:∀{l:List Nat},i∈l→jZ (l.map (nU all))=true→look (mg all g fr l) (nU all i)=some (g i)
 | j :: l,hi,ha=>by
  simp only[mg,bC]
  simp only[ak3,jZ,afT,aof] at ha
  rcases ah5.1 hi with rfl | hi
  ·rw[if_pos rfl]
  ·rw[if_neg,abp hi ha.2]
   intro e
   have:gI (nU all j) (l.map (nU all))=true:=(eu _ _).2 (e▸List.mem_map_of_mem hi)
   rw[ha.1] at this;cases this
theorem aao {all:List Oper} {g:Nat→SV} {fr:List (Nat×SV)} {t:Nat}:∀{l:List Nat},(∀j∈l,g j=.any)→look (mg all g fr l) t=look fr t∨look (mg all g fr l) t=some .any
 | [],_=>.inl rfl
 | j :: l,h=>by
  simp only[mg,bC]
  by_cases e:nU all j=t
  ·rw[if_pos e];exact .inr (by rw[h j (an0 ..)])
  ·rw[if_neg e];exact aao fun j hj=>h j (aoc _ hj)
theorem vD {all:List Oper} {g g':Nat→SV} {fr:List (Nat×SV)}:∀{l:List Nat},(∀j∈l,g' j=g j)→mg all g' fr l=mg all g fr l
 | [],_=>rfl
 | j :: l,h=>by simp only[mg];rw[h j (an0 ..),vD fun j hj=>h j (aoc _ hj)]
theorem xE {P:Nat→Prop}:∀{l:List Nat} {i:Nat},sZ P l→i∈l→P i
 | j :: l,i,h,hi=>by
  rcases ah5.1 hi with rfl | hi
  ·exact h.1
  ·exact xE h.2 hi
theorem agr {p q:Nat}:∀{l:List Nat},q∈l→q≠p→q∈ab2 p l
 | j :: l,hq,hne=>by
  unfold ab2
  cases hb:j.beq p with
  | true=>
   rcases ah5.1 hq with rfl | hq
   ·exact absurd (afD hb) hne
   ·exact hq
  | false=>
   rcases ah5.1 hq with rfl | hq
   ·exact an0 ..
   ·exact aoc _ (agr hq hne)
theorem abt {p:Nat}:∀{l:List Nat},p∈l→(ab2 p l).length+1=l.length
 | j :: l,hp=>by
  unfold ab2
  cases hb:j.beq p with
  | true=>rfl
  | false=>
   rcases ah5.1 hp with rfl | hp
   ·simp at hb
   ·simp only[ait,abt hp]
theorem ado {P:List Nat→Prop}:∀(n:Nat) (own σ ρ:List Nat),own.length=n→q9 P n own ρ→σ.Nodup→(∀q∈σ,q∈own)→P (σ.reverse++ρ)
 | 0,own,σ,ρ,hl,h,hn,hs=>by
  cases σ with
  | nil=>exact h
  | cons p σ=>have:=hs p (an0 ..);rw[an6.1 hl] at this;cases this
 | n+1,own,σ,ρ,hl,h,hn,hs=>by
  cases σ with
  | nil=>exact h.1
  | cons p σ=>
   have hp:=hs p (an0 ..)
   rw[as8] at hn
   have:=ado n (ab2 p own) σ (p :: ρ) (by have:=abt hp;omega) (xE h.2 hp) hn.2 fun q hq=>agr (hs q (aoc _ hq)) fun e=>hn.1 (e▸hq)
   simpa using this
theorem acI {P:List Nat→Prop} {own ρ:List Nat} (h:q9 P own.length own []) (hn:ρ.Nodup) (hs:∀q∈ρ,q∈own):P ρ:=by
 have:=ado own.length own ρ.reverse [] rfl h (List.pairwise_reverse.2 (hn.imp Ne.symm)) fun q hq=>hs q (List.mem_reverse.1 hq)
 simpa using this
theorem akP {no i:Nat} {ρ us:List Nat} (hi:i∉ρ) (hu:∀q∈us,q∈ρ):nums no (i :: ρ) us=nums no ρ us:=by
 unfold nums
 refine List.map_congr_left fun q hq=>?_
 have:i.beq q=false:=by cases hb:i.beq q with | false=>rfl | true=>exact absurd (hu q hq) ((afD hb)▸hi)
 simp only[numOf,this]
def oG (ops:Array Oper) (listed:Array Bool):Prop:=∀k o,ops[k]?=some o→listed.getD k false=true→∀e∈o.after,Region.binds .any e=true→listed.getD e.on false=true
theorem oG.reach {ops:Array Oper} {listed:Array Bool} (h:oG ops listed) {i:Nat}:∀(k j:Nat),Nat.testBit (iG .any ops i k) j=true→(∀o,ops[j]?=some o→∀e∈o.after,Region.binds .any e=true→listed.getD e.on false=true)→listed.getD i false=true
 | 0,j,hw,_=>by simp[iG] at hw
 | k+1,j,hw,hd=>by
  rcases yU hw with hw | ⟨o,ho,e,he,hb,h1⟩
  ·exact oG.reach h k j hw hd
  ·have h2:=hd o ho e he hb
   rcases h1 with h1 | h1
   ·rw[←h1];exact h2
   ·exact oG.reach h k e.on h1 fun o' ho' e' he' hb'=>h e.on o' ho' h2 e' he' hb'
theorem oG.waits {ops:Array Oper} {listed:Array Bool} (h:oG ops listed) {i:Nat} (j:Nat) (hw:waits .any ops i j=true) (hd:∀o,ops[j]?=some o→∀e∈o.after,Region.binds .any e=true→listed.getD e.on false=true):listed.getD i false=true:=h.reach _ j hw hd
theorem aio {l:Array Bool} {i:Nat} (h:l.getD i true=false):l.getD i false=false:=by
 rcases aqQ i l.size with h' | h'
 ·simp[h'] at h ⊢;exact h
 ·simp[alv h'] at h
theorem aiU {l:Array Bool} {i:Nat} (h:l.getD i false=true):l.getD i true=true:=by
 rcases aqQ i l.size with h' | h'
 ·simp[h'] at h ⊢;exact h
 ·simp[alv h'] at h
theorem ag9 {l:Array Bool} {i:Nat} (h:l.getD i false=false) (hi:i<l.size):l.getD i true=false:=by
 simp[hi] at h ⊢;exact h
theorem alh {l:Array Bool} {i:Nat} (h:l.getD i true=false):i<l.size:=by
 rcases aqQ i l.size with h' | h'
 ·exact h'
 ·simp[alv h'] at h
theorem lI {l:Array Bool} {i j:Nat}:(l.setIfInBounds i true).getD j true=if i=j then true else l.getD j true:=by
 by_cases e:i=j
 ·subst e
  rw[if_pos rfl]
  rcases aqQ i l.size with h' | h'
  ·simp[h']
  ·rw[acW,alv (by simpa using h')];rfl
 ·rw[if_neg e,getD_set_ne true e]
theorem aee {l:List Nat} {j:Nat}:∀{a:Array Bool},(jY l a).getD j true=if j∈l then true else a.getD j true:=by
 induction l with
 | nil=>intro a;simp[jY]
 | cons i l ih=>
  intro a
  have:jY (i :: l) a=jY l (a.setIfInBounds i true):=rfl
  rw[this,ih,lI]
  by_cases e:j∈l
  ·simp[e]
  ·by_cases e2:i=j
   ·simp[e2]
   ·simp[e,e2,Ne.symm e2]
theorem ady {l:List Nat}:∀{a:Array Bool},(jY l a).size=a.size:=by
 induction l with
 | nil=>intro a;rfl
 | cons i l ih=>intro a;exact (ih (a:=a.setIfInBounds i true)).trans (by simp)
theorem aiE {listed:Array Bool} {i:Nat} (hu:listed.getD i true=false):∀{l:List Nat},jZ l=true→i∈l→(l.filter fun j=>!(listed.setIfInBounds i true).getD j true).length+1=(l.filter fun j=>!listed.getD j true).length
 | j :: l,ha,hi=>by
  simp only[jZ,afT,aof] at ha
  by_cases e:i=j
  ·subst e
   rw[atd (by rw[lI];simp),ate (by rw[hu];rfl),ait]
   congr 2
   refine List.filter_congr fun k hk=>?_
   rw[lI,if_neg]
   intro e;subst e
   rw[(eu _ _).2 hk] at ha
   cases ha.1
  ·have hi:=(ah5.1 hi).resolve_left e
   have ih:=aiE hu ha.2 hi
   cases hj:listed.getD j true with
   | true=>rw[atd (by rw[lI,if_neg e,hj];simp),atd (by rw[hj];simp)];exact ih
   | false=>rw[ate (by rw[lI,if_neg e,hj];rfl),ate (by rw[hj];rfl),ait,ait,ih]
theorem wF {o:Oper} {k:Nat}:k∈aax o↔∃e∈o.after,Region.binds .any e=true∧e.on=k:=by
 unfold aax
 simp only[aq4,List.mem_filter,as3]
 constructor
 ·rintro ⟨e,⟨h1,h2⟩,h3⟩;exact ⟨e,h1,h2,h3⟩
 ·rintro ⟨e,h1,h2,h3⟩;exact ⟨e,⟨h1,h2⟩,h3⟩
theorem acX {ops:Array Oper} {listed:Array Bool}:∀(l:List Nat) (lx:Array Bool),abx ops l lx=true→(∀k,lx.getD k false=true→listed.getD k false=true)→(∀j∈l,j<ops.size)→listed.size=ops.size→(∃j∈l,listed.getD j true=false)→Region.ready .any ops listed≠[]
 | [],_,_,_,_,_,⟨j,hj,_⟩=>by cases hj
 | i :: l,lx,ht,hx,hs,hz,⟨j,hj,hu⟩=>by
  simp only[abx,afT,alM] at ht
  have hi:=hs i (an0 ..)
  cases hl:listed.getD i true with
  | false=>
   intro h0
   have:i∈Region.ready .any ops listed:=mem_ready.2 ⟨hl,ops[i],acy hi,fun e he hb=>hx _ (ht.1 _ (by
    unfold qw;rw[acy hi];exact wF.2 ⟨e,he,hb,rfl⟩))⟩
   rw[h0] at this;cases this
  | true=>
   refine acX l _ ht.2 (fun k hk=>?_) (fun j hj=>hs j (aoc _ hj)) hz ⟨j,(ah5.1 hj).resolve_left (fun e=>by subst e;rw[hl] at hu;cases hu),hu⟩
   by_cases e:i=k
   ·subst e
    cases h:listed.getD i false with
    | true=>rfl
    | false=>rw[ag9 h (by omega)] at hl;cases hl
   ·rw[getD_set_ne false e] at hk;exact hx k hk
structure arY (ops:Array Oper) (A:l5) (listed0 listed:Array Bool) (ρ:List Nat):Prop where
 size:listed.size=ops.size
 out:∀j,j∉A.l→listed.getD j true=listed0.getD j true
 closed:oG ops listed
 nodup:ρ.Nodup
 own:∀q∈ρ,q∈A.own∧listed.getD q true=true
 all:∀q∈A.own,listed.getD q true=true→q∈ρ
 use:∀j∈A.l,listed.getD j true=true→∀q∈A.u j,q∈ρ
def mP (A:l5) (no:Nat) (ρ:List Nat) (listed:Array Bool) (j:Nat):SV:=bif listed.getD j true then A.f j (nums no ρ (A.u j)) else .any
structure aqP (ops:Array Oper) (A:l5) (listed:Array Bool):Prop where
 size:listed.size=ops.size
 un:∀j∈A.l,j<ops.size∧listed.getD j true=false
 nd:jZ A.l=true
 nd2:jZ (A.l.map (nU ops.toList))=true
 own:∀q∈A.own,q∈A.l
 use:∀i∈A.l,∀q∈A.u i,q∈A.own∧(q=i∨∃k∈qw ops i,k∈A.l∧q∈A.u k)
 abx:abx ops A.l listed=true
 others:∀j,j<ops.size→j∉A.l→listed.getD j true=false→∀i∈A.l,waits .any ops i j=true
 closed:oG ops listed
theorem ahU {ops:Array Oper} {A:l5} {listed:Array Bool} (h:agl ops A listed=true):aqP ops A listed:=by
 simp only[agl,afT,ap3,alM,arN,as2,aof,eu,Nat.beq_eq_true_eq] at h
 obtain ⟨h1,h2,h3,h4,h5,h6,h7,h8,h9⟩:=h
 refine ⟨afD h1,fun j hj=>⟨by have:=(h2 j hj).1;simpa [asF] using this,(h2 j hj).2.1⟩,h3,h4,h5,fun i hi q hq=>⟨(h6 i hi q hq).1,(h6 i hi q hq).2.imp afD id⟩,h7,fun j hj hn hu i hi=>?_,fun k o ho hl e he hb=>?_⟩
 ·rcases h8 j hj with h | h | h
  ·exact absurd h hn
  ·rw[hu] at h;cases h
  ·exact h i hi
 ·have hk:=(acn.1 ho).1
  rcases h9 k hk with h | h
  ·rw[hl] at h;cases h
  ·exact h e.on (by unfold qw;rw[ho];exact wF.2 ⟨e,he,hb,rfl⟩)
section
variable {C : Ctx} {X : bq} (hTb : X.Tb.Ok X.P) (hnt : C.nt = X.nt) (hro : C.ro = X.ro) {F : Fence} (hcm : CX C X F) (hF : gJ F) (ops : Array Oper) (hsel : ∀ (j : Nat) (o : Oper), ops[j]? = some o → (∀ cs b, o.op ≠ .select cs b) ∧ ∀ c, o.op ≠ .defer c)
  {K:St→Prop} {Q:Exit→Act→World→Prop} (hQ:∀c a w,¬Q (.panic c) a w) {g:Nat→Bool} (hg0:∀i,g i=true→aaD ops i=true)
include hTb hnt hro hcm hF hsel hQ hg0
theorem mo {gr:Bool} {i fuel:Nat} {o:Oper} (hgr:gr=true∨(g i=false∧mV o.op=false)) (hoi:ops[i]?=some o) {st:St} {E:Env} {a:Act} {w:World} {listed:Array Bool} {V:St→Prop}
  (ih:∀st' E' a' w',V st'→ay C E' st' a' w'→lJ F X.P .any ops Q (iD X.Tb ops g) fuel (listed.setIfInBounds i true) a' w')
  (hk:stepG X gr ops.toList o st V) (h:ay C E st a w) :
  wpOpIn F 9 X.P ops Q i (fun a' w'=>iD X.Tb ops g i w w'∧lJ F X.P .any ops Q (iD X.Tb ops g) fuel (listed.setIfInBounds i true) a' w') a w:=by
 rcases vB h hk with ⟨h1,st1,h2,h3⟩ | ⟨h1,hdo,st1,h2,h3⟩
 ·cases hfl:mV o.op with
  | true=>
   obtain rfl:gr=true:=hgr.resolve_right (by simp[hfl])
   unfold step step0 at h3
   rw[hfl] at h3
   cases hd:bN X.nt o.dst with
   | false=>simp[hd] at h3
   | true=>
    simp only[hd] at h3
    obtain ⟨v,hv,hnx⟩:=zq (R:=Grow w) (next:=fun a' w'=>lJ F X.P .any ops Q (iD X.Tb ops g) fuel (listed.setIfInBounds i true) a' w') h2 hTb hnt hcm.m (fun _ hg _=>hg) hd h3 (fun st' E' a' w' hk' h'=>ih st' E' a' w' hk' h')
    exact jF.op hF hoi (.inl ⟨h1,(hsel i o hoi).2,hv⟩) (Grow.refl w) ⟨iD.refl i w,hnx⟩
  | false=>
   unfold wpOpIn
   simp only[hoi]
   rw[if_pos h1]
   cases hap:adN o.op with
   | true=>
    have hng:¬g i=true:=fun hgi=>by
     have:=hg0 i hgi
     simp only[aaD,hoi] at this
     unfold adN at hap
     split at hap
     ·rename_i ho;rw[ho] at this;simp[gQ] at this
     ·cases hap
    exact ahf (all:=[o]) h2 hTb hnt hro hcm hap (an0 ..) hF h3 fun st' E' a' w' hk' h' hT=>⟨⟨fun hgi=>absurd hgi hng,fun o2 ho2 _=>by rw[hoi] at ho2;cases ho2;exact hT⟩,ih st' E' a' w' hk' h'⟩
   | false=>
    exact ade h2 hTb hnt hro hcm hF h3 fun st' E' a' w' hk' h' hg=>⟨⟨fun hgi=>hg (hgr.resolve_right (by simp[hgi])) (by simpa [aaD,hoi] using hg0 i hgi),fun o2 ho2 hA=>by rw[hoi] at ho2;cases ho2;rw[hap] at hA;cases hA⟩,ih st' E' a' w' hk' h'⟩
 ·unfold wpOpIn
  simp only[hoi]
  rw[if_neg (by simp[h1])]
  exact ⟨fun f _=>hF.fn f,dB (next:=fun a' w'=>iD X.Tb ops g i w w'∧lJ F X.P .any ops Q (iD X.Tb ops g) fuel (listed.setIfInBounds i true) a' w') h2 hnt hdo h3 (.val true undef) fun st' E' a' w' hk' h' hw=>⟨by rw[hw];exact iD.refl i w,ih st' E' a' w' hk' h'⟩⟩
theorem aeP {A:l5} {st0:St} {listed0:Array Bool} {fuel0:Nat} (hc:aqP ops A listed0) (hgo:q9 (fun ρ=>sZ (fun i=>sF X ops.toList A st0 ρ i) A.l) A.own.length A.own [])
  (hleaf:∀ρ E a w,ρ.Nodup→(∀q∈ρ,q∈A.own)→(∀q∈A.own,q∈ρ)→ay C E (aaL ops.toList A st0 ρ) a w→lJ F X.P .any ops Q (iD X.Tb ops g) fuel0 (jY A.l listed0) a w) :
  ∀(n:Nat) (listed:Array Bool) (ρ:List Nat) (E:Env) (a:Act) (w:World),arY ops A listed0 listed ρ→(A.l.filter fun j=>!listed.getD j true).length=n →
   ay C E (setSt ops.toList A st0 (mP A st0.no ρ listed) ρ) a w→lJ F X.P .any ops Q (iD X.Tb ops g) (n+fuel0) listed a w
 | 0,listed,ρ,E,a,w,hi,hn,hM=>by
  have hall:∀j∈A.l,listed.getD j true=true:=fun j hj=>by
   have:=List.filter_eq_nil_iff.1 (an6.1 hn) j hj
   simpa using this
  have e:listed=jY A.l listed0:=by
   refine Array.ext (by rw[ady,hc.size,hi.size]) fun k h1 h2=>?_
   have h3:listed.getD k true=(jY A.l listed0).getD k true:=by
    rw[aee]
    by_cases hk:k∈A.l
    ·rw[if_pos hk,hall k hk]
    ·rw[if_neg hk,hi.out k hk]
   simpa [h1,h2] using h3
  rw[agC,e]
  refine hleaf ρ E a w hi.nodup (fun q hq=>(hi.own q hq).1) (fun q hq=>hi.all q hq (hall q (hc.own q hq))) ?_
  have:setSt ops.toList A st0 (mP A st0.no ρ listed) ρ=aaL ops.toList A st0 ρ:=by
   have:=vD (all:=ops.toList) (g:=fun j=>A.f j (nums st0.no ρ (A.u j))) (g':=mP A st0.no ρ listed) (fr:=st0.fr) (l:=A.l) fun j hj=>by unfold mP;rw[hall j hj];rfl
   unfold aaL setSt
   rw[this]
  rw[←this];exact hM
 | n+1,listed,ρ,E,a,w,hi,hn,hM=>by
  obtain ⟨i0,hi0,hu0⟩:∃j∈A.l,listed.getD j true=false:=by
   cases hf:A.l.filter fun j=>!listed.getD j true with
   | nil=>rw[hf] at hn;simp at hn
   | cons j t=>
    have:j∈A.l.filter fun j=>!listed.getD j true:=by rw[hf];exact an0 ..
    rw[List.mem_filter] at this
    exact ⟨j,this.1,by simpa using this.2⟩
  rw[Nat.succ_add]
  refine ⟨fun h0=>absurd h0 (acX A.l listed0 hc.abx (fun k hk=>?_) (fun j hj=>(hc.un j hj).1) hi.size ⟨i0,hi0,hu0⟩),fun i hr=>?_⟩
  ·have hkl:k∉A.l:=fun h=>by have:=aio (hc.un k h).2;rw[hk] at this;cases this
   have h1:=hi.out k hkl
   rw[aiU hk] at h1
   cases h:listed.getD k false with
   | true=>rfl
   | false=>
    have hks:k<listed0.size:=by
     rcases aqQ k listed0.size with h' | h'
     ·exact h'
     ·simp[alv h'] at hk
    rw[ag9 h (by have:=hi.size;have:=hc.size;omega)] at h1;cases h1
  ·obtain ⟨hu,oi,hoi,hdep⟩:=mem_ready.1 hr
   have his:=(acn.1 hoi).1
   have hil:i∈A.l:=by
    rcases Classical.em (i∈A.l) with h | h
    ·exact h
    ·exfalso
     have:=hi.closed.waits i (hc.others i his h ((hi.out i h).symm.trans hu) i0 hi0) fun o ho e he hb=>by rw[hoi] at ho;cases ho;exact hdep e he hb
     rw[aio hu0] at this;cases this
   have hir:i∉ρ:=fun h=>by have:=(hi.own i h).2;rw[hu] at this;cases this
   have hdl:∀k∈qw ops i,listed.getD k true=true:=fun k hk=>by
    unfold qw at hk
    rw[hoi] at hk
    obtain ⟨e,he,hb,rfl⟩:=wF.1 hk
    exact aiU (hdep e he hb)
   have huse:∀q∈A.u i,q=i∨q∈ρ:=fun q hq=>(hc.use i hil q hq).2.imp id fun ⟨k,hk,hkl,hqk⟩=>hi.use k hkl (hdl k hk) q hqk
   have hgoal:sF X ops.toList A st0 ρ i:=xE (acI (P:=fun ρ=>sZ (fun i=>sF X ops.toList A st0 ρ i) A.l) hgo hi.nodup fun q hq=>(hi.own q hq).1) hil
   unfold sF at hgoal
   have e1:gI i ρ=false:=by cases h:gI i ρ with | false=>rfl | true=>exact absurd ((eu _ _).1 h) hir
   have e2:agF A i ρ=true:=by
    unfold agF
    rw[alM]
    intro q hq
    rcases huse q hq with h | h
    ·rw[h];simp
    ·rw[(eu _ _).2 h];simp
   rw[e1,e2] at hgoal
   simp only[dW,aeD,hoi] at hgoal
   have hgoal:=hgoal (mP A st0.no ρ listed)
   have eg:∀j∈A.l,aeh A st0.no ρ i oi (mP A st0.no ρ listed) j=mP A st0.no ρ listed j:=by
    intro j hj
    unfold aeh
    cases hd:gI j (aax oi) with
    | true=>
     have:j∈qw ops i:=by unfold qw;rw[hoi];exact (eu _ _).1 hd
     unfold mP;rw[hdl j this];rfl
    | false=>
     cases hb:j.beq i with
     | true=>obtain rfl:=afD hb;unfold mP;rw[hu];rfl
     | false=>rfl
   have est:setSt ops.toList A st0 (aeh A st0.no ρ i oi (mP A st0.no ρ listed)) ρ=setSt ops.toList A st0 (mP A st0.no ρ listed) ρ:=by unfold setSt;rw[vD eg]
   rw[est] at hgoal
   refine mo hTb hnt hro hcm hF ops hsel hQ hg0 (.inl rfl) hoi (fun st' E' a' w' hk' h'=>?_) hgoal hM
   have hsz:i<listed.size:=alh hu
   have hsub:∀q∈jU A i ρ,q=i∨q∈ρ:=fun q hq=>by
    unfold jU at hq
    split at hq
    ·exact ah5.1 hq
    ·exact .inr hq
   have hsup:∀q∈ρ,q∈jU A i ρ:=fun q hq=>by
    unfold jU
    split
    ·exact aoc _ hq
    ·exact hq
   have hself:i∈A.own→i∈jU A i ρ:=fun h=>by unfold jU;rw[(eu _ _).2 h];exact an0 ..
   refine aeP hc hgo hleaf n (listed.setIfInBounds i true) (jU A i ρ) E' a' w' ⟨by simp[hi.size],fun j hj=>?_,fun k o ho hl e he hb=>?_,?_,fun q hq=>?_,fun q hq hl=>?_,fun j hj hl q hq=>?_⟩ ?_ ?_
   ·rw[getD_set_ne true (fun e:i=j=>hj (by subst e;exact hil))];exact hi.out j hj
   ·by_cases eq:i=k
    ·subst eq;rw[hoi] at ho;cases ho;exact getD_set_true (hdep e he hb)
    ·rw[getD_set_ne false eq] at hl;exact getD_set_true (hi.closed k o ho hl e he hb)
   ·unfold jU
    split
    ·exact as8.2 ⟨hir,hi.nodup⟩
    ·exact hi.nodup
   ·have h1:q∈A.own:=by
     unfold jU at hq
     split at hq
     ·rename_i ho
      rcases ah5.1 hq with rfl | hq
      ·exact (eu _ _).1 ho
      ·exact (hi.own q hq).1
     ·exact (hi.own q hq).1
    refine ⟨h1,?_⟩
    rw[lI]
    split
    ·rfl
    ·rename_i hne;exact (hi.own q ((hsub q hq).resolve_left (Ne.symm hne))).2
   ·rw[lI] at hl
    by_cases e:i=q
    ·subst e;exact hself hq
    ·rw[if_neg e] at hl;exact hsup q (hi.all q hq hl)
   ·rw[lI] at hl
    by_cases e:i=j
    ·subst e
     rcases huse q hq with h | h
     ·subst h;exact hself (hc.use q hil q hq).1
     ·exact hsup q h
    ·rw[if_neg e] at hl;exact hsup q (hi.use j hj hl q hq)
   ·have:=aiE hu hc.nd hil;omega
   ·refine h'.weak (fun t=>.inl ?_) (by rw[hk'.ob];rfl) (by rw[hk'.no];rfl) (by rw[hk'.k];rfl)
    unfold St.get
    rw[hk'.fr]
    have hkeep:∀j∈A.l,j≠i→mP A st0.no (jU A i ρ) (listed.setIfInBounds i true) j=aeh A st0.no ρ i oi (mP A st0.no ρ listed) j:=by
     intro j hj hne
     rw[eg j hj]
     unfold mP
     rw[getD_set_ne true (Ne.symm hne)]
     cases hl:listed.getD j true with
     | false=>rfl
     | true=>
      simp only[cond_true]
      unfold jU
      split
      ·rw[akP hir (hi.use j hj hl)]
      ·rfl
    by_cases e:t=nU ops.toList i
    ·subst e
     rw[bC,if_pos rfl]
     simp only[setSt]
     rw[abp hil hc.nd2]
     unfold mP
     rw[lI,if_pos rfl];rfl
    ·rw[bC,if_neg (Ne.symm e)]
     simp only[setSt]
     rw[abk e hkeep]
theorem fO (hn : ∀ st' E' a' w', K st' → ay C E' st' a' w' → Q .normal a' w') : ∀ (t : OT) (first : Bool) (fuel : Nat) (listed : Array Bool) (st : St) (E : Env) (a : Act) (w : World), dQ ops g t first fuel listed = true → gG X ops.toList t st K → ay C E st a w →
      (first = true → lJ F X.P .any ops Q (iD X.Tb ops g) fuel listed a w) ∧
      ∀ n, fuel = n + 1 → ∀ i ∈ t.heads, wpOpIn F 9 X.P ops Q i (fun a' w' => iD X.Tb ops g i w w' ∧ lJ F X.P .any ops Q (iD X.Tb ops g) n (listed.setIfInBounds i true) a' w') a w
  | .done, first, fuel, listed, st, E, a, w, ho, hk, h => by
    simp only [dQ, afT, List.isEmpty_iff] at ho
    obtain ⟨rfl, hf, he⟩ := ho
    obtain rfl := afD hf
    exact ⟨fun _ => ⟨he, hn st E a w hk h⟩, fun n hn => by omega⟩
  | .stop, first, fuel, listed, st, E, a, w, ho, hk, h => by
    cases first with
    | true => simp [dQ] at ho
    | false => exact ⟨fun h => (by cases h), fun n _ i hi => (by cases hi)⟩
  | .one i t, first, 0, listed, st, E, a, w, ho, hk, h => by simp [dQ] at ho
  | .wr i t, first, 0, listed, st, E, a, w, ho, hk, h => by simp [dQ] at ho
  | .wr i rest, first, fuel + 1, listed, st, E, a, w, ho, hk, h => by
    refine ⟨fun _ => ?_, fun n _ j hj => by cases hj⟩
    simp only [dQ, afT] at ho
    obtain ⟨-, ho, hrest⟩ := ho
    simp only [adh, ae9, wu, dW, aeD] at hk
    have ih := fun st' E' a' w' hk' h' => (fO hn rest true fuel (listed.setIfInBounds i true) st' E' a' w' hrest hk' h').1 rfl
    cases hoi : ops[i]? with
    | none => simp [hoi] at ho
    | some o =>
      simp only [hoi] at ho hk
      cases hfl : mV o.op with
      | true => simp [hfl] at ho
      | false =>
        simp only [hfl, afT, beq_iff_eq, aof] at ho
        refine ⟨fun h0 => (by rw [ho.1] at h0; cases h0), fun j hj => ?_⟩
        rw [ho.1] at hj
        obtain rfl : j = i := by simpa using hj
        exact mo hTb hnt hro hcm hF ops hsel hQ hg0 (.inr ⟨ho.2, hfl⟩) hoi ih hk h
  | .alt i t u, first, 0, listed, st, E, a, w, ho, hk, h => by simp [dQ] at ho
  | .alt i t u, first, fuel + 1, listed, st, E, a, w, ho, hk, h => by
    simp only [dQ, afT, ap3, aof, beq_iff_eq] at ho
    obtain ⟨hr, h1, h2⟩ := ho
    rw [wu] at hk
    obtain ⟨hk1, hk2⟩ := hk
    have ih1 := fO hn t
    have ih2 := (fO hn u false (fuel + 1) listed st E a w h2 hk2 h).2
    simp only [dW, aeD] at hk1
    have all : ∀ n, fuel + 1 = n + 1 → ∀ j ∈ (OT.alt i t u).heads, wpOpIn F 9 X.P ops Q j (fun a' w' => iD X.Tb ops g j w w' ∧ lJ F X.P .any ops Q (iD X.Tb ops g) n (listed.setIfInBounds j true) a' w') a w := by
      intro n hnn j hj
      obtain rfl : fuel = n := by omega
      rcases ah5.1 hj with rfl | hj
      · cases hoi : ops[j]? with
        | none => simp [hoi] at hk1
        | some o =>
          simp only [hoi] at hk1
          exact mo hTb hnt hro hcm hF ops hsel hQ hg0 (.inl rfl) hoi (fun st' E' a' w' hk' h' => (ih1 true fuel _ st' E' a' w' h1 hk' h').1 rfl) hk1 h
      · exact ih2 fuel rfl j hj
    refine ⟨fun hf => ?_, all⟩
    subst hf
    have hr : Region.ready .any ops listed = i :: u.heads := by simpa using hr
    refine ⟨fun h0 => (by rw [hr] at h0; cases h0), fun j hj => ?_⟩
    rw [hr] at hj
    exact all fuel rfl j hj
  | .altw i t u, first, 0, listed, st, E, a, w, ho, hk, h => by simp [dQ] at ho
  | .altw i t u, first, fuel + 1, listed, st, E, a, w, ho, hk, h => by
    simp only [dQ, afT, ap3, aof, beq_iff_eq] at ho
    obtain ⟨hr, hw, h1, h2⟩ := ho
    rw [ahT] at hk
    obtain ⟨hk1, hk2⟩ := hk
    have ih1 := fO hn t
    have ih2 := (fO hn u false (fuel + 1) listed st E a w h2 hk2 h).2
    simp only [dW, aeD] at hk1
    have all : ∀ n, fuel + 1 = n + 1 → ∀ j ∈ (OT.altw i t u).heads, wpOpIn F 9 X.P ops Q j (fun a' w' => iD X.Tb ops g j w w' ∧ lJ F X.P .any ops Q (iD X.Tb ops g) n (listed.setIfInBounds j true) a' w') a w := by
      intro n hnn j hj
      obtain rfl : fuel = n := by omega
      rcases ah5.1 hj with rfl | hj
      · cases hoi : ops[j]? with
        | none => simp [hoi] at hk1
        | some o =>
          simp only [hoi] at hk1 hw
          simp only [afT, aof] at hw
          exact mo hTb hnt hro hcm hF ops hsel hQ hg0 (.inr ⟨hw.2, hw.1⟩) hoi (fun st' E' a' w' hk' h' => (ih1 true fuel _ st' E' a' w' h1 hk' h').1 rfl) hk1 h
      · exact ih2 fuel rfl j hj
    refine ⟨fun hf => ?_, all⟩
    subst hf
    have hr : Region.ready .any ops listed = i :: u.heads := by simpa using hr
    refine ⟨fun h0 => (by rw [hr] at h0; cases h0), fun j hj => ?_⟩
    rw [hr] at hj
    exact all fuel rfl j hj
  | .nm t, first, fuel, listed, st, E, a, w, ho, hk, h => by
    refine ⟨fun _ => ?_, fun n _ j hj => by cases hj⟩
    simp only [dQ, afT] at ho
    rw [alk] at hk
    exact (fO hn t true fuel listed _ E a w ho.2 hk.out h.norm).1 rfl
  | .lim l t, first, fuel, listed, st, E, a, w, ho, hk, h => by
    refine ⟨fun _ => ?_, fun n _ j hj => by cases hj⟩
    simp only [dQ, afT] at ho
    rw [ajN] at hk
    exact (fO hn t true fuel listed st E a w ho.2 hk h).1 rfl
  | .set A t, first, fuel, listed, st, E, a, w, ho, hk, h => by
    refine ⟨fun _ => ?_, fun n _ j hj => by cases hj⟩
    simp only [dQ, afT, Nat.ble_eq] at ho
    obtain ⟨-, hc, hle, hrest⟩ := ho
    have hc := ahU hc
    rw [aj0] at hk
    have hun : A.l.filter (fun j => !listed.getD j true) = A.l := List.filter_eq_self.2 fun j hj => by rw [(hc.un j hj).2]; rfl
    have := aeP hTb hnt hro hcm hF ops hsel hQ hg0 hc hk.1 (fun ρ E a w hnd hsub hall hM => by
      refine (fO hn t true (fuel - A.l.length) _ _ E a w hrest ?_ hM).1 rfl
      have := acI hk.2 hnd hsub
      unfold aeb at this
      rw [alM.2 fun q hq => (eu _ _).2 (hall q hq)] at this
      exact this) A.l.length listed [] E a w ⟨hc.size, fun _ _ => rfl, hc.closed, asS, (fun q hq => by cases hq), (fun q hq hl => by rw [(hc.un q (hc.own q hq)).2] at hl; cases hl), (fun j hj hl => by rw [(hc.un j hj).2] at hl; cases hl)⟩ (by rw [hun]) (h.weak (fun t => by
        unfold St.get
        rcases aao (all := ops.toList) (g := mP A st.no [] listed) (fr := st.fr) (t := t) (l := A.l) fun j hj => by unfold mP; rw [(hc.un j hj).2]; rfl with e | e
        · left; simp only [setSt]; rw [e]
        · right; simp only [setSt]; rw [e]) rfl rfl rfl)
    rw [Nat.add_sub_cancel' hle] at this
    exact this
  | .rd i l t, first, 0, listed, st, E, a, w, ho, hk, h => by simp [dQ] at ho
  | .rd i l rest, first, fuel + 1, listed, st, E, a, w, ho, hk, h => by
    refine ⟨fun _ => ?_, fun n _ j hj => by cases hj⟩
    simp only [dQ, afT] at ho
    obtain ⟨-, ho, hrest⟩ := ho
    simp only [alz] at hk
    rw [dW] at hk
    simp only [aeD] at hk
    have ih := fun st' E' a' w' hk' h' => (fO hn rest true fuel (listed.setIfInBounds i true) st' E' a' w' hrest hk' h').1 rfl
    cases hoi : ops[i]? with
    | none => simp [hoi] at ho
    | some o =>
      simp only [hoi] at ho hk
      simp only [afT, asJ, decide_eq_true_eq] at ho
      obtain ⟨hld, hrdy, hcl⟩ := ho
      obtain ⟨hc1, hc2⟩ := yc hoi hcl
      obtain ⟨hgn, v, hv, hnx⟩ := afV (next := fun a' w' => lJ F X.P .any ops Q (iD X.Tb ops g) fuel (listed.setIfInBounds i true) a' w') h hTb hnt hk (fun st' E' a' w' hk' h' => ih st' E' a' w' hk' h')
      have hrh : eY o.op = true := by
        unfold isLoad at hld
        split at hld
        · rename_i ho; rw [ho]; rfl
        · cases hld
      refine acQ (ok := fun j => g j || (agU ops j && decide (j ∈ l))) (R := ku (pI X.Tb (picks ops.toList l)) w) hF iD.refl (fun j w1 w2 h1 hr hj => h1.trans ?_) hoi hsel hQ fuel listed a w hc1 (fun j oj hj hji hun hno => ?_) hrdy (.inl ⟨by simp [Region.wanted, hgn], (hsel i o hoi).2, hv⟩) (ku.refl _ w) hnx
      · rcases Bool.or_eq_true_iff.1 hj with hj | hj
        · exact (hr.1 hj).toT
        · simp only [afT, decide_eq_true_eq] at hj
          obtain ⟨h1, h2⟩ := hj
          unfold agU at h1
          split at h1
          · rename_i oj hoj
            exact (hr.2 oj hoj h1).sub fun T hT => aiz hT (aeH (by rw [dW, aeD]; exact hoj) h2)
          · cases h1
      · have := hc2 j oj hj hji hun hno
        rw [hrh] at this
        exact ⟨this.1, by simpa using this.2⟩
  | .one i rest, first, fuel + 1, listed, st, E, a, w, ho, hk, h => by
    refine ⟨fun _ => ?_, fun n _ j hj => by cases hj⟩
    simp only [dQ, afT] at ho
    obtain ⟨-, ho, hrest⟩ := ho
    simp only [adh, ae9, wu, dW, aeD] at hk
    have ih := fun st' E' a' w' hk' h' => (fO hn rest true fuel (listed.setIfInBounds i true) st' E' a' w' hrest hk' h').1 rfl
    cases hoi : ops[i]? with
    | none => simp [hoi] at ho
    | some o =>
      simp only [hoi] at ho hk
      cases hfl : mV o.op with
      | true =>
        simp only [hfl, afT, asJ, decide_eq_true_eq] at ho
        obtain ⟨R, hRw, hRr, hRs⟩ : ∃ R : World → Prop, R w ∧ (∀ w1, R w1 → eY o.op = true → Grow w w1) ∧ ∀ (j : Nat) (w1 w2 : World), R w1 → iD X.Tb ops g j w1 w2 → (g j || !eY o.op) = true → R w2 := by
          cases hrh : eY o.op with
          | true => exact ⟨Grow w, Grow.refl w, fun _ h _ => h, fun b w1 w2 h hb hbb => h.trans (hb.1 (by simpa using hbb))⟩
          | false => exact ⟨fun _ => True, trivial, fun _ _ h => (by cases h), fun _ _ _ _ _ _ => trivial⟩
        obtain ⟨hc1, hc2⟩ := yc hoi ho.2
        have go : ∀ v, jF X.P ops R o v a → lJ F X.P .any ops Q (iD X.Tb ops g) fuel (listed.setIfInBounds i true) (a.put o.dst v) w → lJ F X.P .any ops Q (iD X.Tb ops g) (fuel + 1) listed a w := fun v hy H =>
          acQ (ok := fun j => g j || !eY o.op) hF iD.refl hRs hoi hsel hQ fuel listed a w hc1 hc2 ho.1 hy hRw H
        rcases vB h hk with ⟨h1, st1, h2, h3⟩ | ⟨h1, hdo, st1, h2, h3⟩
        · unfold step step0 at h3
          rw [hfl] at h3
          cases hd : bN X.nt o.dst with
          | false => simp [hd] at h3
          | true =>
            simp only [hd] at h3
            obtain ⟨v, hv, hnx⟩ := zq (R := R) (next := fun a' w' => lJ F X.P .any ops Q (iD X.Tb ops g) fuel (listed.setIfInBounds i true) a' w') h2 hTb hnt hcm.m hRr hd h3 (fun st' E' a' w' hk' h' => ih st' E' a' w' hk' h')
            exact go v (.inl ⟨h1, (hsel i o hoi).2, hv⟩) hnx
        · exact go undef (.inr ⟨h1, rfl⟩) (aD (next := fun a' w' => lJ F X.P .any ops Q (iD X.Tb ops g) fuel (listed.setIfInBounds i true) a' w') h2 hnt hdo h3 (.val true undef) fun st' E' a' w' hk' h' => ih st' E' a' w' hk' h')
      | false =>
        simp only [hfl, beq_iff_eq] at ho
        refine ⟨fun h0 => (by rw [ho] at h0; cases h0), fun j hj => ?_⟩
        rw [ho] at hj
        obtain rfl : j = i := by simpa using hj
        exact mo hTb hnt hro hcm hF ops hsel hQ hg0 (.inl rfl) hoi ih hk h
end
theorem ay.drew {C:Ctx} {E:Env} {st:St} {a:Act} {w:World} (h:ay C E st a w):ay C E st a { w with drawn:=w.drawn+1 }:=
 ⟨h.size,h.slot,⟨fun i o ho=>(h.heap.ob i o ho).world fun _ _=>rfl,h.heap.sep,h.heap.own,h.heap.mem,h.heap.mem0,h.heap.memnew,h.heap.new,h.heap.base,⟨h.heap.fr.os,h.heap.fr.tape,h.heap.fr.output,h.heap.fr.bsz,h.heap.fr.wsz,h.heap.fr.wos,h.heap.fr.isz,h.heap.fr.block,h.heap.fr.sync⟩,h.heap.hd0,h.heap.mno,h.heap.mkh,h.heap.kk⟩,h.marks⟩
def adF (Q:Exit→Act→World→Prop):Exit→Act→World→Prop
 | .panic _,_,_=>False
 | e,a,w=>Q e a w
theorem ahK {Q:Exit→Act→World→Prop} (e:Exit) (a:Act) (w:World) (h:adF Q e a w):Q e a w:=by
 cases e<;>first | exact h | exact h.elim
theorem aa2 {C:Ctx} {X:bq} (hm:X.P.follows .mixedOrders=true) (hTb:X.Tb.Ok X.P) (hnt:C.nt=X.nt) (hro:C.ro=X.ro) {F:Fence} (hcm:CX C X F) (hF:gJ F) {id:Nat} {ops:Array Oper} {ord:OT} (ho:aj2 ops ord=true)
  {K:St→Prop} {Q:Exit→Act→World→Prop} (hn:∀st' E' a' w',K st'→ay C E' st' a' w'→Q .normal a' w') {st:St} {E:Env} {a:Act} {w:World} (hk:gG X ops.toList ord st K) (h:ay C E st a w) :
  (Code.region id ops true).wpIn F 9 X.P Q a w:=by
 simp only[aj2,afT] at ho
 obtain ⟨h1,h3⟩:=ho
 refine wpIn_mono (Q:=adF Q) (wpIn_region_any hm (ahw (g:=iD X.Tb ops (wQ ops ord.yO)) _ _ _ _ ?_)) ahK
 refine (fO (Q:=adF Q) hTb hnt hro hcm hF ops (fun j o hj=>?_) (fun c a w h=>h) (g:=wQ ops ord.yO) (fun i hi=>by simp only[wQ,afT] at hi;exact hi.1) (fun st' E' a' w' hk' h'=>hn st' E' a' w' hk' h') ord true _ _ st E a _ h3 hk h.drew).1 rfl
 have:=atj.1 h1 o (asV hj)
 refine ⟨fun cs b e=>by simp[e] at this,fun c e=>by simp[e] at this⟩
theorem ahk {C:Ctx} {X:bq} (hTb:X.Tb.Ok X.P) (hnt:C.nt=X.nt) (hro:C.ro=X.ro) {F:Fence} (hcm:CX C X F) (hF:gJ F) {id:Nat} {ops:Array Oper}
  {K:St→Prop} {Q:Exit→Act→World→Prop} (hn:∀st' E' a' w',K st'→ay C E' st' a' w'→Q .normal a' w') {st:St} {E:Env} {a:Act} {w:World} (hk:aco X ops.toList ops.toList st K) (h:ay C E st a w) :
  (Code.region id ops false).wpIn F 9 X.P Q a w:=
 wpIn_region_list (aa4 hTb hnt hro hcm hF ops hn ops.toList st E a w hk h)
inductive gT:PV→PV→Prop
 | refl (d:PV):gT d d
 | nil (f:Nat→List PV):gT (.val (.slice none 0 0)) (.seq 0 f)
 | seq (n:Nat) (f g:Nat→List PV) (hl:∀j,j<n→(f j).length=(g j).length)
   (he:∀(j k:Nat) (s s':PV),j<n→(f j)[k]?=some s→(g j)[k]?=some s'→gT s s'):gT (.seq n f) (.seq n g)
 | pt (l l':List PV) (o:Nat) (hl:l.length=l'.length) (he:∀(k:Nat) (s s':PV),l[k]?=some s→l'[k]?=some s'→gT s s'):gT (.pt l o) (.pt l' o)
 | agg (l l':List PV) (hl:l.length=l'.length) (he:∀(k:Nat) (s s':PV),l[k]?=some s→l'[k]?=some s'→gT s s'):gT (.agg l) (.agg l')
 | tup (l l':List PV) (hl:l.length=l'.length) (he:∀(k:Nat) (s s':PV),l[k]?=some s→l'[k]?=some s'→gT s s'):gT (.tup l) (.tup l')
theorem kr {α:Type} {l m:List α} (h:l.length=m.length) {k:Nat} {s:α} (hs:m[k]?=some s):∃t,l[k]?=some t:=
 ⟨_,abb (by rw[h];exact (abd.1 hs).1)⟩
theorem qU {μ:Nat→Option (Array Value)} {d d':PV} (h:gT d d'):∀{v:Value},aL μ v d→aL μ v d':=by
 induction h with
 | refl d=>exact fun h=>h
 | nil f=>intro v h;cases h;exact .nil f
 | seq n f g hl he ih=>
  intro v h
  cases h with
  | nil=>exact .nil g
  | emp a cap=>exact .emp a cap g
  | seq b o n cap sz f cs u hm hcap hmax hl' hc he'=>
   refine .seq b o n cap sz g cs u hm hcap hmax (fun j hj=>(hl j hj).symm.trans (hl' j hj)) (fun j k s hj hs=>?_) (fun j k s hj hs=>?_)
   ·obtain ⟨t,ht⟩:=kr (hl j hj) hs
    exact hc j k t hj ht
   ·obtain ⟨t,ht⟩:=kr (hl j hj) hs
    exact ih j k t s hj ht hs (he' j k t hj ht)
 | pt l l' o hl he ih=>
  intro v h
  cases h with
  | pt b o off l cs u hm hc he'=>
   refine .pt b o _ l' cs u hm (fun k s hs=>?_) (fun k s hs=>?_)
   ·obtain ⟨t,ht⟩:=kr hl hs
    exact hc k t ht
   ·obtain ⟨t,ht⟩:=kr hl hs
    exact ih k t s ht hs (he' k t ht)
 | agg l l' hl he ih=>
  intro v h
  cases h with
  | agg vs l hl' h1 he'=>
   refine .agg vs l' (hl'.trans hl) h1 (fun k u s hu hs=>?_)
   obtain ⟨t,ht⟩:=kr hl hs
   exact ih k t s ht hs (he' k u t hu ht)
 | tup l l' hl he ih=>
  intro v h
  cases h with
  | tup vs l hl' he'=>
   refine .tup vs l' (hl'.trans hl) (fun k u s hu hs=>?_)
   obtain ⟨t,ht⟩:=kr hl hs
   exact ih k t s ht hs (he' k u t hu ht)
def dw (l m:List PV):Prop:=l.length=m.length∧∀(k:Nat) (s s':PV),l[k]?=some s→m[k]?=some s'→gT s s'
theorem dw.rfl' (l:List PV):dw l l:=⟨rfl,fun k s s' h h'=>by rw[h] at h';cases h';exact .refl _⟩
theorem dw.of {l m:List PV} (h:l=m):dw l m:=h▸dw.rfl' l
def y8:List Oper→List Nat
 | []=>[]
 | o :: l=>match o.dst with
  | some d=>d :: y8 l
  | none=>y8 l
def oF:Code→List Nat
 | .region _ ops _=>y8 ops.toList
 | .seq a b=>oF a++oF b
 | .cond _ a b=>oF a++oF b
 | .block _ c=>oF c
 | .loop c=>oF c
 | _=>[]
def dropKeys (W:List Nat):List (Nat×SV)→List (Nat×SV)
 | []=>[]
 | (t,s) :: l=>match gI t W with
  | true=>dropKeys W l
  | false=>(t,s) :: dropKeys W l
def fG:Nat→List LV→List SV
 | _,[]=>[]
 | no,.s s :: l=>s :: fG no l
 | no,.ob _ :: l=>.any :: fG no l
 | no,.rw _ _ _ _ :: l=>.row no :: fG (no+1) l
 | no,.rws _ _ _ _ :: l=>.row no :: fG (no+1) l
 | no,.ps d :: l=>.p false d :: fG no l
end Go.Sx
