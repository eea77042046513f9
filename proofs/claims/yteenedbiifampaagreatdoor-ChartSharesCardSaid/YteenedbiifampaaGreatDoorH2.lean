/- ChartShares, part 2 of its proof: declarations that the last part uses. -/
import Derived.Test.YteenedbiifampaaGreatDoorH1
set_option maxHeartbeats 1000000
set_option maxRecDepth 4000
set_option linter.unusedSimpArgs false
set_option linter.unusedVariables false
set_option linter.unusedSectionVars false
namespace Go.Sx
open Go
def Src (E:Env) (w:World) (v:Value) (sz m:Nat) (g:Nat→List PV):Prop:=
 (v=.slice none 0 0∧m=0)∨∃(a:Addr) (c:Nat) (news:List Value) (u:Nat→Nat→Value),v=.slice (some a) m c∧news.length=m*sz∧(∀(j:Nat) (x:Value),news[j]?=some x→w.cell? (a.add j)=some x) ∧
  (∀x∈news,x.oneCell'=true)∧(∀j k s,j<m→(g j)[k]?=some s→news[j*sz+k]?=some (u j k)∧(u j k).oneCell'=true)∧(∀j k s,j<m→(g j)[k]?=some s→aO E.mem (u j k) s)
theorem jL {E:Env} {w:World} {i:Nat} {T:TypeId} {sz n:Nat} {f:Nat→List PV} (h:cZ E w i (.row T sz n f)) :
  ∃(v:Value) (xs:List Value) (u:Nat→Nat→Value),E.hd i=some v∧w.ownsRow 0 T sz v n xs∧n≤maxLen∧(∀j,j<n→(f j).length=sz) ∧
   (∀j k s,j<n→(f j)[k]?=some s→xs[j*sz+k]?=some (u j k)∧(u j k).oneCell'=true)∧(∀j k s,j<n→(f j)[k]?=some s→aO E.mem (u j k) s):=by
 cases h with | row _ _ _ _ v xs u hh hw hmax hl hc he=>exact ⟨v,xs,u,hh,hw,hmax,hl,hc,he⟩
theorem lu {j k n sz:Nat} (hj:j<n) (hk:k<sz):j*sz+k<n*sz:=by
 have:=alS sz (show j+1≤n from hj)
 rw[asI] at this;omega
theorem wW {x n sz : Nat} (h : x < n * sz) : x / sz < n ∧ x % sz < sz ∧ x / sz * sz + x % sz = x := by
  have hs : 0 < sz := by rcases aq0 sz with rfl | h1; · simp at h
                         · exact h1
  exact ⟨(Nat.div_lt_iff_lt_mul hs).2 h, Nat.mod_lt _ hs, by rw [Nat.mul_comm]; exact Nat.div_add_mod x sz⟩
theorem adb {C:Ctx} {E:Env} {st:St} {w:World} (h:bq C E st w) {e sz:Nat} {x:SV} {m:Nat} {g:Nat→List PV} {j:Option Nat} (hs:akM st e sz x=some (m,g,j)) {v:Value} (hv:aM E v x)
  (hg:∀k,k<m→(g k).length=sz):Src E w v sz m g:=by
 unfold akM at hs
 split at hs
 ·rename_i j0
  split at hs
  ·rename_i e' sz' m' g' hob
   split at hs
   ·rename_i hb
    cases hs
    simp only[agw] at hb
    obtain rfl:=agf hb.1
    obtain rfl:=agf hb.2
    obtain ⟨v0,xs,u,hh,hw,hmax,hl,hc,he⟩:=jL (h.ob _ _ hob)
    cases hv with
    | row _ _ hh2 hsl=>
     rw[hh] at hh2;cases hh2
     rcases hw.2 with ⟨rfl,h0⟩ | ⟨gg,cap,cur,rfl,_,hgg,hnc,hcm,hcs,htake⟩
     ·exact .inl ⟨rfl,h0⟩
     ·refine .inr ⟨⟨gg,0,none⟩,cap,xs,u,rfl,hw.1,hw.cells (g:=gg) rfl,fun x hx=>?_,hc,he⟩
      obtain ⟨q,hq,rfl⟩:=arp hx
      rw[hw.1] at hq
      obtain ⟨d1,d2,d3⟩:=wW hq
      have hlen:=hl _ d1
      obtain ⟨c1,c2⟩:=hc _ _ _ d1 (abn (by rw[hlen];exact d2))
      rw[d3,abn (by rw[hw.1];exact hq)] at c1
      have c3:=Option.some.inj c1
      rw[c3];exact c2
   ·cases hs
  ·cases hs
 ·rename_i b _ _
  cases hs
  cases hv with
  | p _ _ _ hp=>
   cases hp with
   | nil=>exact .inl ⟨rfl,rfl⟩
   | emp a c=>exact .inr ⟨a,c,[],fun _ _=>undef,rfl,by simp,by simp,by simp,by intro j k s hj;omega,by intro j k s hj;omega⟩
   | seq b' o _ cap sz' _ cs u hm hcap hmax hl hc he=>
    have hsz:∀j,j<m→sz'=sz:=fun j hj=>by rw[←hl j hj,hg j hj]
    obtain ⟨T,fr,hw⟩:=h.mem _ _ (E.eO _ _ _ hm)
    have hcell:∀x,x<m*sz→∃s:PV,(g (x / sz))[x % sz]?=some s∧cs[o+x]?=some (u (x / sz) (x % sz))∧(u (x / sz) (x % sz)).oneCell'=true:=by
     intro x hx
     obtain ⟨d1,d2,d3⟩:=wW hx
     have:=hsz _ d1;subst this
     have e1:(g (x / sz'))[x % sz']?=some ((g (x / sz'))[x % sz']'(by rw[hl _ d1];exact d2)):=abn _
     obtain ⟨c1,c2⟩:=hc _ _ _ d1 e1
     rw[d3] at c1
     exact ⟨_,e1,c1,c2⟩
    refine .inr ⟨⟨b',o,none⟩,cap,(List.range (m*sz)).map fun x=>u (x / sz) (x % sz),u,rfl,by simp,fun j x hx=>?_,fun x hx=>?_,fun j k s hj hs=>?_,fun j k s hj hs=>(he j k s hj hs).mono (E.eO _)⟩
    ·simp only[ajs] at hx
     by_cases hj:j<m*sz
     ·rw[aud hj] at hx
      simp only[aoF,Option.some.injEq] at hx
      obtain ⟨s,_,c1,_⟩:=hcell j hj
      rw[Addr.add_lit]
      simp[World.cell?,hw]
      rw[←hx];exact c1
     ·rw[asF (by simpa using hj)] at hx;cases hx
    ·obtain ⟨y,hy,rfl⟩:=asJ.1 hx
     obtain ⟨s,_,_,c2⟩:=hcell y (by simpa using hy)
     exact c2
    ·have hk:k<sz:=by rw[←hg j hj];exact (abA.1 hs).1
     have hlt:=lu hj hk
     have hd1:(j*sz+k) / sz=j:=by rw[Nat.mul_comm,Nat.mul_add_div (by omega),Nat.div_eq_of_lt hk];omega
     have hd2:(j*sz+k) % sz=k:=by rw[Nat.mul_comm,Nat.mul_add_mod,atK hk]
     refine ⟨by simp only[ajs];rw[aud hlt];simp[hd1,hd2],(hc j k s hj hs).2⟩
 ·cases hs
  exact .inl ⟨hv.aN,rfl⟩
 ·cases hs
def oD (e:Nat) (w w':World):Prop:=w.heap.size≤w'.heap.size∧∀b,b<w.heap.size→(∀cs fr,w.heap[b]?≠some (.cells cs e fr))→w'.heap[b]?=w.heap[b]?
def elemOf (Tb:Tab) (t:Nat):Option Nat:=match look Tb t with
 | some ⟨.slice e,_,_,_⟩=>some e
 | _=>none
theorem wV {C:Ctx} {E:Env} {st:St} {a:Act} {w:World} (h:aA C E st a w) {X:bB} (hnt:C.nt=X.nt) {d:Option Nat} (hd:bQ X.nt d=true)
  {e sz:Nat}
  {m:Nat} {g:Nat→List PV} {vs:Value}
  {n:Nat} {f:Nat→List PV} {xs:List Value} {u:Nat→Nat→Value} (hown:w.ownsRow 0 e (sz+1) vs n xs)
  (hl:∀j,j<n→(f j).length=sz+1) (hc:∀j k s,j<n→(f j)[k]?=some s→xs[j*(sz+1)+k]?=some (u j k)∧(u j k).oneCell'=true) (he:∀j k s,j<n→(f j)[k]?=some s→aO E.mem (u j k) s)
  (hgl:∀k,k<m→(g k).length=sz+1) (hmax:n+m≤maxLen)
  {st1:St} (hfr:st1.fr=st.fr) (hno:st1.no=st.no) (hkk:st1.k=st.k) (hold:∀k o,st1.obj k=some o→st.obj k=some o)
  (hgone:∀b,vs.ownBlock=some b→∃j o',C.m≤j∧st.obj j=some o'∧st1.obj j=none∧E.blk j=some b)
  {K:St→Prop} (hk:aS (st1.alloc (.row e (sz+1) (n+m) (bS n f g))) d (.row st1.no) K) {next:Act→World→Prop}
  (hn:∀st' E' a' w',K st'→aA C E' st' a' w'→oD e w w'→next a' w')
  {v':Value} {w':World} {news:List Value} {u':Nat→Nat→Value} (hown':w'.ownsRow 0 e (sz+1) v' (n+m) (xs++news)) (hgrow:w.grownBy w' vs.ownBlock) (hsl:uI v'=true)
  (hblk:∀b,aG v'=some b→w.heap.size≤b∨vs.ownBlock=some b) (hnl:news.length=m*(sz+1)) (hnc:∀j k s,j<m→(g j)[k]?=some s→news[j*(sz+1)+k]?=some (u' j k)∧(u' j k).oneCell'=true) (hne:∀j k s,j<m→(g j)[k]?=some s→aO E.mem (u' j k) s) :
  next (a.put d v') w':=by
 have hle:=Env.uz (v:=v') (h.heap.new st.no (aha _))
 have get:∀k,(st1.alloc (.row e (sz+1) (n+m) (bS n f g))).obj k=if st1.no=k then some (.row e (sz+1) (n+m) (bS n f g)) else st1.obj k:=fun k=>kX st1.fr st1.ob st1.no _ _ _ _
 have hnone:∀j o,st.obj j=some o→j≠st.no:=fun j o ho e=>by have:=h.heap.lt ho;omega
 have hkeep:∀k,k<w.heap.size→w'.heap[k]?=w.heap[k]?∨(∃j o',C.m≤j∧st.obj j=some o'∧(st1.alloc (.row e (sz+1) (n+m) (bS n f g))).obj j=none∧E.blk j=some k):=by
  intro k hk
  by_cases hv:vs.ownBlock=some k
  ·obtain ⟨j,o',h0,h1,h2,h3⟩:=hgone k hv
   refine .inr ⟨j,o',h0,h1,?_,h3⟩
   rw[get,hno,if_neg (fun e=>hnone j o' h1 e.symm)];exact h2
  ·exact .inl (hgrow.block k hk (fun e=>hv e.symm))
 have hh:bq C (E.add st.no v') (st1.alloc (.row e (sz+1) (n+m) (bS n f g))) w':=by
  refine h.heap.step (o:=.row e (sz+1) (n+m) (bS n f g)) (aha _) (by rw[←hno];simp[St.alloc]) hkk (by rw[get,hno,if_pos rfl]) (fun k o' hk ho=>?_) ?_ hgrow.os hgrow.tape hgrow.output hgrow.size hkeep (fun b hb=>?_)
  ·rw[get,hno,if_neg (fun e=>hk e.symm)] at ho
   exact hold k o' ho
  ·refine .row e (sz+1) (n+m) _ v' (xs++news) (fun j k=>if j<n then u j k else u' (j-n) k) (E.lH _ _) hown' hmax (fun j hj=>?_) (fun j k s hj hs=>?_) (fun j k s hj hs=>?_)
   ·by_cases hjn:j<n
    ·rw[qP f g hjn];exact hl j hjn
    ·rw[qw f g (by omega)];exact hgl _ (by omega)
   ·by_cases hjn:j<n
    ·rw[qP f g hjn] at hs
     rw[if_pos hjn]
     have hk1:k<sz+1:=by rw[←hl j hjn];exact (abA.1 hs).1
     rw[afk (by rw[hown.1];exact lu hjn hk1)]
     exact hc j k s hjn hs
    ·rw[qw f g (by omega)] at hs
     rw[if_neg hjn]
     have:=hnc (j-n) k s (by omega) hs
     refine ⟨?_,this.2⟩
     have hmul:n*(sz+1)+(j-n)*(sz+1)=j*(sz+1):=by rw[←asM];congr 1;omega
     rw[agH (by rw[hown.1];omega),hown.1,show j*(sz+1)+k-n*(sz+1)=(j-n)*(sz+1)+k by omega]
     exact this.1
   ·by_cases hjn:j<n
    ·rw[qP f g hjn] at hs
     simp only[if_pos hjn]
     exact (he j k s hjn hs).mono hle.mem
    ·rw[qw f g (by omega)] at hs
     simp only[if_neg hjn]
     exact (hne (j-n) k s (by omega) hs).mono hle.mem
  ·rcases hblk b hb with h1 | h1
   ·exact .inl h1
   ·obtain ⟨j,o',h0,h2,h3,h4⟩:=hgone b h1
    refine .inr ⟨j,o',h0,h2,?_,h4⟩
    rw[get,hno,if_neg (fun e=>hnone j o' h2 e.symm)];exact h3
 have hnc:iC w w':=by
  intro D o ho hc
  have hD:=(abB.1 ho).1
  rw[hgrow.block D hD (fun e=>?_)];exact ho
  rcases hown.2 with ⟨rfl,_⟩ | ⟨g,cap,cur,rfl,_,hg,_⟩
  ·simp[Value.ownBlock] at e
  ·simp[Value.ownBlock] at e;subst e;rw[hg] at ho;cases ho;cases hc
 have hge:oD e w w':=by
  refine ⟨hgrow.size,fun b hb hne=>hgrow.block b hb fun eb=>?_⟩
  rcases hown.2 with ⟨rfl,_⟩ | ⟨g,cap,cur,rfl,_,hg,_⟩
  ·simp[Value.ownBlock] at eb
  ·simp[Value.ownBlock] at eb;subst eb;exact hne _ _ hg
 exact dM (next:=fun a2 w2=>next a2 w2) (h.fQ (st':=st1.alloc _) hle (by simp[St.alloc,hfr]) hh ⟨rfl,rfl⟩ hnc) hnt hd hk (.row _ _ (by rw[hno];exact E.lH _ _) hsl) fun st2 E2 a2 w2 hk2 h2 hw2=>hn st2 E2 a2 w2 hk2 h2 (hw2▸hge)
theorem acv {C:Ctx} {E:Env} {st:St} {a:Act} {w:World} (h:aA C E st a w) {X:bB} (hTb:X.Tb.Ok X.P) (hnt:C.nt=X.nt) {d:Option Nat} (hd:bQ X.nt d=true)
  {t e sz:Nat} {d1:Nat} {b1:Nat} {z1:List Value} {d2:TD} {by_:Nat} {z2:List Value} (ht:look X.Tb t=some ⟨.slice e,d1,b1,z1⟩) (hie:look X.Tb e=some ⟨d2,sz+1,by_,z2⟩)
  {m:Nat} {g:Nat→List PV} {vs vx:Value} (hsrc:Src E w vx (sz+1) m g)
  {n:Nat} {f:Nat→List PV} {xs:List Value} {u:Nat→Nat→Value} (hown:w.ownsRow 0 e (sz+1) vs n xs)
  (hl:∀j,j<n→(f j).length=sz+1) (hc:∀j k s,j<n→(f j)[k]?=some s→xs[j*(sz+1)+k]?=some (u j k)∧(u j k).oneCell'=true) (he:∀j k s,j<n→(f j)[k]?=some s→aO E.mem (u j k) s)
  (hgl:∀k,k<m→(g k).length=sz+1) (hmax:n+m≤maxLen) (hby:(n+m)*by_≤140737488355328)
  {st1:St} (hfr:st1.fr=st.fr) (hno:st1.no=st.no) (hkk:st1.k=st.k) (hold:∀k o,st1.obj k=some o→st.obj k=some o)
  (hgone:∀b,vs.ownBlock=some b→∃j o',C.m≤j∧st.obj j=some o'∧st1.obj j=none∧E.blk j=some b)
  {K:St→Prop} (hk:aS (st1.alloc (.row e (sz+1) (n+m) (bS n f g))) d (.row st1.no) K) {next:Act→World→Prop}
  (hn:∀st' E' a' w',K st'→aA C E' st' a' w'→oD e w w'→next a' w') (ty:Nat) :
  ∃v' w',(Builtin.append_ #[t,t] ty #[vs,vx]).run X.P w=.ok v' w'∧next (a.put d v') w':=by
 have hu:X.P.underlying t=some (.slice e):=(hTb _ _ ht).desc
 obtain ⟨I,zz,hI,hz,hs,hzs,_⟩:=(hTb _ _ hie).lT E
 obtain ⟨I',hI',_,hb',_⟩:=(hTb _ _ hie).info
 rw[hI] at hI';cases hI'
 simp only at hs hzs hb'
 -- the run
 obtain ⟨v',w',news,u',hrun,hown',hgrow,hsl,hblk,hnl,hnc,hne⟩:∃(v':Value) (w':World) (news:List Value) (u':Nat→Nat→Value),(Builtin.append_ #[t,t] ty #[vs,vx]).run X.P w=.ok v' w'∧w'.ownsRow 0 e (sz+1) v' (n+m) (xs++news)∧w.grownBy w' vs.ownBlock∧uI v'=true ∧
   (∀b,aG v'=some b→w.heap.size≤b∨vs.ownBlock=some b)∧news.length=m*(sz+1)∧(∀j k s,j<m→(g j)[k]?=some s→news[j*(sz+1)+k]?=some (u' j k)∧(u' j k).oneCell'=true)∧(∀j k s,j<m→(g j)[k]?=some s→aO E.mem (u' j k) s):=by
  rcases hsrc with ⟨rfl,rfl⟩ | ⟨ad,c,news,u',rfl,hnl,hnews,h1,hnc,hne⟩
  ·have hr:=run_append_owned_none (P:=X.P) w 0 t ty e I (sz+1) hu hI vs n xs hown
   have hsl:uI vs=true:=by rcases hown.2 with ⟨rfl,_⟩ | ⟨g,cap,cur,rfl,_⟩<;>rfl
   exact ⟨vs,w,[],fun _ _=>undef,hr,by simpa using hown,⟨rfl,rfl,rfl,aha _,fun _ _ _=>rfl⟩,hsl,fun b hb=>.inr (by rw[←oI vs hsl];exact hb),by simp,by intro j k s hj;omega,by intro j k s hj;omega⟩
  ·obtain ⟨v',w',h2,h3,h4,h5,h6⟩:=ake (P:=X.P) (w:=w) t ty e I zz (sz+1) by_ hu hI hz hs hb' hzs (by omega) vs n xs hown ad m c news hnl hnews h1 hmax hby
   exact ⟨v',w',news,u',h2,h3,h4,h5,h6,hnl,hnc,hne⟩
 exact ⟨v',w',hrun,wV h hnt hd hown hl hc he hgl hmax hfr hno hkk hold hgone hk hn hown' hgrow hsl hblk hnl hnc hne⟩
theorem wK {P:Program} {w:World} (t u ty e:TypeId) (i:TypeInfo) (ht:P.underlying t=some (.slice e)) (hu:P.underlying u=some .string) (hi:P.info? e=some i) (hz:i.zero=some (.int .u8 0))
  (hsize:i.size=1) (hby:i.bytes=1) (v:Value) (n:Nat) (xs:List Value) (hown:w.ownsRow 0 e 1 v n xs) (s:ByteArray) (h63:n+s.size≤maxLen) (hbytes:n+s.size≤140737488355328) :
  ∃v' w',(Builtin.append_ #[t,u] ty #[v,.string s]).run P w=.ok v' w'∧w'.ownsRow 0 e 1 v' (n+s.size) (xs++Lib.strCells s)∧w.grownBy w' v.ownBlock∧uI v'=true ∧
   (∀b,aG v'=some b→w.heap.size≤b∨v.ownBlock=some b):=by
 obtain ⟨v',w',hr,ho,hg,_⟩:=Lib.run_append_own_string (P:=P) w 0 t u ty e i ht hu hi hz hsize hby v n xs hown s h63 hbytes (afc _)
 have hsl:uI v'=true:=by
  rcases ho.2 with ⟨rfl,_⟩ | ⟨g,cap,cur,rfl,_⟩<;>rfl
 refine ⟨v',w',hr,ho,hg,hsl,?_⟩
 rcases hown.2 with ⟨rfl,rfl⟩ | ⟨g,cap,cur,rfl,_,hgg,hnc,hcm,hcs,htake⟩
 ·obtain ⟨v2,w2,hr2,ho2,_,_⟩:=Lib.run_append_own_string (P:=P) w w.heap.size t u ty e i ht hu hi hz hsize hby (.slice none 0 0) 0 [] (World.ownsRow_nil w w.heap.size e 1) s h63 hbytes (aha _)
  rw[hr2] at hr;cases hr
  intro b hb
  rcases ho2.2 with ⟨rfl,_⟩ | ⟨g,cap,cur,rfl,hge,_⟩
  ·simp[aG] at hb
  ·simp[aG] at hb;subst hb;exact .inl hge
 ·by_cases hroom:n+s.size≤cap
  ·have hr2:=Lib.run_append_room_string (P:=P) w t u ty e i ht hu hi hsize g n cap cur hgg s hroom (by omega)
   rw[hr2] at hr;cases hr
   intro b hb;simp[aG] at hb;right;simp[Value.ownBlock,hb]
  ·have holds:∀j x,xs[j]?=some x→w.cell? ((⟨g,0,none⟩:Addr).add j)=some x:=hown.cells (g:=g) rfl
   have hr2:=Lib.run_append_grow_string (P:=P) w t u ty e i _ ht hu hi hz ⟨g,0,none⟩ n cap xs (by rw[hsize];exact hown.1) holds s (by omega) (by simp only[maxLen] at h63;omega) (growslice_fits (by omega) (by rw[hby];omega))
   rw[hr2] at hr;cases hr
   intro b hb;simp[aG] at hb;left;omega
def Env.fO (E:Env) (b:Nat) (cs:Array Value):Env:={ E with mem:=fun k=>if k=b then some cs else E.mem k }
theorem bq.adl {C:Ctx} {E:Env} {st:St} {w w':World} (h:bq C E st w) {cs:Array Value} {T:TypeId} {fr:Nat×Nat} (hb:w'.heap[w.heap.size]?=some (.cells cs T fr))
  (hos:w'.os=w.os) (htape:w'.tape=w.tape) (hout:w'.output=w.output) (hsz:w.heap.size≤w'.heap.size) (hkeep:∀k,k<w.heap.size→w'.heap[k]?=w.heap[k]?) :
  bq C (E.fO w.heap.size cs) st w'∧E.Le (E.fO w.heap.size cs):=by
 have hle:E.Le (E.fO w.heap.size cs):=⟨fun _ _ x=>x,fun b c hc=>by
  have:=h.lY hc
  simp only[Env.fO]
  rw[if_neg (by omega)];exact hc,rfl⟩
 have blk:∀i,(E.fO w.heap.size cs).blk i=E.blk i:=fun _=>rfl
 have new:∀{b c},(E.fO w.heap.size cs).mem b=some c→(b=w.heap.size∧c=cs)∨E.mem b=some c:=by
  intro b c hc
  simp only[Env.fO] at hc
  by_cases e:b=w.heap.size
  ·rw[if_pos e] at hc;exact .inl ⟨e,(Option.some.inj hc).symm⟩
  ·rw[if_neg e] at hc;exact .inr hc
 refine ⟨⟨fun i o ho=>((h.ob i o ho).mono hle).world fun b hbk=>hkeep b ((h.ob i o ho).gq hbk),h.sep,fun i o b ho hbk=>?_,fun b c hc=>?_,fun b c hc=>hle.mem b c (h.mem0 b c hc),fun b c hc=>?_,h.new,h.base,?_,h.hd0,h.mno,h.mkh,h.kk⟩,hle⟩
 ·obtain ⟨g1,g2⟩:=h.own i o b ho hbk
  refine ⟨?_,g2⟩
  have hlt:=(h.ob i o ho).gq hbk
  simp only[Env.fO]
  rw[if_neg (by omega)];exact g1
 ·rcases new hc with ⟨rfl,rfl⟩ | h1
  ·exact ⟨T,fr,hb⟩
  ·obtain ⟨T',fr',hw⟩:=h.mem b c h1
   exact ⟨T',fr',(hkeep b (h.lY h1)).trans hw⟩
 ·rcases new hc with ⟨rfl,rfl⟩ | h1
  ·exact .inr ⟨aln h.fr.bsz h.fr.wsz,.inl h.fr.wsz⟩
  ·exact h.memnew b c h1
 ·exact ⟨hos.trans h.fr.os,htape.trans h.fr.tape,hout.trans h.fr.output,h.fr.bsz,aln h.fr.wsz hsz,h.fr.wos,h.fr.isz,fun k hk hI=>by rw[hkeep k (aov hk h.fr.wsz)];exact h.fr.block k hk hI,h.fr.sync⟩
theorem ah7 {C:Ctx} {E:Env} {st:St} {a:Act} {w:World} (h:aA C E st a w) {X:bB} (hTb:X.Tb.Ok X.P) (hnt:C.nt=X.nt) {d:Option Nat} (hd:bQ X.nt d=true)
  {t e sz:Nat} {d1:Nat} {b1:Nat} {z1:List Value} {d2:TD} {by_:Nat} {z2:List Value} (ht:look X.Tb t=some ⟨.slice e,d1,b1,z1⟩) (hie:look X.Tb e=some ⟨d2,sz+1,by_,z2⟩)
  {m:Nat} {g:Nat→List PV} {vx:Value} (hsrc:Src E w vx (sz+1) m g)
  {n:Nat} {f:Nat→List PV} {ad:Option Addr} (hold:Src E w (.slice ad n n) (sz+1) n f)
  (hfl:∀k,k<n→(f k).length=sz+1) (hgl:∀k,k<m→(g k).length=sz+1) (hm0:0<m) (hmax:n+m≤maxLen) (hby:(n+m)*by_≤140737488355328)
  {K:St→Prop} (hk:aS st d (.p false (.seq (n+m) (bS n f g))) K) {next:Act→World→Prop}
  (hn:∀st' E' a' w',K st'→aA C E' st' a' w'→oD e w w'→next a' w') (ty:Nat) :
  ∃v' w',(Builtin.append_ #[t,t] ty #[.slice ad n n,vx]).run X.P w=.ok v' w'∧next (a.put d v') w':=by
 have hu:X.P.underlying t=some (.slice e):=(hTb _ _ ht).desc
 obtain ⟨I,zz,hI,hz,hs,hzs,_⟩:=(hTb _ _ hie).lT E
 obtain ⟨I',hI',_,hb',_⟩:=(hTb _ _ hie).info
 rw[hI] at hI';cases hI'
 simp only at hs hzs hb'
 have hmx:n+m≤9223372036854775807:=hmax
 rcases hsrc with ⟨_,h0⟩ | ⟨ax,c,news,u',rfl,hnl,hnews,h1,hnc,hne⟩
 ·omega
 obtain ⟨olds,u,cap,w',hrun,hol,hoc,hoe,hw'⟩:∃(olds:List Value) (u:Nat→Nat→Value) (cap:Nat) (w':World),
   (Builtin.append_ #[t,t] ty #[.slice ad n n,.slice (some ax) m c]).run X.P w=.ok (.slice (some ⟨w.heap.size,0,none⟩) (n+m) cap) w'∧olds.length=n*(sz+1) ∧
   (∀j k s,j<n→(f j)[k]?=some s→olds[j*(sz+1)+k]?=some (u j k)∧(u j k).oneCell'=true)∧(∀j k s,j<n→(f j)[k]?=some s→aO E.mem (u j k) s) ∧
   (n+m≤cap∧∃zs fr,w'=w.drew.alloc (.cells (olds.toArray++news.toArray++zs) e fr)):=by
  rcases hold with ⟨e1,h0⟩ | ⟨ao,c',olds,u,e1,hol,holds,ho1,hoc,hoe⟩
  ·cases e1
   have hr:=run_append_nil (P:=X.P) w t ty e I zz hu hI hz ax m c news (by rw[hs];exact hnl) hnews hm0 (by omega) (by rw[hb'];have:(0+m)*by_≤140737488355328:=hby;rw[aiF] at this;omega)
   have e0:0+m=m:=aiF m
   refine ⟨[],fun _ _=>undef,_,_,(show _=Result.ok (Value.slice (some ⟨w.heap.size,0,none⟩) (0+m) _) _ by rw[e0];exact hr),by simp,by intro j k s hj;omega,by intro j k s hj;omega,?_⟩
   exact ⟨by rw[e0];exact grownCap_ge w m 0 e,Builtin.zeroCells zz.cells (grownCap w m 0 e-m),(0,0),by rw[show ([]:List Value).toArray++news.toArray=news.toArray by simp]⟩
  ·cases e1
   have hcov:olds.length=n*I.size:=by rw[hs];exact hol
   refine ⟨olds,u,_,_,run_append_grow (P:=X.P) w t ty e I zz hu hI hz ao n n olds hcov holds ax m c news (by rw[hs];exact hnl) hnews (by omega) (by omega) (growslice_fits (by omega) (by rw[hb'];exact hby)),hol,hoc,hoe,grownCap_ge w (n+m) n e,_,_,rfl⟩
 obtain ⟨hcap,zs,fr,rfl⟩:=hw'
 refine ⟨_,_,hrun,?_⟩
 generalize hcs:olds.toArray++news.toArray++zs=cs
 have hnew:(w.drew.alloc (.cells cs e fr)).heap[w.heap.size]?=some (.cells cs e fr):=by
  show (w.heap.push _)[w.heap.size]?=_
  simp
 have hkeep:∀k,k<w.heap.size→(w.drew.alloc (.cells cs e fr)).heap[k]?=w.heap[k]?:=fun k hk=>RowKit.Below.heap_alloc w.drew _ k hk
 obtain ⟨hh,hle⟩:=h.heap.adl hnew rfl rfl rfl (by show w.heap.size≤(w.heap.push _).size;simp) hkeep
 have hM:=h.fQ (st':=st) hle rfl hh ⟨rfl,rfl⟩ (iF w.drew _)
 have hget:∀x,x<n*(sz+1)→cs[x]?=olds[x]?:=fun x hx=>by
  rw[←hcs,Array.append_assoc,aoC (by simp[hol];exact hx)];simp
 have hget2:∀x,x<m*(sz+1)→cs[n*(sz+1)+x]?=news[x]?:=fun x hx=>by
  rw[←hcs,aoC (by simp[hol,hnl];omega),atp (by simp[hol])];simp[hol]
 refine dM hM hnt hd hk (.p false _ _ (.seq w.heap.size 0 (n+m) cap (sz+1) _ cs (fun j k=>if j<n then u j k else u' (j-n) k) ?_ hcap hmax (fun j hj=>?_) (fun j k s hj hs=>?_) (fun j k s hj hs=>?_))) fun st2 E2 a2 w2 hk2 h2 hw2=>hn st2 E2 a2 w2 hk2 h2 (hw2▸⟨by show w.heap.size≤(w.heap.push _).size;simp,fun b hb _=>hkeep b hb⟩)
 ·show (E.fO w.heap.size cs).mem w.heap.size=some cs
  simp[Env.fO]
 ·by_cases hjn:j<n
  ·rw[qP f g hjn];exact hfl j hjn
  ·rw[qw f g (by omega)];exact hgl _ (by omega)
 ·rw[aiF]
  by_cases hjn:j<n
  ·rw[qP f g hjn] at hs
   rw[if_pos hjn]
   have hk1:k<sz+1:=by rw[←hfl j hjn];exact (abA.1 hs).1
   rw[hget _ (lu hjn hk1)]
   exact hoc j k s hjn hs
  ·rw[qw f g (by omega)] at hs
   rw[if_neg hjn]
   have:=hnc (j-n) k s (by omega) hs
   have hk1:k<sz+1:=by rw[←hgl (j-n) (by omega)];exact (abA.1 hs).1
   have hmul:n*(sz+1)+(j-n)*(sz+1)=j*(sz+1):=by rw[←asM];congr 1;omega
   rw[show j*(sz+1)+k=n*(sz+1)+((j-n)*(sz+1)+k) by omega,hget2 _ (lu (by omega) hk1)]
   exact this
 ·by_cases hjn:j<n
  ·rw[qP f g hjn] at hs
   simp only[if_pos hjn]
   exact (hoe j k s hjn hs).mono hle.mem
  ·rw[qw f g (by omega)] at hs
   simp only[if_neg hjn]
   exact (hne (j-n) k s (by omega) hs).mono hle.mem
theorem adX {C:Ctx} {E:Env} {st:St} {a:Act} {w:World} (h:aA C E st a w) {X:bB} (hTb:X.Tb.Ok X.P) (hnt:C.nt=X.nt) (hro:C.ro=X.ro) {d:Option Nat} (hd:bQ X.nt d=true)
  {t e sz:Nat} {d1:Nat} {b1:Nat} {z1:List Value} {d2:TD} {by_:Nat} {z2:List Value} (ht:look X.Tb t=some ⟨.slice e,d1,b1,z1⟩) (hie:look X.Tb e=some ⟨d2,sz+1,by_,z2⟩)
  {s x:SV} {vs vx:Value} (hs:aM E vs s) (hx:aM E vx x) {K:St→Prop} (hk:abP X e (sz+1) s x d st K) {next:Act→World→Prop}
  (hn:∀st' E' a' w',K st'→aA C E' st' a' w'→oD e w w'→next a' w') (ty:Nat) :
  ∃v' w',(Builtin.append_ #[t,t] ty #[vs,vx]).run X.P w=.ok v' w'∧next (a.put d v') w':=by
 unfold abP at hk
 split at hk
 ·rename_i i sz' n j sz'' lo m
  split at hk
  ·rename_i e' sz3 N f hble hob
   split at hk
   ·rename_i hbe
    simp only[agw] at hble hbe
    obtain ⟨⟨b1,b2⟩,b3,b4⟩:=hble
    obtain rfl:=agf b1
    obtain rfl:=agf b3
    obtain rfl:=agf b4
    obtain rfl:=agf hbe.1
    obtain rfl:=agf hbe.2
    have hri:C.ro≤i:=by rw[hro];exact aiT b2
    obtain ⟨⟨k1,k2,k3⟩,hk⟩:=hk
    have hu:X.P.underlying t=some (.slice e'):=(hTb _ _ ht).desc
    obtain ⟨I,hI,hIs,_⟩:=(hTb _ _ hie).info
    simp only at hIs
    cases hs with
    | sub _ _ _ _ b n' cap c ad hh hle hc hr ha=>
    cases hx with
    | sub _ _ _ _ b2 n2 cap2 c2 ad2 hh2 hle2 hc2 hr2 ha2=>
    rw[hh] at hh2
    obtain ⟨⟨rfl,_⟩,rfl,rfl⟩:(b=b2∧True)∧n'=n2∧cap=cap2:=by
     have:=Option.some.inj hh2
     simp only[Value.slice.injEq,Option.some.injEq,Addr.mk.injEq] at this
     exact ⟨⟨this.1.1,trivial⟩,this.2.1,this.2.2⟩
    obtain ⟨rfl,cur,u,hR⟩:=(h.heap.ob i _ hob).jQ hh
    obtain rfl:=ha (by omega)
    have hcn:=hR.hn
    have hcs:=hR.size
    have hNs:n'*(sz+1)≤cur.size:=by rw[hcs];exact alS _ hcn
    have hlm:(lo+m)*(sz+1)≤n'*(sz+1):=alS _ k2
    have hnm:(n+m)*(sz+1)≤n'*(sz+1):=alS _ k1
    rw[asM] at hlm hnm
    obtain ⟨news,hnews⟩:∃news,news=(cur.toList.drop (lo*(sz+1))).take (m*(sz+1)):=⟨_,rfl⟩
    have hnl:news.length=m*(sz+1):=by
     rw[hnews,ajz,arP,al7];omega
    have hng:∀q,q<m*(sz+1)→news[q]?=cur[lo*(sz+1)+q]?:=fun q hq=>by
     rw[hnews,alD,if_pos hq,aqX,aeX]
    have hone:∀q,q<n'*(sz+1)→∃v,cur[q]?=some v∧v.oneCell'=true:=fun q hq=>by
     obtain ⟨q1,q2,q3⟩:=wW hq
     have hl:=hR.hl _ q1
     obtain ⟨s,hs⟩:∃s,(f (q / (sz+1)))[q % (sz+1)]?=some s:=⟨_,abn (by omega)⟩
     have:=hR.hc _ _ s q1 hs
     rw[q3] at this
     exact ⟨_,this.1,this.2⟩
    have hrun:=run_append_room (P:=X.P) w t ty e' I hu hI b n c cur hR.heap ad2 m c2 news (by rw[hIs];exact hnl)
     (fun q v hq=>by
      have hql:q<m*(sz+1):=by rw[←hnl];exact (abA.1 hq).1
      have hm0:0<m:=aut fun e=>by rw[e,Nat.zero_mul] at hql;omega
      obtain rfl:=ha2 (by omega)
      rw[hng q hql] at hq
      simp only[World.cell?,Addr.add_lit,hR.heap]
      exact hq)
     (fun v hv=>by
      obtain ⟨q,hq⟩:=asD hv
      have hql:q<m*(sz+1):=by rw[←hnl];exact (abA.1 hq).1
      rw[hng q hql] at hq
      obtain ⟨v',h1,h2⟩:=hone (lo*(sz+1)+q) (by omega)
      rw[h1] at hq;cases hq;exact h2)
     (by omega) (by rw[hIs,hnl];omega)
    rw[hIs] at hrun
    generalize hcs':(cur.toList.take (n*(sz+1))++news++cur.toList.drop (n*(sz+1)+news.length)).toArray=vs' at hrun
    have hvs':vs'.size=cur.size:=by
     rw[←hcs'];simp only[atG,aaf,ajz,arP,hnl,al7];omega
    have hat:∀q,vs'[q]?=if n*(sz+1)≤q∧q<n*(sz+1)+m*(sz+1) then cur[lo*(sz+1)+(q-n*(sz+1))]? else cur[q]?:=by
     intro q
     have hl1:(cur.toList.take (n*(sz+1))).length=n*(sz+1):=by rw[ajz,al7];omega
     rw[←hcs']
     simp only[aty]
     by_cases hin:n*(sz+1)≤q∧q<n*(sz+1)+m*(sz+1)
     ·rw[if_pos hin,afk (by rw[aaf,hl1,hnl];omega),agH (by omega),hl1,hng _ (by omega)]
     ·rw[if_neg hin]
      by_cases hlt:q<n*(sz+1)
      ·rw[afk (by rw[aaf,hl1];omega),afk (by omega),alD,if_pos hlt,aeX]
      ·rw[agH (by rw[aaf,hl1,hnl];omega),aaf,hl1,hnl,aqX,show n*(sz+1)+m*(sz+1)+(q-(n*(sz+1)+m*(sz+1)))=q by omega,aeX]
    have flen:∀j,j<n'→(ovl n lo m f j).length=sz+1:=by
     intro j hj
     unfold ovl
     split
     ·exact hR.hl _ (by omega)
     ·exact hR.hl _ hj
    have cellOf:∀j k s,j<n'→(ovl n lo m f j)[k]?=some s→∃v,vs'[j*(sz+1)+k]?=some v∧v.oneCell'=true∧aO E.mem v s:=by
     intro j k s hj hs
     have hks:k<sz+1:=by rw[←flen j hj];exact (abA.1 hs).1
     unfold ovl at hs
     rw[hat]
     by_cases hin:n≤j∧j<n+m
     ·rw[if_pos hin] at hs
      obtain ⟨q,rfl⟩:∃q,j=n+q:=⟨j-n,by omega⟩
      have hq:=lu (show q<m by omega) hks
      have e3:(n+q)*(sz+1)+k=n*(sz+1)+(q*(sz+1)+k):=by rw[asM];omega
      rw[e3,if_pos (by omega),atq]
      rw[atq] at hs
      have g1:=hR.hc (lo+q) k s (by omega) hs
      have g2:=hR.he (lo+q) k s (by omega) hs
      rw[asM,atI] at g1
      exact ⟨_,g1.1,g1.2,g2⟩
     ·rw[if_neg hin] at hs
      have hout:¬(n*(sz+1)≤j*(sz+1)+k∧j*(sz+1)+k<n*(sz+1)+m*(sz+1)):=by
       rintro ⟨h1,h2⟩
       apply hin
       rw[←asM] at h2
       constructor
       ·exact Classical.byContradiction fun hh=>by
         have:=lu (Nat.lt_of_not_le hh) hks;omega
       ·exact Classical.byContradiction fun hh=>by
         have:=alS (sz+1) (Nat.le_of_not_lt hh);omega
      rw[if_neg hout]
      obtain ⟨h1,h2⟩:=hR.hc j k s hj hs
      exact ⟨_,h1,h2,hR.he j k s hj hs⟩
    have hh3:=h.heap.write (o':=.row e' (sz+1) n' (ovl n lo m f)) hob (b:=b) (by simp[Env.blk,hh,aG]) hri (w':=w.setRow b vs')
     (.row e' (sz+1) n' _ _ (vs'.toList.take (n'*(sz+1))) (fun j k=>vs'.getD (j*(sz+1)+k) undef) hh
      ⟨by rw[ajz,al7,hvs'];omega,.inr ⟨b,cap,vs',rfl,afc _,setRow_heap w b cur vs' e' (0,0) hR.heap,hR.hn,hR.hcap,by rw[hvs'];exact hR.size,rfl⟩⟩ hR.hmax
      flen
      (fun j k s hj hs=>by
       obtain ⟨v,h1,h2,h3⟩:=cellOf j k s hj hs
       have hks:k<sz+1:=by rw[←flen j hj];exact (abA.1 hs).1
       rw[alD,if_pos (lu hj hks),aeX,aeC,h1]
       exact ⟨rfl,h2⟩)
      (fun j k s hj hs=>by
       obtain ⟨v,h1,h2,h3⟩:=cellOf j k s hj hs
       rw[aeC,h1];exact h3)) rfl rfl rfl (by simp) (fun k hk=>setRow_other w b k vs' hk)
    refine ⟨_,_,(by rw[Nat.zero_mul];exact hrun),dM (h.fQ (st':=st.bX i (some (.row e' (sz+1) n' (ovl n lo m f)))) (Env.Le.refl E) rfl hh3 ⟨rfl,rfl⟩ (lX hR.heap fun k hk=>setRow_other w b k vs' hk)) hnt hd hk ?_ fun st2 E2 a2 w2 hk2 h2 hw2=>hn st2 E2 a2 w2 hk2 h2 (hw2▸⟨by simp,fun k _ hne=>setRow_other w b k vs' fun e=>hne cur (0,0) (by rw[e];exact hR.heap)⟩)⟩
    exact .sub _ _ _ _ b n' cap c _ hh (by omega) (by omega) hr (fun _=>by rw[Nat.zero_mul])
   ·exact hk.elim
  ·exact hk.elim
 ·exact hk.elim
theorem yS {C:Ctx} {E:Env} {st:St} {a:Act} {w:World} (h:aA C E st a w) {X:bB} (hTb:X.Tb.Ok X.P) (hnt:C.nt=X.nt) (hro:C.ro=X.ro) (hcm:C.m=X.m) {d:Option Nat} (hd:bQ X.nt d=true)
  {t:Nat} {s x:SV} {vs vx:Value} (hs:aM E vs s) (hx:aM E vx x) {K:St→Prop} (hk:adK X t s x d st K) {next:Act→World→Prop}
  (hn:∀st' E' a' w',K st'→aA C E' st' a' w'→(∃e,elemOf X.Tb t=some e∧oD e w w')→next a' w') (ty:Nat) :
  ∃v' w',(Builtin.append_ #[t,t] ty #[vs,vx]).run X.P w=.ok v' w'∧next (a.put d v') w':=by
 unfold adK at hk
 split at hk
 ·rename_i e _ _ _ ht
  have hn:∀st' E' a' w',K st'→aA C E' st' a' w'→oD e w w'→next a' w':=fun st' E' a' w' hk' h' hg=>hn st' E' a' w' hk' h' ⟨e,by unfold elemOf;rw[ht],hg⟩
  split at hk
  ·rename_i _ sz by_ _ hie
   split at hk
   ·rename_i m g j hsrc
    split at hk
    ·rename_i i
     split at hk
     ·rename_i e' sz' n f hoth hob
      split at hk
      ·rename_i hb
       simp only[agw] at hb
       obtain rfl:=agf hb.1
       obtain rfl:=agf hb.2
       obtain ⟨⟨h1,h2⟩,h3,hk⟩:=hk
       rw[ni] at hk
       obtain ⟨v0,xs,u,hh,hw,hmax,hl,hc,he⟩:=jL (h.heap.ob _ _ hob)
       cases hs with
       | row _ _ hh2 hsl=>
        rw[hh] at hh2;cases hh2
        have hset:∀k,(st.bX i none).obj k=if i=k then none else st.obj k:=fun k=>kX st.fr st.ob st.no _ _ _ _
        refine acv (st1:=st.bX i none) h hTb hnt hd ht hie (adb h.heap hsrc hx h3) hw hl hc he h3 h1 h2 rfl rfl rfl (fun k o ho=>?_) (fun b hb=>?_) hk hn ty
        ·rw[hset] at ho
         by_cases hik:i=k
         ·rw[if_pos hik] at ho;cases ho
         ·rw[if_neg hik] at ho;exact ho
        ·refine ⟨i,_,by simp only[agw] at hoth;rw[hcm];exact aiT hoth.2,hob,by rw[hset,if_pos rfl],?_⟩
         simp only[Env.blk,hh,aum]
         rw[oI _ hsl];exact hb
      ·exact hk.elim
     ·exact hk.elim
    ·obtain ⟨⟨h1,h2⟩,h3,hk⟩:=hk
     obtain rfl:=hs.aN
     rw[ni] at hk
     have hk':aS (st.alloc (.row e (sz+1) (0+m) (bS 0 (fun _=>[]) g))) d (.row st.no) K:=by
      rw[aiF]
      have:bS 0 (fun _=>[]) g=g:=by funext k;simp[bS]
      rw[this];exact hk
     exact acv (st1:=st) (n:=0) (f:=fun _=>[]) (u:=fun _ _=>undef) h hTb hnt hd ht hie (adb h.heap hsrc hx h3) (World.ownsRow_nil w 0 e (sz+1)) (by intro j hj;omega) (by intro j k s hj;omega) (by intro j k s hj;omega) h3 (by omega) (by simpa using h2) rfl rfl rfl (fun _ _ h=>h)
      (fun b hb=>by simp[Value.ownBlock] at hb) hk' hn ty
    ·rename_i n f
     obtain ⟨⟨h0,h1,h2⟩,h3,h4,hk⟩:=hk
     cases hs with
     | full ad _ _ hp=>
      exact ah7 h hTb hnt hd ht hie (adb h.heap hsrc hx h4) (adb h.heap (x:=.p false (.seq n f)) (e:=e) (j:=none) rfl (.p false _ _ hp) h3) h3 h4 h0 h1 h2 hk hn ty
    ·exact hk.elim
   ·exact adX h hTb hnt hro hd ht hie hs hx hk hn ty
  ·exact hk.elim
 ·exact hk.elim
theorem ahy (s:ByteArray) (j:Nat) (hj:j<s.size):(Lib.strCells s)[j]?=some (.int .u8 (s.data.getD j 0).toNat):=by
 have hj:j<s.data.size:=hj
 unfold Lib.strCells
 rw[ajs,aeX,aex hj,aeC,aex hj];rfl
theorem yx {C:Ctx} {E:Env} {st:St} {a:Act} {w:World} (h:aA C E st a w) {X:bB} (hTb:X.Tb.Ok X.P) (hnt:C.nt=X.nt) (hcm:C.m=X.m) {d:Option Nat} (hd:bQ X.nt d=true)
  {t t':Nat} {s x:SV} {vs vx:Value} (hs:aM E vs s) (hx:aM E vx x) {K:St→Prop} (hk:ad8 X t t' s x d st K) {next:Act→World→Prop}
  (hn:∀st' E' a' w',K st'→aA C E' st' a' w'→(∃e,elemOf X.Tb t=some e∧oD e w w')→next a' w') (ty:Nat) :
  ∃v' w',(Builtin.append_ #[t,t'] ty #[vs,vx]).run X.P w=.ok v' w'∧next (a.put d v') w':=by
 unfold ad8 at hk
 split at hk
 ·rename_i e _ _ _ _ _ _ ht ht'
  have hn:∀st' E' a' w',K st'→aA C E' st' a' w'→oD e w w'→next a' w':=fun st' E' a' w' hk' h' hg=>hn st' E' a' w' hk' h' ⟨e,by unfold elemOf;rw[ht],hg⟩
  split at hk
  ·rename_i by_ zz _ str hie
   obtain rfl:=hx.aN
   have hut:X.P.underlying t=some (.slice e):=(hTb _ _ ht).desc
   have hut':X.P.underlying t'=some .string:=(hTb _ _ ht').desc
   obtain ⟨I,zv,hI,hz,hs1,hzs,hzc⟩:=(hTb _ _ hie).lT E
   obtain ⟨I',hI',hI2,hb',hI3⟩:=(hTb _ _ hie).info
   rw[hI] at hI';cases hI'
   simp only at hs1 hb'
   have hgl:∀k,k<str.size→(kN str k).length=0+1:=fun _ _=>rfl
   have hnc:∀(j k:Nat) (q:PV),j<str.size→(kN str j)[k]?=some q→(Lib.strCells str)[j*(0+1)+k]?=some (Value.int .u8 (str.data.getD j 0).toNat)∧(Value.int .u8 (str.data.getD j 0).toNat).oneCell'=true:=by
    intro j k q hj hq
    have hk0:k=0:=by have:=(abA.1 hq).1;simpa [kN] using this
    subst hk0
    refine ⟨by rw[show j*(0+1)+0=j by omega];exact ahy str j hj,rfl⟩
   have hne:∀(j k:Nat) (q:PV),j<str.size→(kN str j)[k]?=some q→aO E.mem (Value.int .u8 (str.data.getD j 0).toNat) q:=by
    intro j k q hj hq
    have hk0:k=0:=by have:=(abA.1 hq).1;simpa [kN] using this
    subst hk0
    simp only[kN,auh,Option.some.injEq] at hq;subst hq;exact .val _
   have hnl:(Lib.strCells str).length=str.size*(0+1):=by rw[Lib.strCells_length];omega
   have hzero:zz=.int .u8 0→I.zero=some (.int .u8 0):=by
    intro hz0
    obtain ⟨I2,z2,f1,f2,f3⟩:=(hTb _ _ hie).flat rfl
    rw[hI] at f1;cases f1
    obtain ⟨I3,j1,_,_,z3,j2,j3,_⟩:=(hTb _ _ hie).info
    rw[hI] at j1;cases j1
    rw[f2] at j2;cases j2
    rw[f3] at j3
    have:z2=zz:=by simpa using j3
    rw[f2,this,hz0]
   split at hk
   ·rename_i i
    split at hk
    ·rename_i e' sz' n f hoth hob
     split at hk
     ·rename_i hb
      simp only[agw] at hb
      obtain rfl:=agf hb.1
      obtain rfl:=agf hb.2
      obtain ⟨⟨⟨rfl,hz0⟩,h1,h2⟩,hk⟩:=hk
      have hzero:=hzero hz0
      rw[ni] at hk
      obtain ⟨v0,xs,u,hh,hw,hmax,hl,hc,he⟩:=jL (h.heap.ob _ _ hob)
      cases hs with
      | row _ _ hh2 hsl=>
       rw[hh] at hh2;cases hh2
       have hset:∀k,(st.bX i none).obj k=if i=k then none else st.obj k:=fun k=>kX st.fr st.ob st.no _ _ _ _
       obtain ⟨v',w',hr,ho,hg,hsl',hblk⟩:=wK (P:=X.P) (w:=w) t t' ty e' I hut hut' hI hzero hs1 hb' _ n xs hw str h1 h2
       refine ⟨v',w',hr,wV (sz:=0) (st1:=st.bX i none) h hnt hd hw hl hc he hgl h1 rfl rfl rfl (fun k o ho=>?_) (fun b hb=>?_) hk hn ho hg hsl' hblk hnl hnc hne⟩
       ·rw[hset] at ho
        by_cases hik:i=k
        ·rw[if_pos hik] at ho;cases ho
        ·rw[if_neg hik] at ho;exact ho
       ·refine ⟨i,_,by rw[hcm];exact aiT hoth,hob,by rw[hset,if_pos rfl],?_⟩
        simp only[Env.blk,hh,aum]
        rw[oI _ hsl];exact hb
     ·exact hk.elim
    ·exact hk.elim
   ·obtain ⟨⟨⟨rfl,hz0⟩,h1,h2⟩,hk⟩:=hk
    have hzero:=hzero hz0
    obtain rfl:=hs.aN
    rw[ni] at hk
    have hk':aS (st.alloc (.row e (0+1) (0+str.size) (bS 0 (fun _=>[]) (kN str)))) d (.row st.no) K:=by
     have:bS 0 (fun _=>[]) (kN str)=kN str:=by funext k;simp[bS]
     rw[this,aiF str.size];exact hk
    obtain ⟨v',w',hr,ho,hg,hsl',hblk⟩:=wK (P:=X.P) (w:=w) t t' ty e I hut hut' hI hzero hs1 hb' (.slice none 0 0) 0 [] (World.ownsRow_nil w 0 e 1) str (by omega) (by omega)
    exact ⟨v',w',hr,wV (sz:=0) (st1:=st) (n:=0) (f:=fun _=>[]) (u:=fun _ _=>undef) h hnt hd (World.ownsRow_nil w 0 e (0+1)) (by intro j hj;omega) (by intro j k s hj;omega) (by intro j k s hj;omega) hgl (by omega) rfl rfl rfl (fun _ _ h=>h)
     (fun b hb=>by simp[Value.ownBlock] at hb) hk' hn ho hg hsl' hblk hnl hnc hne⟩
   ·exact hk.elim
  ·exact hk.elim
 ·exact hk.elim
theorem aec {C:Ctx} {E:Env} {st:St} {a:Act} {w:World} (h:aA C E st a w) {X:bB} (hTb:X.Tb.Ok X.P) (hnt:C.nt=X.nt) {o:Oper} (hd:bQ X.nt o.dst=true)
  {F:Fence} (hF:gY F) {K:St→Prop} (hk:ab9 X o st K) {next:Act→World→Prop} {Q:Exit→Act→World→Prop}
  (hn:∀st' E' a' w',K st'→aA C E' st' a' w'→(iD o.op=true→Grow w w')→next a' w'):o.wpIn F 9 X.P a w next Q:=by
 unfold ab9 at hk
 split at hk
 ·-- makeSlice
  rename_i T l c ho
  split at hk
  ·rename_i e _ _ _ hi
   split at hk
   ·rename_i _ sz by_ z hie
    split at hk
    ·rename_i _ k1 n _ k2 m hl hc
     obtain ⟨⟨h0,h1,h2,h3⟩,hk⟩:=hk
     have hlv:=aH h l
     rw[hl] at hlv
     have hle1:=hlv.aN
     have hcv:=aH h c
     rw[hc] at hcv
     have hce:=hcv.aN
     have hu:X.P.underlying T=some (.slice e):=(hTb _ _ hi).desc
     obtain ⟨I,hI,hIs,hIb,zv,hz,hzz,hone,hzc⟩:=(hTb _ _ hie).info
     simp only at hIs hIb hzz hzc
     have hbyt:(I.bytes:Int)*m≤281474976710656:=by
      have e:m=(m.toNat:Int):=by omega
      rw[hIb,e]
      have h5:((by_*m.toNat:Nat):Int)≤((281474976710656:Nat):Int):=Int.ofNat_le.2 h3
      rw[Int.natCast_mul] at h5;exact h5
     have hrun:=run_make (P:=X.P) w T e I zv hu hI hz k1 k2 n m h0 h1 hbyt (by omega)
     rw[hIs] at hrun
     have hzl:z.length=sz+1:=by rw[←hzz,al7];exact hzc
     have hmc:=size_madeCells zv.cells (m.toNat*(sz+1))
     have hnm:n.toNat≤m.toNat:=by omega
     have hmx:m.toNat≤maxLen:=by unfold maxLen;omega
     have hzc:zv.cells.size=sz+1:=hzc
     have hnsz:n.toNat*(sz+1)≤m.toNat*(sz+1):=alS _ hnm
     have hcell:∀j k,j<n.toNat→k<sz+1→(madeCells zv.cells (m.toNat*(sz+1)))[j*(sz+1)+k]?=zv.cells[k]?:=by
      intro j k hj hk
      have hlt:j*(sz+1)+k<m.toNat*(sz+1):=by
       have:=alS (sz+1) (show j+1≤m.toNat by omega);rw[asI] at this;omega
      have hmod:(j*(sz+1)+k) % zv.cells.size=k:=by rw[hzc,Nat.add_comm,auc,atK hk]
      have e1:zv.cells[k]?=some (zv.cells[k]'(by omega)):=aex _
      rw[e1]
      simp[madeCells,hlt,hmod,getElem!_def,e1]
     obtain ⟨hh,hle⟩:=h.heap.adl (cs:=madeCells zv.cells (m.toNat*(sz+1))) (T:=e) (fr:=(0,0)) (w':=w.alloc (.cells (madeCells zv.cells (m.toNat*(sz+1))) e)) (World.alloc_heap_new w _) rfl rfl rfl (by show w.heap.size≤(w.heap.push _).size;simp) (fun k hk=>RowKit.Below.heap_alloc w _ k hk)
     have hM:=h.fQ (st':=st) hle rfl hh ⟨rfl,rfl⟩ (iF w _)
     refine dH hF (by simp[ho]) (v:=.slice (some ⟨w.heap.size,0,none⟩) n.toNat m.toNat) (w':=w.alloc (.cells (madeCells zv.cells (m.toNat*(sz+1))) e)) ?_
      (dM hM hnt hd hk (.p false _ _ (.seq w.heap.size 0 n.toNat m.toNat (sz+1) _ (madeCells zv.cells (m.toNat*(sz+1))) (fun j k=>zv.cells.getD k undef) (by show (E.fO w.heap.size _).mem w.heap.size=_;simp[Env.fO]) hnm (aln hnm hmx)
       (fun j hj=>by rw[q9];exact hzl)
       (fun j k s hj hs=>by
        rw[oG,←hzz,aeX] at hs
        have hks:k<sz+1:=by
         cases hq:zv.cells[k]? with
         | none=>rw[hq] at hs;cases hs
         | some q=>have:=(abB.1 hq).1;omega
        rw[aiF,hcell j k hj hks]
        have e1:zv.cells[k]?=some (zv.cells[k]'(by omega)):=aex _
        rw[aeC,e1]
        exact ⟨rfl,hone _ _ e1⟩)
       (fun j k s hj hs=>by
        rw[oG,←hzz,aeX] at hs
        cases hq:zv.cells[k]? with
        | none=>rw[hq] at hs;cases hs
        | some q=>
         rw[hq] at hs;simp only[aoF,Option.some.injEq] at hs;subst hs
         rw[aeC,hq];exact .val q))) fun st' E' a' w' hk' h' hw'=>hn st' E' a' w' hk' h' fun _=>hw'▸jF w _)
     simp[execOp,ho,hle1,hce,hrun]
    ·exact hk.elim
   ·exact hk.elim
  ·exact hk.elim
 ·-- buildSlice
  rename_i T len parts ho
  split at hk
  ·rename_i e _ _ _ hi
   split at hk
   ·rename_i _ sz _ z hie
    split at hk
    ·rename_i cs hf
     split at hk
     ·rename_i b ds hall
      cases hbl:(len*(sz+1)).blt 1000 with
      | false=>simp[hbl] at hk
      | true=>
       simp only[hbl] at hk
       have hlt:len*(sz+1)<1000:=by simpa [atB] using hbl
       obtain ⟨zv,hz,hZ⟩:=qZ (hTb _ _ hie) (E:=E)
       have hu:X.P.underlying T=some (.slice e):=(hTb _ _ hi).desc
       have hzl:(zeros z).length=sz+1:=by
        obtain ⟨I,zz,_,_,_,hs,hA⟩:=(hTb _ _ hie).lT E
        have:=hA.size;simp only at this hs;omega
       have hzs:zv.cells.size=sz+1:=by rw[hZ.size];exact hzl
       have hZ0:jG E ((Array.range (len*(sz+1))).map (zv.cells[· % zv.cells.size]!)) (vM len (zeros z)):=by
        refine jG.of (by rw[om,hzl];simp) fun k hk=>?_
        have hk2:k<len*(sz+1):=by simpa using hk
        have hm:k % (sz+1)<sz+1:=Nat.mod_lt _ (by omega)
        have e1:zv.cells[k % (sz+1)]?=some (zv.cells[k % (sz+1)]'(by omega)):=aex (by omega)
        have e2:(zeros z)[k % (sz+1)]?=some ((zeros z)[k % (sz+1)]'(by omega)):=abn (by omega)
        have hm2:k % (zeros z).length=k % (sz+1):=by rw[hzl]
        refine ⟨_,_,?_,by rw[abG _ _ _ (by rw[hzl];exact hk2),hm2];exact e2,hZ.one _ _ e1,hZ.rep _ _ _ e1 e2⟩
        simp[hk2,hzs,getElem!_def,e1]
       obtain ⟨vs',hfill,hA⟩:=uy h _ (fun i=>some (i*(sz+1),sz+1)) (fun i p hp=>by
        split at hp
        ·exact hp
        ·cases hp) parts.toList _ _ _ hZ0 hf
       obtain ⟨hdl,hdr⟩:=qC (E:=E) cs b ds hall
       have hvl:vs'.size=len*(sz+1):=by
        have:=(uM hf);rw[hA.size,this,om,hzl]
       have hdn:ds.length=len*(sz+1):=by rw[←hdl,←hA.size,hvl]
       have hmx:len≤maxLen:=by unfold maxLen;have:=Nat.le_mul_of_pos_right len (show 0<sz+1 by omega);omega
       obtain ⟨hh,hle⟩:=h.heap.adl (cs:=vs') (T:=e) (fr:=(0,0)) (w':=w.alloc (.cells vs' e)) (World.alloc_heap_new w _) rfl rfl rfl (by show w.heap.size≤(w.heap.push _).size;simp) (fun k hk=>RowKit.Below.heap_alloc w _ k hk)
       have hM:=h.fQ (st':=st) hle rfl hh ⟨rfl,rfl⟩ (iF w _)
       have hrep:aO (E.fO w.heap.size vs').mem (.slice (some ⟨w.heap.size,0,none⟩) len len) (.seq len (bn (sz+1) ds)):=by
        refine .seq w.heap.size 0 len len (sz+1) _ vs' (fun j k=>vs'.getD (j*(sz+1)+k) undef) (by simp[Env.fO]) (aha _) hmx (fun j hj=>(jI hdn hj).1) (fun j k s hj hs=>?_) (fun j k s hj hs=>?_)
        ·have hk1:k<sz+1:=by rw[←(jI hdn hj).1];exact (abA.1 hs).1
         have hin:j*(sz+1)+k<vs'.size:=by
          rw[hvl];have:=alS (sz+1) (show j+1≤len from hj);rw[asI] at this;omega
         have e1:vs'[j*(sz+1)+k]?=some vs'[j*(sz+1)+k]:=aex hin
         rw[aiF,aeC,e1]
         exact ⟨rfl,hA.one _ _ e1⟩
        ·have hk1:k<sz+1:=by rw[←(jI hdn hj).1];exact (abA.1 hs).1
         have hin:j*(sz+1)+k<vs'.size:=by
          rw[hvl];have:=alS (sz+1) (show j+1≤len from hj);rw[asI] at this;omega
         have e1:vs'[j*(sz+1)+k]?=some vs'[j*(sz+1)+k]:=aex hin
         have e2:cs[j*(sz+1)+k]?=some (cs[j*(sz+1)+k]'(by rw[←hA.size];exact hin)):=abn _
         rw[(jI hdn hj).2 k hk1] at hs
         rw[aeC,e1]
         exact (hdr _ _ _ _ e2 hs (hA.rep _ _ _ e1 e2)).mono fun B cs hB=>hle.mem _ _ (E.eO b _ _ hB)
       refine dH hF (by simp[ho]) (v:=.slice (some ⟨w.heap.size,0,none⟩) len len) (w':=w.alloc (.cells vs' e)) ?_
        (dM hM hnt hd hk (.p false _ _ hrep) fun st' E' a' w' hk' h' hw'=>hn st' E' a' w' hk' h' fun _=>hw'▸jF w _)
       have h24:¬(len*(sz+1)>2 ^ 24):=by omega
       have hfill':Instr.fill (fun i=>some (i*(sz+1),sz+1)) ((Array.range (len*(sz+1))).map (zv.cells[· % zv.cells.size]!)) (parts.map fun p=>(p.1,a.eval p.2)).toList=some vs':=by simpa using hfill
       by_cases h0:len*(sz+1)=0
       ·have hz0:∀g:Nat→Value,(Array.range (len*(sz+1))).map g=#[]:=fun g=>by rw[h0];simp
        rw[hz0] at hfill'
        simp only[execOp,ho,Instr.buildSlice,Sem.run_bind,run_underlying hu,Result.andThen_ok,dQ (hTb _ _ hie),h0,show ¬((0:Nat)>2 ^ 24) by omega,if_false,if_true,Sem.run_pure]
        simp only[show Array.range 0=#[] from rfl,Array.map_empty,hfill',newRow,Sem.run_bind,run_newObj,Result.andThen_ok,Sem.run_pure]
        rfl
       ·simp only[execOp,ho,Instr.buildSlice,Sem.run_bind,run_underlying hu,Result.andThen_ok,dQ (hTb _ _ hie),h24,if_false,h0,hz,Sem.run_pure]
        simp only[hfill',newRow,Sem.run_bind,run_newObj,Result.andThen_ok,Sem.run_pure]
        rfl
     ·exact hk.elim
    ·exact hk.elim
   ·exact hk.elim
  ·exact hk.elim
 ·exact hk.elim
theorem al8 {α:Type} (k:Nat) (v:α) (l:List (Nat×α)) (t:Nat):look (agO k v l) t=look ((k,v) :: l) t:=by
 induction l with
 | nil=>rfl
 | cons p l ih=>
  obtain ⟨k',v'⟩:=p
  unfold agO
  split
  ·rfl
  ·rename_i hb
   have hlt:k'<k:=by
    have:¬k≤k':=fun h=>by rw[Nat.ble_eq_true_of_le h] at hb;cases hb
    omega
   rw[bC,ih,bC,bC,bC]
   by_cases e:k'=t
   ·rw[if_pos e,if_neg (by omega),if_pos e]
   ·rw[if_neg e,if_neg e]
theorem wN {α:Type}:∀(l:List (Nat×α)) (t:Nat),look (xV l) t=look l t
 | [],_=>rfl
 | (k,v) :: l,t=>by
  show look (agO k v (xV l)) t=_
  rw[al8,bC,bC,wN l]
theorem ajQ (st:St) (t:Nat):(acO st).get t=st.get t:=by
 show (match look (xV st.fr) t with | some s=>s | none=>.any)=_
 rw[wN];rfl
theorem sS (st:St) (i:Nat):(acO st).obj i=st.obj i:=by
 show (match look (xV st.ob) i with | some o=>o | none=>none)=_
 rw[wN];rfl
theorem aA.norm {C:Ctx} {E:Env} {st:St} {a:Act} {w:World} (h:aA C E st a w):aA C E (acO st) a w:=by
 have hh:=h.heap
 exact ⟨h.size,fun t=>by rw[ajQ];exact h.slot t,⟨fun i o ho=>hh.ob i o (by rwa [sS] at ho),fun i j o o' b h1 h2=>hh.sep i j o o' b (by rwa [sS] at h1) (by rwa [sS] at h2),fun i o b ho=>hh.own i o b (by rwa [sS] at ho),hh.mem,hh.mem0,hh.memnew,hh.new,hh.base,hh.fr,hh.hd0,hh.mno,hh.mkh,hh.kk⟩,h.marks⟩
theorem ag6 {μ:Nat→Option (Array Value)} {v:Value} {d d':PV} (h:adH d d') (hv:aO μ v d):aO μ v d':=by
 unfold adH at h
 split at h
 ·obtain rfl:=hv.aN;subst h;exact .nil _
 ·split at h
  ·rename_i hk;obtain rfl:=nR hk;subst h;exact hv
  ·exact h.elim
 ·subst h;exact hv
 ·subst h;exact hv
 ·subst h;exact hv
 ·obtain ⟨rfl,h⟩:=h
  cases hv with
  | nil=>exact .nil _
  | emp a c=>exact .emp a c _
  | seq b o _ cap sz _ cs u hm hcap hmax hl hc he=>
   exact .seq b o _ cap sz _ cs u hm hcap hmax (fun j hj=>by rw[←h j hj];exact hl j hj) (fun j k s hj hs=>hc j k s hj (by rw[h j hj];exact hs)) (fun j k s hj hs=>he j k s hj (by rw[h j hj];exact hs))
 ·obtain ⟨rfl,rfl⟩:=h;exact hv
 ·obtain ⟨rfl,rfl⟩:=h;exact hv
 ·obtain ⟨rfl,rfl⟩:=h;exact hv
 ·obtain ⟨rfl,h⟩:=h
  obtain ⟨vs,rfl,hs,hc⟩:=hv.fZ
  exact aO.q8 hs fun k hk=>by obtain ⟨u,h1,h2,h3⟩:=hc k hk;exact ⟨u,h1,h2,by rw[←h k hk];exact h3⟩
 ·exact h.elim
theorem aeM:∀(xs ys:List PV),vE xs ys→xs.length=ys.length∧∀(k:Nat) (x y:PV),xs[k]?=some x→ys[k]?=some y→adH x y
 | [],[],_=>by simp
 | [],_ :: _,h=>by simp[vE] at h
 | _ :: _,[],h=>by simp[vE] at h
 | [x],[y],h=>by
  refine ⟨rfl,fun k a b ha hb=>?_⟩
  cases k with
  | zero=>simp at ha hb;subst ha;subst hb;exact h
  | succ k=>simp at ha
 | [x],y :: z :: ys,h=>by simp[vE] at h
 | x :: z :: xs,[y],h=>by simp[vE] at h
 | x :: x2 :: xs,y :: y2 :: ys,h=>by
  simp only[vE] at h
  obtain ⟨h1,h2⟩:=aeM (x2 :: xs) (y2 :: ys) h.2
  refine ⟨by simpa using h1,fun k a b ha hb=>?_⟩
  cases k with
  | zero=>simp at ha hb;subst ha;subst hb;exact h.1
  | succ k=>simp only[aoz] at ha hb;exact h2 k a b ha hb
theorem abI {μ:Nat→Option (Array Value)} {v:Value} {d d':PV} (h:ad9 d d') (hv:aO μ v d):aO μ v d':=by
 unfold ad9 at h
 split at h
 ·rename_i xs ys
  obtain ⟨h1,h2⟩:=aeM xs ys h
  cases hv with
  | agg vs _ hl hone he=>
   refine .agg vs _ (by omega) hone fun k u s hu hs=>?_
   have hk:k<xs.length:=by rw[←hl];exact (abB.1 hu).1
   exact ag6 (h2 k _ s (abn hk) hs) (he k u _ hu (abn hk))
 ·exact ag6 h hv
theorem aaD:∀(xs ys:List PV),sN xs ys→xs.length=ys.length∧∀(k:Nat) (x y:PV),xs[k]?=some x→ys[k]?=some y→ad9 x y
 | [],[],_=>by simp
 | [],_ :: _,h=>by simp[sN] at h
 | _ :: _,[],h=>by simp[sN] at h
 | [x],[y],h=>by
  refine ⟨rfl,fun k a b ha hb=>?_⟩
  cases k with
  | zero=>simp at ha hb;subst ha;subst hb;exact h
  | succ k=>simp at ha
 | [x],y :: z :: ys,h=>by simp[sN] at h
 | x :: z :: xs,[y],h=>by simp[sN] at h
 | x :: x2 :: xs,y :: y2 :: ys,h=>by
  simp only[sN] at h
  obtain ⟨h1,h2⟩:=aaD (x2 :: xs) (y2 :: ys) h.2
  refine ⟨by simpa using h1,fun k a b ha hb=>?_⟩
  cases k with
  | zero=>simp at ha hb;subst ha;subst hb;exact h.1
  | succ k=>simp only[aoz] at ha hb;exact h2 k a b ha hb
theorem oV {μ:Nat→Option (Array Value)} {v:Value} {d d':PV} (h:ak d d') (hv:aO μ v d):aO μ v d':=by
 unfold ak at h
 split at h
 ·rename_i xs ys
  obtain ⟨h1,h2⟩:=aaD xs ys h
  cases hv with
  | tup vs _ hl he=>
   refine .tup vs _ (by omega) fun k u s hu hs=>?_
   have hk:k<xs.length:=by rw[←hl];exact (abB.1 hu).1
   exact abI (h2 k _ s (abn hk) hs) (he k u _ hu (abn hk))
 ·exact abI h hv
theorem eZ (i:Nat):∀(l:List Nat),gX i l=true↔i∈l
 | []=>by simp[gX]
 | j :: l=>by
  simp only[gX,aqK,eZ i l,ai0]
  constructor
  ·rintro (h | h)
   ·exact .inl (agf h)
   ·exact .inr h
  ·rintro (rfl | h)
   ·exact .inl (Nat.beq_refl _)
   ·exact .inr h
theorem uJ:∀(l:List Nat),distinct l=true→∀(k k' i:Nat),l[k]?=some i→l[k']?=some i→k=k'
 | [],_,k,k',i,h,_=>by simp at h
 | j :: l,hd,k,k',i,h,h'=>by
  simp only[distinct,agw,aoW] at hd
  have hj:j∉l:=fun hm=>by have:=(eZ j l).2 hm;rw[hd.1] at this;cases this
  cases k with
  | zero=>
   simp at h;subst h
   cases k' with
   | zero=>rfl
   | succ k'=>simp at h';exact absurd (adh h') hj
  | succ k=>
   simp at h
   cases k' with
   | zero=>simp at h';subst h';exact absurd (adh h) hj
   | succ k'=>simp at h';rw[uJ l hd.2 k k' i h h']
theorem oM {ro:Nat}:∀(l:List Nat),nD ro l=true→∀(k i:Nat),l[k]?=some i→ro≤i
 | [],_,k,i,h=>by simp at h
 | j :: l,hd,k,i,h=>by
  simp only[nD,agw] at hd
  cases k with
  | zero=>simp at h;subst h;exact aiT hd.1
  | succ k=>simp at h;exact oM l hd.2 k i h
theorem abj:∀(l:List Ob) (i k:Nat),look (rG i l) k=if i≤k then (l[k-i]?).map some else none
 | [],i,k=>by simp[rG,look]
 | o :: l,i,k=>by
  simp only[rG,bC,abj l (i+1) k]
  by_cases h:i=k
  ·subst h;simp
  ·rw[if_neg h]
   by_cases h2:i≤k
   ·rw[if_pos h2,if_pos (by omega),show k-i=(k-(i+1))+1 by omega];simp
   ·rw[if_neg h2,if_neg (by omega)]
theorem dP (l:List Ob) (k:Nat):(iI l).obj k=l[k]?:=by
 unfold iI St.obj
 simp only[abj,afc,if_true,atw]
 cases l[k]?<;>rfl
theorem ru (all:List Nat):∀(js:List Nat) (os:List Ob) (l:List (Nat×Option Ob)),distinct js=true→js.length=os.length→∀j,
  (∀p:Nat,js[p]?=some j→look (ku all js os l) j=(os[p]?).map fun o=>some (sQ all o))∧(j∉js→look (ku all js os l) j=look l j)
 | [],[],l,_,_,j=>by simp[ku]
 | [],_ :: _,l,_,h,j=>by simp at h
 | _ :: _,[],l,_,h,j=>by simp at h
 | i :: js,o :: os,l,hd,hl,j=>by
  simp only[distinct,agw,aoW] at hd
  have hi:i∉js:=fun hm=>by have:=(eZ i js).2 hm;rw[hd.1] at this;cases this
  obtain ⟨h1,h2⟩:=ru all js os ((i,some (sQ all o)) :: l) hd.2 (by simpa using hl) j
  simp only[ku]
  refine ⟨fun p hp=>?_,fun hj=>?_⟩
  ·cases p with
   | zero=>
    simp at hp;subst hp
    rw[h2 hi,bC,if_pos rfl]
    rfl
   | succ p=>simp at hp ⊢;rw[h1 p hp]
  ·simp only[ai0,not_or] at hj
   rw[h2 hj.2,bC,if_neg (fun e=>hj.1 e.symm)]
theorem acL (st:St) (js:List Nat):∀(ss cs:List SV),rU st js ss cs→ss.length=cs.length∧∀(k:Nat) (s c:SV),ss[k]?=some s→cs[k]?=some c→aa0 st js s c
 | [],[],_=>by simp
 | [],_ :: _,h=>by simp[rU] at h
 | _ :: _,[],h=>by simp[rU] at h
 | [x],[y],h=>by
  refine ⟨rfl,fun k a b ha hb=>?_⟩
  cases k with
  | zero=>simp at ha hb;subst ha;subst hb;exact h
  | succ k=>simp at ha
 | [x],y :: z :: ys,h=>by simp[rU] at h
 | x :: z :: xs,[y],h=>by simp[rU] at h
 | x :: x2 :: xs,y :: y2 :: ys,h=>by
  simp only[rU] at h
  obtain ⟨h1,h2⟩:=acL st js (x2 :: xs) (y2 :: ys) h.2
  refine ⟨by simpa using h1,fun k a b ha hb=>?_⟩
  cases k with
  | zero=>simp at ha hb;subst ha;subst hb;exact h.1
  | succ k=>simp only[aoz] at ha hb;exact h2 k a b ha hb
theorem rE (st:St) (js:List Nat):∀(ss cs:List SV),nk st js ss cs→ss.length=cs.length∧∀(k:Nat) (s c:SV),ss[k]?=some s→cs[k]?=some c→aax st js s c
 | [],[],_=>by simp
 | [],_ :: _,h=>by simp[nk] at h
 | _ :: _,[],h=>by simp[nk] at h
 | [x],[y],h=>by
  refine ⟨rfl,fun k a b ha hb=>?_⟩
  cases k with
  | zero=>simp at ha hb;subst ha;subst hb;exact h
  | succ k=>simp at ha
 | [x],y :: z :: ys,h=>by simp[nk] at h
 | x :: z :: xs,[y],h=>by simp[nk] at h
 | x :: x2 :: xs,y :: y2 :: ys,h=>by
  simp only[nk] at h
  obtain ⟨h1,h2⟩:=rE st js (x2 :: xs) (y2 :: ys) h.2
  refine ⟨by simpa using h1,fun k a b ha hb=>?_⟩
  cases k with
  | zero=>simp at ha hb;subst ha;subst hb;exact h.1
  | succ k=>simp only[aoz] at ha hb;exact h2 k a b ha hb
theorem mJ (st:St) (all:List Nat):∀(js:List Nat) (os:List Ob),nL st all js os→js.length=os.length∧∀(k j:Nat) (o:Ob),js[k]?=some j→os[k]?=some o→obM st all j o
 | [],[],_=>by simp
 | [],_ :: _,h=>by simp[nL] at h
 | _ :: _,[],h=>by simp[nL] at h
 | [x],[y],h=>by
  refine ⟨rfl,fun k a b ha hb=>?_⟩
  cases k with
  | zero=>simp at ha hb;subst ha;subst hb;exact h
  | succ k=>simp at ha
 | [x],y :: z :: ys,h=>by simp[nL] at h
 | x :: z :: xs,[y],h=>by simp[nL] at h
 | x :: x2 :: xs,y :: y2 :: ys,h=>by
  simp only[nL] at h
  obtain ⟨h1,h2⟩:=mJ st all (x2 :: xs) (y2 :: ys) h.2
  refine ⟨by simpa using h1,fun k a b ha hb=>?_⟩
  cases k with
  | zero=>simp at ha hb;subst ha;subst hb;exact h.1
  | succ k=>simp only[aoz] at ha hb;exact h2 k a b ha hb
noncomputable def aR (E : Env) (st : St) (w : World) (js : List Nat) (lend : Bool) (os : List Ob) (ro : Nat) (t : Nat → Prop) : Env :=
  { hd := fun k => (js[k]?).bind E.hd
    mem := fun b => match E.mem b with
      | some cs => some cs
      | none => open Classical in if lend = true ∧ ∃ j o, j ∉ js ∧ st.obj j = some o ∧ E.blk j = some b then (match w.heap[b]? with | some (.cells cs _ _) => some cs | _ => none) else none
    tm := t, ws := w, I := kE (fun k => (js[k]?).bind E.hd) os ro, k := none }
theorem fC {E:Env} {st:St} {w:World} {js:List Nat} {lend:Bool} {t:Nat→Prop} {os:List Ob} {ro b:Nat} {cs:Array Value} (h:E.mem b=some cs):(aR E st w js lend os ro t).mem b=some cs:=by simp[aR,h]
theorem lS {E:Env} {t:Nat→Prop} {st:St} {w:World} {js:List Nat} {os:List Ob} {ro b:Nat} {cs:Array Value} (h:(aR E st w js false os ro t).mem b=some cs):E.mem b=some cs:=by
 simp only[aR] at h
 cases hm:E.mem b with
 | some c=>rw[hm] at h;exact h
 | none=>rw[hm] at h;simp at h
theorem aeo {C:Ctx} {E:Env} {st:St} {w:World} (h:bq C E st w) {js:List Nat} {lend:Bool} {t:Nat→Prop} {os:List Ob} {ro:Nat} {s c:SV} (hm:aa0 st js s c) (hlend:uG s c=true→lend=true) {v:Value} (hv:aM E v s) :
  aM (aR E st w js lend os ro t) v c:=by
 unfold aa0 at hm
 split at hm
 ·split at hm
  ·obtain ⟨h1,rfl⟩:=hm
   rw[d9] at h1
   obtain ⟨b,hb,rfl⟩:=fF hv
   exact .own _ _ b (by simp[aR,h1,hb])
  ·exact hm.elim
 ·split at hm
  ·rw[d9] at hm
   cases hv with | row _ _ hh hs=>exact .row _ _ (by simp[aR,hm,hh]) hs
  ·exact hm.elim
 ·split at hm
  ·cases hv with
   | p _ _ _ hp=>exact .p _ _ _ (oV hm (hp.mono fun b cs hb=>fC (E.eO _ _ _ hb)))
  ·rename_i i
   split at hm
   ·rename_i T sz n f hin hob
    refine .p _ _ _ (oV hm ?_)
    have hl:=hlend rfl
    obtain ⟨v0,xs,u,hh,hw,hmax,hlen,hc,he⟩:=jL (h.ob _ _ hob)
    cases hv with
    | row _ _ hh2 hsl=>
     rw[hh] at hh2;cases hh2
     rcases hw.2 with ⟨rfl,rfl⟩ | ⟨g,cap,cur,rfl,_,hg,hnc,hcm,hcs,htake⟩
     ·exact .nil _
     ·have hnin:i∉js:=fun hi=>by have:=(eZ i js).2 hi;rw[hin] at this;cases this
      have hblk:E.blk i=some g:=by simp[Env.blk,hh,aG]
      have hnone:=(h.own i _ g hob hblk).1
      refine .seq g 0 n cap sz f cur u ?_ hnc hmax hlen (fun j k s hj hs=>?_) (fun j k s hj hs=>(he j k s hj hs).mono fun b cs hb=>fC hb)
      ·show (aR E st w js lend os ro t).mem g=some cur
       simp only[aR,hnone]
       rw[if_pos ⟨hl,i,_,hnin,hob,hblk⟩,hg]
      ·obtain ⟨c1,c2⟩:=hc j k s hj hs
       refine ⟨?_,c2⟩
       rw[aiF,←aeX]
       rw[←htake,alD] at c1
       split at c1
       ·exact c1
       ·cases c1
   ·exact hm.elim
  ·rename_i i N lo n
   split at hm
   ·rename_i T N' f hin hob
    obtain ⟨rfl,hm⟩:=hm
    refine .p _ _ _ (oV hm ?_)
    have hl:=hlend rfl
    cases hv with
    | asl _ _ _ _ b c a hh hle hc ha=>
     obtain ⟨b',vs,hh2,hw,hs,hvc⟩:=(h.ob _ _ hob).fZ
     rw[hh] at hh2;cases hh2
     rcases aq0 n with rfl | hn
     ·exact .emp _ _ _
     ·obtain rfl:=ha (by omega)
      have hnin:i∉js:=fun hi=>by have:=(eZ i js).2 hi;rw[hin] at this;cases this
      have hblk:E.blk i=some b:=by simp[Env.blk,hh,aG]
      have hnone:=(h.own i _ b hob hblk).1
      refine .seq b lo n c 1 _ vs (fun j _=>vs.getD (lo+j) undef) ?_ hc ?_ (fun j hj=>rfl) (fun j k s hj hs'=>?_) (fun j k s hj hs'=>?_)
      ·show (aR E st w js lend os ro t).mem b=some vs
       simp only[aR,hnone]
       rw[if_pos ⟨hl,i,_,hnin,hob,hblk⟩,hw]
      ·unfold maxLen;omega
      ·have hk0:k=0:=by have:=(abA.1 hs').1;simpa using this
       subst hk0
       obtain ⟨u,u1,u2,u3⟩:=hvc (lo+j) (by omega)
       rw[apT,atm,aeC,u1]
       exact ⟨rfl,u2⟩
      ·have hk0:k=0:=by have:=(abA.1 hs').1;simpa using this
       subst hk0
       simp at hs';subst hs'
       obtain ⟨u,u1,u2,u3⟩:=hvc (lo+j) (by omega)
       rw[aeC,u1]
       exact u3.mono fun B cs hB=>fC hB
   ·exact hm.elim
  ·exact hm.elim
 ·split at hm
  ·rw[d9] at hm
   cases hv with | mp _ r hh=>exact .mp _ r (by simp[aR,hm,hh])
  ·exact hm.elim
 ·exact .any _
 ·exact hm.elim
theorem ac2:∀(l m:List SV) (k:Nat) (s c:SV),l[k]?=some s→m[k]?=some c→uG s c=true→rF l m=true
 | [],_,k,s,c,h,_,_=>by simp at h
 | s :: l,[],k,s',c,_,h,_=>by simp at h
 | s :: l,c :: m,0,s',c',h,h',hl=>by
  simp at h h';subst h;subst h'
  cases s<;>cases c<;>simp_all [uG,rF]
 | s :: l,c :: m,k+1,s',c',h,h',hl=>by
  simp at h h'
  have:=ac2 l m k s' c' h h' hl
  cases s<;>cases c<;>simp[rF,this]
theorem lM:∀(l m:List SV) (k:Nat),(∀(s c:SV),l[k]?=some s→m[k]?=some c→uG s c=true→jg l m=true) ∧
  (∀f l' f' m',l[k]?=some (.fn f l')→m[k]?=some (.fn f' m')→rF l' m'=true→jg l m=true)
 | [],_,k=>by simp
 | s :: l,[],k=>by simp
 | s :: l,c :: m,0=>by
  refine ⟨fun s' c' h h' hl=>?_,fun f l' f' m' h h' hl=>?_⟩
  ·simp at h h';subst h;subst h'
   cases s<;>cases c<;>simp_all [uG,jg]
  ·simp at h h';subst h;subst h';simp[jg,hl]
 | s :: l,c :: m,k+1=>by
  obtain ⟨h1,h2⟩:=lM l m k
  have up:jg l m=true→jg (s :: l) (c :: m)=true:=by
   intro h
   cases s<;>cases c<;>simp[jg,h]
  exact ⟨fun s' c' h h' hl=>up (h1 s' c' (by simpa using h) (by simpa using h') hl),fun f l' f' m' h h' hl=>up (h2 f l' f' m' (by simpa using h) (by simpa using h') hl)⟩
theorem abv (st:St):∀(js:List Nat) (os:List Ob) (k j:Nat) (o:Ob),js[k]?=some j→os[k]?=some o→ad3 st j o=true→jM st js os=true
 | [],_,k,j,o,h,_,_=>by simp at h
 | _ :: _,[],k,j,o,_,h,_=>by simp at h
 | i :: js,p :: os,0,j,o,h,h',hl=>by simp at h h';subst h;subst h';simp[jM,hl]
 | i :: js,p :: os,k+1,j,o,h,h',hl=>by
  have:=abv st js os k j o (by simpa using h) (by simpa using h') hl
  simp[jM,this]
theorem qE {C:Ctx} {E:Env} {st:St} {w:World} (h:bq C E st w) {js:List Nat} {lend:Bool} {t:Nat→Prop} {os:List Ob} {ro:Nat} {s c:SV} (hm:aax st js s c) (hlend:uG s c=true→lend=true)
  (hlend2:∀f l f' m,s=.fn f l→c=.fn f' m→rF l m=true→lend=true) {v:Value} (hv:aM E v s):aM (aR E st w js lend os ro t) v c:=by
 unfold aax at hm
 split at hm
 ·split at hm
  ·rename_i f m _ f' l
   obtain ⟨rfl,hm⟩:=hm
   obtain ⟨h1,h2⟩:=acL st js l m hm
   cases hv with
   | fn _ vs _ hl he=>
    refine .fn _ vs _ (by omega) fun k u c hu hc=>?_
    have hk:k<l.length:=by rw[←hl];exact (abB.1 hu).1
    have hs:l[k]?=some l[k]:=abn hk
    exact aeo h (h2 k _ c hs hc) (fun hl=>hlend2 _ _ _ _ rfl rfl (ac2 l m k _ c hs hc hl)) (he k u _ hu hs)
  ·exact hm.elim
 ·exact aeo h hm hlend hv
theorem acy (st:St) (js:List Nat):∀(ss cs:List SV),rC st js ss cs→ss.length=cs.length∧∀(k:Nat) (s c:SV),ss[k]?=some s→cs[k]?=some c→ady st js s c
 | [],[],_=>⟨rfl,by simp⟩
 | [],_ :: _,h=>by simp[rC] at h
 | _ :: _,[],h=>by simp[rC] at h
 | [x],[y],h=>by
  refine ⟨rfl,fun k a b ha hb=>?_⟩
  cases k with
  | zero=>simp at ha hb;subst ha;subst hb;exact h
  | succ k=>simp at ha
 | [x],y :: z :: ys,h=>by simp[rC] at h
 | x :: z :: xs,[y],h=>by simp[rC] at h
 | x :: x2 :: xs,y :: y2 :: ys,h=>by
  simp only[rC] at h
  obtain ⟨h1,h2⟩:=acy st js (x2 :: xs) (y2 :: ys) h.2
  refine ⟨by simpa using h1,fun k a b ha hb=>?_⟩
  cases k with
  | zero=>simp at ha hb;subst ha;subst hb;exact h.1
  | succ k=>simp only[aoz] at ha hb;exact h2 k a b ha hb
theorem alx {C:Ctx} {E:Env} {st:St} {w:World} (h:bq C E st w) {js:List Nat} {lend:Bool} {os:List Ob} {ro:Nat} {s c:SV} (hm:ady st js s c) (hlend:uG s c=true→lend=true)
  (hlend2:∀f l f' m,s=.fn f l→c=.fn f' m→rF l m=true→lend=true) {v:Value} (hv:aM E v s):aM (aR E st w js lend os ro E.tm) v c:=by
 unfold ady at hm
 split at hm
 ·split at hm
  ·cases hv with
   | p _ _ _ hp=>
    refine .p _ _ _ (oV hm (hp.mono fun b cs hb=>?_))
    simp only[Env.m] at hb ⊢
    split at hb
    ·rename_i ht
     rw[if_pos (show (aR E st w js lend os ro E.tm).tm b from ht)]
     exact fC hb
    ·cases hb
  ·exact hm.elim
 ·exact qE h hm hlend hlend2 hv
theorem agN (S:Spec) (a:S.A) (k:Nat):(S.post a)[k]?=if k<min S.ro (S.objs a).length then (S.objs a)[k]? else (S.objs' a)[k-min S.ro (S.objs a).length]?:=by
 unfold Spec.post
 by_cases hk:k<min S.ro (S.objs a).length
 ·rw[if_pos hk,afk (by simpa using hk),alD,if_pos (by omega)]
 ·rw[if_neg hk,agH (by simp only[ajz];omega),ajz]
theorem qU {C:Ctx} {E:Env} {st:St} {w:World} (h:bq C E st w) {js:List Nat} (hd:distinct js=true) {lend:Bool} {t:Nat→Prop} {os:List Ob} {ro:Nat} (hm:nL st js js os)
  (hlend:jM st js os=true→lend=true):bq { kP w (aR E st w js lend os ro t) os ro with tm:=t } (aR E st w js lend os ro t) (iI os) w:=by
 obtain ⟨hlen,hget⟩:=mJ st js js os hm
 have hblk:∀(k j:Nat),js[k]?=some j→(aR E st w js lend os ro t).blk k=E.blk j:=fun k j hj=>by simp[Env.blk,aR,hj]
 have hobj:∀(k j:Nat) (o:Ob),js[k]?=some j→os[k]?=some o→∃o',st.obj j=some o':=by
  intro k j o hj ho
  have:=hget k j o hj ho
  unfold obM at this
  cases hst:st.obj j with
  | some o'=>exact ⟨o',rfl⟩
  | none=>rw[hst] at this;split at this<;>exact this.elim
 have hjs:∀(k:Nat) (o:Ob),os[k]?=some o→∃j,js[k]?=some j:=fun k o ho=>⟨_,abn (by rw[hlen];exact (abA.1 ho).1)⟩
 have hisz:∀b,(aR E st w js lend os ro t).I b→b<w.heap.size:=by
  rintro b ⟨k,o,_,ho,hb⟩
  obtain ⟨j,hj⟩:=hjs k o ho
  obtain ⟨p,hp⟩:=hobj k j o hj ho
  exact (h.ob j p hp).gq (by have:=hblk k j hj;unfold Env.blk at this ⊢;rw[←this];exact hb)
 refine ⟨fun k o ho=>?_,fun k k' o o' b ho ho' hb hb'=>?_,fun k o b ho hb=>?_,fun b cs hb=>?_,fun _ _ h=>h,fun _ _ h=>.inl h,fun k hk=>?_,rfl,⟨rfl,rfl,rfl,aha _,aha _,⟨rfl,rfl,rfl⟩,hisz,fun _ _ _=>rfl,rfl,rfl,rfl⟩,fun _ _=>rfl,aha _,aha _,rfl⟩
 ·rw[dP] at ho
  obtain ⟨j,hj⟩:=hjs k o ho
  have hM:=hget k j o hj ho
  unfold obM at hM
  split at hM
  ·rename_i T cs
   split at hM
   ·rename_i T' cs' hob
    obtain ⟨rfl,hM⟩:=hM
    obtain ⟨g1,g2⟩:=rE st js cs' cs hM
    obtain ⟨b,vs,hh,hw,hA⟩:=(h.ob j _ hob).iR
    refine .cells b _ vs cs (by simp[aR,hj,hh]) hw (by rw[hA.size];exact g1) hA.one fun q u c hu hc=>?_
    have hq:q<cs'.length:=by rw[←hA.size];exact (abB.1 hu).1
    have hs:cs'[q]?=some cs'[q]:=abn hq
    have hle:jg cs' cs=true→lend=true:=fun hl=>hlend (abv st js os k j _ hj ho (by simp only[ad3,hob];exact hl))
    exact qE h (g2 q _ c hs hc) (fun hl=>hle ((lM cs' cs q).1 _ c hs hc hl)) (fun f l f' m e1 e2 hl=>hle ((lM cs' cs q).2 f l f' m (by rw[hs,e1]) (by rw[hc,e2]) hl)) (hA.rep q u _ hu hs)
   ·exact hM.elim
  ·rename_i T sz n f
   split at hM
   ·rename_i T' sz' n' f' hob
    obtain ⟨rfl,rfl,rfl,hM⟩:=hM
    obtain ⟨v0,xs,u,hh,hw,hmax,hl,hc,he⟩:=jL (h.ob _ _ hob)
    exact .row _ _ _ f v0 xs u (by simp[aR,hj,hh]) hw hmax (fun q hq=>by rw[←hM q hq];exact hl q hq) (fun q r s hq hs=>hc q r s hq (by rw[hM q hq];exact hs)) (fun q r s hq hs=>(he q r s hq (by rw[hM q hq];exact hs)).mono fun b cs hb=>fC hb)
   ·exact hM.elim
  ·rename_i T n f
   split at hM
   ·rename_i T' n' f' hob
    obtain ⟨rfl,rfl,hM⟩:=hM
    obtain ⟨b,vs,hh,hw,hs,hvc⟩:=(h.ob _ _ hob).fZ
    exact cZ.q8 (by simp[aR,hj,hh]) hw hs fun q hq=>by
     obtain ⟨u,u1,u2,u3⟩:=hvc q hq
     exact ⟨u,u1,u2,by rw[←hM q hq];exact u3.mono fun b cs hb=>fC hb⟩
   ·exact hM.elim
  ·rename_i kt n get
   split at hM
   ·rename_i kt' n' get' hob
    obtain ⟨rfl,rfl,hM⟩:=hM
    obtain rfl:get'=get:=funext hM
    obtain ⟨r,es,clock,hh,hw,h1,h2,h3,h4⟩:=(h.ob _ _ hob).tQ
    exact .map r es clock _ _ _ (by simp[aR,hj,hh]) hw h1 h2 h3 (h4.mono fun b cs hb=>fC hb)
   ·exact hM.elim
 ·rw[dP] at ho ho'
  obtain ⟨j,hj⟩:=hjs k o ho
  obtain ⟨j',hj'⟩:=hjs k' o' ho'
  obtain ⟨p,hp⟩:=hobj k j o hj ho
  obtain ⟨p',hp'⟩:=hobj k' j' o' hj' ho'
  rw[hblk k j hj] at hb
  rw[hblk k' j' hj'] at hb'
  have:=h.sep j j' p p' b hp hp' hb hb'
  subst this
  exact uJ js hd k k' j hj hj'
 ·rw[dP] at ho
  obtain ⟨j,hj⟩:=hjs k o ho
  obtain ⟨p,hp⟩:=hobj k j o hj ho
  have hb2:=hb
  rw[hblk k j hj] at hb2
  refine ⟨?_,?_,?_⟩
  ·have h1:=(h.own j p b hp hb2).1
   simp only[aR,h1]
   rw[if_neg]
   rintro ⟨_,j',p',hnin,hp',hb3⟩
   have:=h.sep j j' p p' b hp hp' hb2 hb3
   subst this
   exact hnin (adh hj)
  ·by_cases hr:ro≤k
   ·exact .inr ⟨(abA.1 ho).1,.inl ⟨k,o,hr,ho,hb⟩⟩
   ·exact .inr ⟨(abA.1 ho).1,.inr (by show k<ro;omega)⟩
  ·by_cases hr:ro≤k
   ·exact .inl (.inr ⟨k,o,hr,ho,hb⟩)
   ·exact .inr ⟨(abA.1 ho).1,by show k<ro;omega⟩
 ·simp only[aR] at hb
  cases hm:E.mem b with
  | some c=>rw[hm] at hb;cases hb;exact h.mem b _ hm
  | none=>
   rw[hm] at hb
   simp only at hb
   split at hb
   ·split at hb
    ·rename_i c T fr hw
     cases hb;exact ⟨T,fr,hw⟩
    ·cases hb
   ·cases hb
 ·simp only[aR]
  rw[asF (by rw[hlen];exact hk)];rfl
def fI (E E' : Env) (w : World) : Env :=
  { hd := E.hd
    mem := fun b => match E.mem b with
      | some cs => some cs
      | none => if w.heap.size ≤ b then E'.mem b else none
    tm := E.tm, ws := E.ws, I := E.I, k := E.k }
theorem sF:∀(js:List Nat),distinct js=true→∀r,distinct (js.drop r)=true
 | [],_,r=>by simp[distinct]
 | i :: js,hd,0=>hd
 | i :: js,hd,r+1=>by
  simp only[distinct,agw] at hd
  simpa using sF js hd.2 r
theorem u6 (js:List Nat):∀(cs:List SV) (k:Nat),(nA js cs)[k]?=(cs[k]?).map (pY js)
 | [],k=>by simp[nA]
 | c :: cs,0=>by simp[nA]
 | c :: cs,k+1=>by simp[nA,u6 js cs k]
theorem o9 (js:List Nat):∀(cs:List SV),(nA js cs).length=cs.length
 | []=>rfl
 | c :: cs=>by simp[nA,o9 js cs]
theorem apH {E E':Env} {w:World} {js:List Nat} (hb:∀b,w.heap.size≤b→E.tm b) (hb':E'.tm=fun b=>w.heap.size≤b) (hhd:∀k,k<js.length→E'.hd k=(js[k]?).bind E.hd)
  (hmem:∀b cs,E'.mem b=some cs→(fI E E' w).mem b=some cs) {v:Value} {s:SV} (h:aM E' v s):aM (fI E E' w) v (pY js s):=by
 cases h with
 | p fr v d hp=>
  refine .p fr v d (hp.mono fun b cs hm=>?_)
  cases fr with
  | false=>exact hmem b cs hm
  | true=>
   simp only[Env.m] at hm ⊢
   split at hm
   ·rename_i hle
    rw[hb'] at hle
    rw[if_pos (show (fI E E' w).tm b from hb b hle)]
    exact hmem b cs hm
   ·cases hm
 | el i sz j off b n cap hh=>exact .any _
 | sub i sz lo n b n' cap c a hh hle hc ha=>exact .any _
 | full a n f h=>exact .any _
 | asl i N lo n b c a hh hle hc ha=>exact .any _
 | mp i r hh=>
  simp only[pY,d9]
  cases hj:js[i]? with
  | none=>exact .any _
  | some j=>
   have hi:i<js.length:=(abA.1 hj).1
   rw[hhd i hi,hj] at hh
   exact .mp _ r hh
 | own i off b hh=>
  simp only[pY,d9]
  cases hj:js[i]? with
  | none=>exact .any _
  | some j=>
   have hi:i<js.length:=(abA.1 hj).1
   rw[hhd i hi,hj] at hh
   exact .own j off b hh
 | row i v hh hs=>
  simp only[pY,d9]
  cases hj:js[i]? with
  | none=>exact .any _
  | some j=>
   have hi:i<js.length:=(abA.1 hj).1
   rw[hhd i hi,hj] at hh
   exact .row j _ hh hs
 | agg=>exact .any _
 | tup=>exact .any _
 | fn=>exact .any _
 | any=>exact .any _
theorem akH {C:Ctx} {E:Env} {st:St} {w w':World} (h:bq C E st w) {js:List Nat} (hd:distinct js=true) {lend:Bool} {S:Spec} {a:S.A} (hm:nL st js js (S.objs a))
  (hge:nD C.ro (dJ S.ro js)=true) (hl':(S.objs' a).length=(dJ S.ro js).length) (hlend:lend=true→S.fresh=true∧dJ S.ro js=[])
  {nw:Bool} (htr:nw=true→∀b,C.base≤b→C.tm b) (hnw:nw=true∨dJ S.ro js=[])
  {E':Env} (h':bq (kP w (aR E st w js lend (S.objs a) S.ro fun b=>w.heap.size≤b) (S.objs a) S.ro) E' (iI (S.post a)) w') :
  bq C (fI E E' w) { st with ob:=ku js (dJ S.ro js) (S.objs' a) st.ob } w'∧E.Le (fI E E' w) ∧
   ∀v d,aO (E'.m S.fresh) v d→aO ((fI E E' w).m (S.fresh&&nw)) v d:=by
 obtain ⟨hlen,hget⟩:=mJ st js js _ hm
 rw[qA] at *
 have hobj:∀(k j:Nat) (o:Ob),js[k]?=some j→(S.objs a)[k]?=some o→∃o',st.obj j=some o':=by
  intro k j o hj ho
  have:=hget k j o hj ho
  unfold obM at this
  cases hst:st.obj j with
  | some o'=>exact ⟨o',rfl⟩
  | none=>rw[hst] at this;split at this<;>exact this.elim
 have hob:∀(k j:Nat),js[k]?=some j→∃o o',(S.objs a)[k]?=some o∧st.obj j=some o':=by
  intro k j hj
  have hk:k<(S.objs a).length:=by rw[←hlen];exact (abA.1 hj).1
  obtain ⟨o',ho'⟩:=hobj k j _ hj (abn hk)
  exact ⟨_,o',abn hk,ho'⟩
 have hle:E.Le (fI E E' w):=⟨fun _ _ h=>h,fun b cs hb=>by simp[fI,hb],rfl⟩
 obtain ⟨hk',hI',hws'⟩:E'.k=none∧E'.I=kE (aR E st w js lend (S.objs a) S.ro fun b=>w.heap.size≤b).hd (S.objs a) S.ro∧E'.ws=w:=h'.fr.sync
 have hsize:w.heap.size≤w'.heap.size:=by have:=h'.fr.wsz;rw[hws'] at this;exact this
 have hb0:nw=true→∀b,w.heap.size≤b→E.tm b:=fun hn b hb=>by rw[h.base];exact htr hn b (aln (aln h.fr.bsz h.fr.wsz) hb)
 -- which old blocks may have turned
 have keep:∀b,b<w.heap.size→w'.heap[b]?=w.heap[b]?∨∃(p j:Nat) (o:Ob),(js.drop S.ro)[p]?=some j∧st.obj j=some o∧E.blk j=some b:=by
  intro b hb
  by_cases hbor:(kP w (aR E st w js lend (S.objs a) S.ro fun b=>w.heap.size≤b) (S.objs a) S.ro).bor b
  ·obtain ⟨k,o,hk,ho,hbk⟩:=hbor
   have hkl:k<js.length:=by rw[hlen];exact (abA.1 ho).1
   have hj:js[k]?=some js[k]:=abn hkl
   obtain ⟨o1,o2,_,ho2⟩:=hob k _ hj
   refine .inr ⟨k-S.ro,js[k],o2,by rw[aqX,show S.ro+(k-S.ro)=k by omega];exact hj,ho2,?_⟩
   have:(aR E st w js lend (S.objs a) S.ro fun b=>w.heap.size≤b).blk k=E.blk js[k]:=by simp[Env.blk,aR,hj]
   rw[←this];exact hbk
  ·have:=h'.fr.block b (by rw[hws'];exact hb) (by rw[hI'];exact hbor)
   rw[hws'] at this
   exact .inl this
 have memeq:∀b cs,E.mem b=some cs→w'.heap[b]?=w.heap[b]?:=by
  intro b cs hb
  rcases keep b (h.lY hb) with h1 | ⟨p,j,o,_,h2,h3⟩
  ·exact h1
  ·rw[(h.own j o b h2 h3).1] at hb;cases hb
 -- the callee's memory,where nothing was lent
 have hmem:lend=false→∀b cs,E'.mem b=some cs→(fI E E' w).mem b=some cs:=by
  intro hl b cs hb
  subst hl
  simp only[fI]
  rcases h'.memnew b cs hb with h1 | h1
  ·have:=lS (t:=fun b=>w.heap.size≤b) (os:=S.objs a) (ro:=S.ro) h1;rw[this]
  ·cases hm:E.mem b with
   | some c=>have:=h.lY hm;have h2:w.heap.size≤b:=h1.1;omega
   | none=>simp only;rw[if_pos (show w.heap.size≤b from h1.1)];exact hb
 have hnew0:∀b cs,E'.m true b=some cs→w.heap.size≤b∧(fI E E' w).mem b=some cs:=by
  intro b cs hb
  have hbase:E'.tm=fun b=>w.heap.size≤b:=h'.base
  simp only[Env.m] at hb
  split at hb
  ·rename_i hle
   rw[hbase] at hle
   have hle:w.heap.size≤b:=hle
   refine ⟨hle,?_⟩
   simp only[fI]
   cases hm:E.mem b with
   | some c=>have:=h.lY hm;omega
   | none=>simp only;rw[if_pos (by omega)];exact hb
  ·cases hb
 have hnew:nw=true→∀b cs,E'.m true b=some cs→(fI E E' w).m true b=some cs:=by
  intro hn b cs hb
  obtain ⟨h1,h2⟩:=hnew0 b cs hb
  simp only[Env.m]
  rw[if_pos (show (fI E E' w).tm b from hb0 hn b h1)]
  exact h2
 have look':∀j,((∀p:Nat,(js.drop S.ro)[p]?=some j→(St.obj { st with ob:=ku js (js.drop S.ro) (S.objs' a) st.ob } j)=((S.objs' a)[p]?).map (sQ js))∧(j∉js.drop S.ro→St.obj { st with ob:=ku js (js.drop S.ro) (S.objs' a) st.ob } j=st.obj j)):=by
  intro j
  have hdd:distinct (js.drop S.ro)=true:=sF js hd _
  obtain ⟨h1,h2⟩:=ru js (js.drop S.ro) (S.objs' a) st.ob hdd hl'.symm j
  refine ⟨fun p hp=>?_,fun hj=>?_⟩
  ·unfold St.obj;simp only;rw[h1 p hp]
   cases (S.objs' a)[p]?<;>rfl
  ·unfold St.obj;simp only;rw[h2 hj]
 -- what an object is now
 have cases':∀j o,St.obj { st with ob:=ku js (js.drop S.ro) (S.objs' a) st.ob } j=some o →
   (st.obj j=some o∧j∉js.drop S.ro)∨∃(p:Nat) (o0 o1:Ob),(js.drop S.ro)[p]?=some j∧(S.objs' a)[p]?=some o0∧o=sQ js o0∧st.obj j=some o1:=by
  intro j o ho
  by_cases hj:j∈js.drop S.ro
  ·obtain ⟨p,hp⟩:=asD hj
   rw[(look' j).1 p hp] at ho
   cases h0:(S.objs' a)[p]? with
   | none=>simp[h0] at ho
   | some o0=>
    simp[h0] at ho
    have hp2:=hp
    rw[aqX] at hp2
    obtain ⟨_,o2,_,ho2⟩:=hob _ _ hp2
    exact .inr ⟨p,o0,o2,hp,h0,ho.symm,ho2⟩
  ·exact .inl ⟨by rw[←(look' j).2 hj];exact ho,hj⟩
 have was:∀j o,St.obj { st with ob:=ku js (js.drop S.ro) (S.objs' a) st.ob } j=some o→∃o',st.obj j=some o':=by
  intro j o ho
  rcases cases' j o ho with ⟨h1,_⟩ | ⟨p,o0,o1,_,_,_,h1⟩
  ·exact ⟨o,h1⟩
  ·exact ⟨o1,h1⟩
 refine ⟨⟨fun j o ho=>?_,fun i j o o' b ho ho' hb hb'=>?_,fun j o b ho hb=>?_,fun b cs hb=>?_,fun b cs hb=>hle.mem _ _ (h.mem0 b cs hb),fun b cs hb=>?_,h.new,h.base,?_,h.hd0,h.mno,h.mkh,h.kk⟩,hle,fun v d hp=>?_⟩
 ·rcases cases' j o ho with ⟨h1,h2⟩ | ⟨p,o0,o1,hp,h0,rfl,h1⟩
  ·refine ((h.ob j o h1).mono hle).world fun b hb=>?_
   have hb':E.blk j=some b:=hb
   rcases keep b ((h.ob j o h1).gq hb') with h3 | ⟨q,i,o2,hq,h4,h5⟩
   ·exact h3
   ·have:=h.sep j i o o2 b h1 h4 hb' h5
    subst this
    exact absurd (adh hq) h2
  ·have hlf:lend=false:=by
    cases hlb:lend with
    | false=>rfl
    | true=>have:=(hlend hlb).2;rw[this] at hp;simp at hp
   have hnt:nw=true:=hnw.resolve_right fun e=>by rw[e] at hp;simp at hp
   have hp2:=hp
   rw[aqX] at hp2
   have hk:S.ro+p<(S.objs a).length:=by rw[←hlen];exact (abA.1 hp2).1
   have hpost:(S.post a)[S.ro+p]?=some o0:=by
    rw[agN,if_neg (by omega),show S.ro+p-min S.ro (S.objs a).length=p by omega];exact h0
   have hrep:=h'.ob (S.ro+p) o0 (by rw[dP];exact hpost)
   have hhd:∀k,k<js.length→E'.hd k=(js[k]?).bind E.hd:=fun k hk=>h'.hd0 k (by show k<(S.objs a).length;omega)
   have hhk:E'.hd (S.ro+p)=E.hd j:=by rw[hhd _ (by omega),hp2];rfl
   cases hrep with
   | cells b T vs cs hh hw hl h1' he=>
    exact .cells b T vs _ (hhk.symm.trans hh) hw (by rw[o9];exact hl) h1' fun k u s hu hs=>by
     rw[u6] at hs
     cases hc:cs[k]? with
     | none=>simp[hc] at hs
     | some c=>simp[hc] at hs;subst hs;exact apH (hb0 hnt) h'.base hhd (hmem hlf) (he k u c hu hc)
   | row T sz n f v xs u hh hw hmax hl hc he=>
    exact .row T sz n f v xs u (hhk.symm.trans hh) hw hmax hl hc fun j k s hj hs=>(he j k s hj hs).mono (hmem hlf)
   | arr b T vs n f u hh hw hs hc he=>exact .arr b T vs n f u (hhk.symm.trans hh) hw hs hc fun k hk=>(he k hk).mono (hmem hlf)
   | map r es clock kt n get hh hw h1 h2 h3 h4=>exact .map r es clock kt n get (hhk.symm.trans hh) hw h1 h2 h3 (h4.mono (hmem hlf))
 ·obtain ⟨o1,h1⟩:=was i o ho
  obtain ⟨o2,h2⟩:=was j o' ho'
  exact h.sep i j o1 o2 b h1 h2 hb hb'
 ·obtain ⟨o1,h1⟩:=was j o ho
  obtain ⟨g1,g2⟩:=h.own j o1 b h1 hb
  refine ⟨?_,g2⟩
  simp only[fI,g1]
  rw[if_neg]
  have:=(h.ob j o1 h1).gq hb
  omega
 ·simp only[fI] at hb
  cases hm:E.mem b with
  | some c=>
   rw[hm] at hb;cases hb
   obtain ⟨T,fr,hw⟩:=h.mem b _ hm
   exact ⟨T,fr,by rw[memeq b _ hm];exact hw⟩
  | none=>
   rw[hm] at hb
   simp only at hb
   split at hb
   ·exact h'.mem b cs hb
   ·cases hb
 ·simp only[fI] at hb
  cases hm:E.mem b with
  | some c=>rw[hm] at hb;cases hb;exact h.memnew b _ hm
  | none=>
   rw[hm] at hb
   simp only at hb
   split at hb
   ·right;have:=h.fr.bsz;have:=h.fr.wsz;exact ⟨by omega,.inl (by show E.ws.heap.size≤b;omega)⟩
   ·cases hb
 ·refine ⟨h'.fr.os.trans h.fr.os,h'.fr.tape.trans h.fr.tape,h'.fr.output.trans h.fr.output,h.fr.bsz,aln h.fr.wsz hsize,h.fr.wos,h.fr.isz,fun k hk hbor=>?_,h.fr.sync⟩
  have hkw:k<w.heap.size:=aov hk h.fr.wsz
  rcases keep k hkw with h1 | ⟨p,j,o,hp,h2,h3⟩
  ·rw[h1];exact h.fr.block k hk hbor
  ·have hj:=oM _ hge p j hp
   rcases (h.own j o k h2 h3).2.2 with (h4 | h4) | h4
   ·have hk2:k<E.ws.heap.size:=hk;omega
   ·exact absurd h4 hbor
   ·omega
 ·cases hf:S.fresh with
  | true=>
   rw[hf] at hp
   cases hn:nw with
   | true=>exact hp.mono (hnew hn)
   | false=>exact hp.mono fun b cs hb=>(hnew0 b cs hb).2
  | false=>
   rw[hf] at hp
   have hlf:lend=false:=by
    cases hlb:lend with
    | false=>rfl
    | true=>have:=(hlend hlb).1;rw[hf] at this;cases this
   exact hp.mono (hmem hlf)
theorem aeA {E E':Env}:∀(cs cs':List SV) (vs vs':List Value),yc cs cs'→vs.length=cs.length→vs'.length=cs'.length →
  (∀(k:Nat) (u:Value) (s:SV),vs[k]?=some u→cs[k]?=some s→aM E u s)→(∀(k:Nat) (u:Value) (s:SV),vs'[k]?=some u→cs'[k]?=some s→aM E' u s)→vs=vs'
 | [],[],[],[],_,_,_,_,_=>rfl
 | .p f (.val a) :: l,.p g (.val b) :: l',v :: vs,v' :: vs',h,h1,h2,h3,h4=>by
  obtain ⟨rfl,h⟩:=h
  have e1:=h3 0 v _ rfl rfl
  have e2:=h4 0 v' _ rfl rfl
  have e:v=v':=by cases e1 with | p _ _ _ h=>cases h;cases e2 with | p _ _ _ h=>cases h;rfl
  rw[e,aeA l l' vs vs' h (by simpa using h1) (by simpa using h2) (fun k u s a b=>h3 (k+1) u s (by simpa using a) (by simpa using b)) (fun k u s a b=>h4 (k+1) u s (by simpa using a) (by simpa using b))]
theorem acI {st:St}:∀(js:List Nat) (os:List Ob),acV st js os→∀(k j:Nat),js[k]?=some j→∃o,os[k]?=some o∧afG st j o
 | [],_,_,k,j,hk=>by simp at hk
 | i :: js,[],h,_,_,_=>by simp[acV] at h
 | i :: js,o :: os,h,k,j,hk=>by
  cases k with
  | zero=>simp at hk;subst hk;exact ⟨o,rfl,h.1⟩
  | succ k=>exact acI js os h.2 k j (by simpa using hk)
theorem aii {E E':Env} {st:St} {w w':World} {j:Nat} {o o':Ob} (h:afG st j o) (hh:∀b,E.hd j=b→E'.hd j=b) (h1:∀o,st.obj j=some o→cZ E w j o)
  (h2:cZ E' w' j o') (h3:∀T cs cs',o=.cells T cs→yc cs cs'→∃ds,o'=.cells T ds∧yc ds cs') {b:Nat} (hb:E.blk j=some b):w'.heap[b]?=w.heap[b]?:=by
 unfold afG at h
 split at h
 ·rename_i T cs
  split at h
  ·rename_i T' cs' hst
   obtain ⟨rfl,hs⟩:=h
   obtain ⟨ds,rfl,hds⟩:=h3 T cs cs' rfl hs
   have r1:=h1 _ hst
   cases r1 with
   | cells b1 _ vs1 _ hh1 hw1 hl1 _ he1=>
    cases h2 with
    | cells b2 _ vs2 _ hh2 hw2 hl2 _ he2=>
     have e:=hh _ hh1
     rw[hh2] at e;cases e
     have e2:b1=b:=by simpa [Env.blk,hh1,aG] using hb
     subst e2
     have:=aeA ds cs' vs2.toList vs1.toList hds (by simpa using hl2) (by simpa using hl1) (fun k u s a b=>he2 k u s (by simpa using a) b) (fun k u s a b=>he1 k u s (by simpa using a) b)
     rw[hw1,hw2,Array.toList_inj.1 this]
  ·exact h.elim
 ·exact h.elim
theorem aeJ (js:List Nat):∀(cs cs':List SV),yc cs cs'→yc (nA js cs) cs'
 | [],[],_=>trivial
 | .p _ (.val _) :: l,.p _ (.val _) :: l',h=>⟨h.1,aeJ js l l' h.2⟩
theorem mX {P:Program} {f:Nat} {fn:Func} (hf:P.funcs[f]?=some fn) (hb:fn.body.isSome=true) (hn:(fn.name=="runtime.NumGoroutine")=false) (args:Array Value) (w:World):(callFunc f args).run P w=.ok (.enter f args) w:=by
 have hb':¬fn.body=none:=by intro h;simp[h] at hb
 have hn':¬fn.name="runtime.NumGoroutine":=by simpa using hn
 simp[callFunc,hf,hn',hb']
theorem abb {C:Ctx} {E:Env} {st:St} {a:Act} {w:World} (h:aA C E st a w) {X:bB} (hnt:C.nt=X.nt) (hro:C.ro=X.ro) {d:Option Nat} (hd:bQ X.nt d=true)
  {f:Nat} {args:List SV} {vs:Array Value} (hsz:vs.size=args.length) (hvs:∀(k:Nat) (u:Value) (s:SV),vs[k]?=some u→args[k]?=some s→aM E u s) {K:St→Prop} {gr:Bool} (hgl:∀p∈X.gl,C.mem0 p.1=some p.2) (htr:X.nw=true→∀b,C.base≤b→C.tm b) (hk:aaE X gr f args d st K) {next:Act→World→Prop}
  (hn:∀st' E' a' w',K st'→aA C E' st' a' w'→(gr=true→Grow w w')→next a' w') :
  (∃fn,X.P.funcs[f]?=some fn∧fn.body.isSome=true∧(fn.name=="runtime.NumGoroutine")=false)∧Calls X.P f vs w fun e w'=>∃v,e=.returned v∧next (a.put d v) w':=by
 obtain ⟨S,⟨hfn,hS⟩,a0,js,⟨hdist,hge0,hjl,hl',hgr,hlend,hgls⟩,hargs,hobs,hpre,hk⟩:=hk
 obtain ⟨hnw0,hge⟩:=at6.1 hge0
 have hnw:X.nw=true∨dJ S.ro js=[]:=(Bool.or_eq_true_iff.1 hnw0).imp id fun e=>by
  cases hj:dJ S.ro js with
  | nil=>rfl
  | cons x l=>rw[hj] at e;cases e
 refine ⟨hfn,?_⟩
 obtain ⟨lend,hlb⟩:∃b,b=(jg args (S.args a0)).or (jM st js (S.objs a0)):=⟨_,rfl⟩
 rw[←hlb] at hlend
 obtain ⟨hal,hag⟩:=rE st js _ _ hargs
 have hheap:bq (kP w (aR E st w js lend (S.objs a0) S.ro fun b=>w.heap.size≤b) (S.objs a0) S.ro) _ _ _:=qU h.heap hdist (lend:=lend) (ro:=S.ro) (t:=fun b=>w.heap.size≤b) hobs (fun h1=>by rw[hlb,h1];simp)
 have hA:jV (aR E st w js lend (S.objs a0) S.ro fun b=>w.heap.size≤b) vs (S.args a0):=by
  refine ⟨by omega,fun k u c hu hc=>?_⟩
  have hka:k<args.length:=by rw[←hsz];exact (abB.1 hu).1
  have hs:args[k]?=some args[k]:=abn hka
  obtain ⟨l1,l2⟩:=lM args (S.args a0) k
  exact qE h.heap (hag k _ c hs hc) (fun hl=>by rw[hlb,l1 _ c hs hc hl];rfl)
   (fun f l f' m e1 e2 e3=>by rw[hlb,l2 f l f' m (by rw[hs,e1]) (by rw[hc,e2]) e3];rfl) (hvs k u _ hu hs)
 refine (hS a0 hpre _ vs w (fun p hp=>fC (h.heap.mem0 _ _ (hgl p (hgls.elim (fun e=>by rw[e] at hp;cases hp) (fun e=>e▸hp))))) hheap hA).mono fun e w' ⟨v,E',he,hv,hh⟩=>⟨v,he,?_⟩
 obtain ⟨g1,g2,g3⟩:=akH h.heap hdist hobs (by rw[hro];exact hge) hl' hlend htr hnw hh
 obtain ⟨_,hI',hws'⟩:E'.k=none∧E'.I=kE (aR E st w js lend (S.objs a0) S.ro fun b=>w.heap.size≤b).hd (S.objs a0) S.ro∧E'.ws=w:=hh.fr.sync
 have hblock:∀b,b<w.heap.size→¬kE (aR E st w js lend (S.objs a0) S.ro fun b=>w.heap.size≤b).hd (S.objs a0) S.ro b→w'.heap[b]?=w.heap[b]?:=fun b hb hn=>by
  have:=hh.fr.block b (by rw[hws'];exact hb) (by rw[hI'];exact hn)
  rw[hws'] at this;exact this
 have hwsz:w.heap.size≤w'.heap.size:=by have:=hh.fr.wsz;rw[hws'] at this;exact this
 have hnc:iC w w':=by
  intro D o ho hc
  have hD:=(abB.1 ho).1
  have:=hblock D hD (by
   rintro ⟨k,o1,hk1,hk2,hk3⟩
   have hr:=hheap.ob k o1 (by rw[dP];exact hk2)
   cases hr with
   | cells b T vs cs hh2 hw2 _ _ _=>
    simp[Env.blk,hh2,aG] at hk3;subst hk3;rw[hw2] at ho;cases ho;cases hc
   | row T sz n f v xs u hh2 hw2 _ _ _ _=>
    rcases hw2.2 with ⟨rfl,_⟩ | ⟨g,cap,cur,rfl,_,hg,_⟩
    ·simp[Env.blk,hh2,aG] at hk3
    ·simp[Env.blk,hh2,aG] at hk3;subst hk3;rw[hg] at ho;cases ho;cases hc
   | arr b T vs n f u hh2 hw2 _ _ _=>simp[Env.blk,hh2,aG] at hk3;subst hk3;rw[hw2] at ho;cases ho;cases hc
   | map r es clock kt n get hh2 hw2 _ _ _ _=>simp[Env.blk,hh2,aG] at hk3;subst hk3;rw[hw2] at ho;cases ho;cases hc)
  rw[this];exact ho
 refine dM (h.fQ (st':={ st with ob:=ku js (dJ S.ro js) (S.objs' a0) st.ob }) g2 rfl g1 ⟨rfl,rfl⟩ hnc) hnt hd hk (.p _ _ _ (g3 v _ hv)) fun st' E2 a' w2 hk' h' hw=>hn st' E2 a' w2 hk' h' fun hg=>?_
 subst hw
 obtain ⟨hol,_⟩:=mJ st js js _ hobs
 rw[qA] at hgr
 refine ⟨hwsz,fun b hb=>?_⟩
 by_cases hbor:kE (aR E st w js lend (S.objs a0) S.ro fun b=>w.heap.size≤b).hd (S.objs a0) S.ro b
 ·obtain ⟨k,o,hk1,hk2,hk3⟩:=hbor
  have h1:k<js.length:=by rw[hol];exact (abA.1 hk2).1
  rcases hgr hg with hemp | hsame
  ·have h2:(js.drop S.ro).length=0:=by rw[hemp];rfl
   rw[arP] at h2
   omega
  ·have hjk:js[k]?=some js[k]:=abn h1
   have hjd:(js.drop S.ro)[k-S.ro]?=some js[k]:=by rw[aqX,show S.ro+(k-S.ro)=k by omega];exact hjk
   obtain ⟨o1,ho1,hso⟩:=acI _ _ hsame _ _ hjd
   have hbl:E.blk js[k]=some b:=by
    have e:(aR E st w js lend (S.objs a0) S.ro fun b=>w.heap.size≤b).hd k=E.hd js[k]:=by simp[aR,hjk]
    rw[e] at hk3;exact hk3
   have hob:St.obj { st with ob:=ku js (dJ S.ro js) (S.objs' a0) st.ob } js[k]=some (sQ js o1):=by
    rw[qA] at hl' ⊢
    obtain ⟨q,_⟩:=ru js (js.drop S.ro) (S.objs' a0) st.ob (sF js hdist _) hl'.symm js[k]
    unfold St.obj;simp only;rw[q _ hjd,ho1];rfl
   refine aii (E:=E) (E':=fI E E' w) (o':=sQ js o1) hso (fun _ e=>e) (fun o e=>h.heap.ob _ o e) (g1.ob _ _ hob) (fun T cs cs' e hs=>?_) hbl
   subst e;exact ⟨_,rfl,aeJ js _ _ hs⟩
 ·exact hblock b hb hbor
structure kC (W W':World):Prop where
 size:W.heap.size≤W'.heap.size
 same:∀(k:Nat) (o:Obj),W.heap[k]?=some o→yu o=false→W'.heap[k]?=some o
theorem kC.refl (W:World):kC W W:=⟨aha _,fun _ _ h _=>h⟩
theorem kC.trans {A B C:World} (h:kC A B) (k:kC B C):kC A C:=
 ⟨aln h.size k.size,fun i o hi ho=>k.same i o (h.same i o hi ho) ho⟩
theorem gI.refl (I:Nat→Prop) (μ:Nat→Option (Array Value)) (W:World):gI I μ W W:=⟨rfl,rfl,rfl,aha _,fun _ _=>rfl,fun _ _ _ h=>h⟩
theorem gI.trans {I:Nat→Prop} {μ:Nat→Option (Array Value)} {A B C:World} (h:gI I μ A B) (k:gI I μ B C):gI I μ A C:=
 ⟨k.os.trans h.os,k.tape.trans h.tape,k.output.trans h.output,aln h.size k.size,fun b hb=>(k.own b hb).trans (h.own b hb),fun b cs hm ha=>k.mem b cs hm (h.mem b cs hm ha)⟩
theorem gI.putObj {I:Nat→Prop} {μ:Nat→Option (Array Value)} {W:World} {l:Nat} {o:Obj} (o':Obj) (hl:W.heap[l]?=some o) (ho:yu o=false) (hI:¬I l):gI I μ W (W.putObj l o'):=
 ⟨rfl,rfl,rfl,by simp,fun b hb=>World.putObj_heap_other (fun e=>hI (e▸hb)),fun b cs _ ⟨T,fr,ha⟩=>⟨T,fr,by
  rw[World.putObj_heap_other (fun e=>by subst e;rw[hl] at ha;cases ha;cases ho)];exact ha⟩⟩
def zi (B:Nat) (K:(Nat→Prop)→World→Prop):Prop:=∀(I I':Nat→Prop) (W W':World),K I W→(∀b,I b→I' b)→(∀b,I' b→I b∨W.heap.size≤b)→(∀b,I' b→b<W'.heap.size) →
 W'.os=W.os→W'.tape=W.tape→W'.output=W.output→W.heap.size≤W'.heap.size→(∀b o,W.heap[b]?=some o→¬I b→(b<B∨yu o=true)→W'.heap[b]?=some o)→K I' W'
theorem zi.mono {B B':Nat} {K:(Nat→Prop)→World→Prop} (h:zi B K) (hB:B≤B'):zi B' K:=
 fun I I' W W' k h1 h2 h2' h3 h4 h5 h6 h7=>h I I' W W' k h1 h2 h2' h3 h4 h5 h6 fun b o hb hI hc=>h7 b o hb hI (hc.imp (fun x=>by omega) id)
theorem zi.put {B:Nat} {K:(Nat→Prop)→World→Prop} (h:zi B K) {I:Nat→Prop} {W:World} (hK:K I W) (hI:∀b,I b→b<W.heap.size) {l:Nat} {o:Obj} (o':Obj) (hB:B≤l) (hl:W.heap[l]?=some o) (ho:yu o=false):K I (W.putObj l o'):=
 h I I W _ hK (fun _ h=>h) (fun _ h=>.inl h) (fun b hb=>by simpa using hI b hb) rfl rfl rfl (by simp) fun b o2 hb _ hc=>by
  rw[World.putObj_heap_other]
  ·exact hb
  ·rintro rfl
   rw[hl] at hb;cases hb
   rcases hc with hc | hc
   ·omega
   ·rw[ho] at hc;cases hc
def ajl (P:Program) (g:Nat) (lb:Array Value) (μ:Nat→Option (Array Value)) (xs:List (List PV)):Prop:=
 ∀(l:Nat) (J:Option Nat→(Nat→Prop)→World→Prop) (W:World),ac8 J →
  (∀(k:Nat) (x:List PV) (us:Array Value) (I:Nat→Prop) (W1:World),xs[k]?=some x→aej μ us x→J (some k) I W1→YieldAt Fence.wide 9 P l us W1 fun e W'=>
   gI I μ W1 W'∧((e=.returned (.bool true)∧J (some (k+1)) I W')∨(e=.returned (.bool false)∧J none I W'))) →
  J (some 0) (fun _=>False) W→acF μ W →
  CallsIn Fence.wide 9 P g (#[.func (.yield l) #[] #[]]++lb) W fun e W'=>(∃v,e=.returned v)∧∃I k,J k I W'∧(k=some xs.length∨k=none)
def roundEnd (μ:Nat→Option (Array Value)) (K:Nat→(Nat→Prop)→World→Prop) (Kx:Code→(Nat→Prop)→World→Prop) (k:Nat) (I:Nat→Prop) (W:World):Exit→Act→World→Prop
 | .normal,_,W'=>kC W W'∧gI I μ W W'∧K (k+1) I W'
 | .ret,_,W'=>kC W W'∧gI I μ W W'∧Kx .ret I W'
 | .exit id,_,W'=>kC W W'∧gI I μ W W'∧Kx (.exit id) I W'
 | _,_,_=>False
theorem wC {n m:Nat} {P:Program} {f:FuncId} {args:Array Value} {w:World} {R:Ending→World→Prop}
  (h:CallsIn Fence.wide n P f args w R):CallsIn Fence.wide m P f args w R:=callsIn_wide.2 (callsIn_wide.1 h)
theorem an1 {P:Program} {g:Operand} {ps:Array Tmp} {assign body:Code} {Q:Exit→Act→World→Prop} {a:Act} {w:World}
  {gf:Nat} {lb:Array Value} (hg:a.eval g=.func (.func gf) #[] lb) (eg:∀args w,(callFunc gf args).run P w=.ok (.enter gf args) w)
  {μ:Nat→Option (Array Value)} {xs:List (List PV)} (hseq:ajl P gf lb μ xs) (hμ:acF μ w) (hps:∀x∈xs,x.length=ps.size)
  (K:Nat→(Nat→Prop)→World→Prop) (Kx:Code→(Nat→Prop)→World→Prop) (hK:∀k,zi w.heap.size (K k)) (hKx:∀c,zi w.heap.size (Kx c)) (h0:K 0 (fun _=>False) w)
  (Ax:Nat→Array Value→(Nat→Prop)→Act→World→Prop) (hAx:∀k x a',zi w.heap.size (fun I W=>Ax k x I a' W))
  (hassign:∀(l k:Nat) (x:List PV) (us:Array Value) (I:Nat→Prop) (W:World),xs[k]?=some x→aej μ us x→K k I W→(∀b,I b→w.heap.size≤b∧b<W.heap.size) →
   assign.wpIn (Fence.wide.inRound l) 9 P (Exit.then (fun a' W'=>kC W W'∧gI I μ W W'∧Ax k us I a' W') (fun _ _ _=>False))
    { tmps:=(ps.zip us).foldl (fun t (p,v)=>t.setIfInBounds p v) a.tmps,defers:=[] } W)
  (hbody:∀(l k:Nat) (x:List PV) (us:Array Value) (I:Nat→Prop) (a':Act) (W:World),xs[k]?=some x→aej μ us x→Ax k us I a' W→(∀b,I b→w.heap.size≤b∧b<W.heap.size)→body.wpIn (Fence.wide.inRound l) 9 P (roundEnd μ K Kx k I W) a' W)
  (hdone:∀(D:Nat) (I:Nat→Prop) (W:World),w.heap.size≤D→K xs.length I W→W.heap[D]?=some (.deferred (some []))→Q .normal { a with defers:={ target:=.collected D,args:=#[] } :: a.defers } W)
  (hstop:∀(D:Nat) (c:Code) (I:Nat→Prop) (W:World),w.heap.size≤D→Kx c I W→W.heap[D]?=some (.deferred (some []))→c.wpIn Fence.wide 9 P Q { a with defers:={ target:=.collected D,args:=#[] } :: a.defers } W) :
  (Code.rangeFunc g ps assign body).wpIn Fence.wide 9 P Q a w:=by
 refine wpIn_rangeFunc ?_
 intro fn _
 obtain ⟨rec,hrec⟩:∃rec:LoopState→Option Code→Loop,rec=fun st pe=>{ state:=st,pending:=pe,fn,tmps:=a.tmps,params:=ps,assign,body,defers:=w.heap.size }:=⟨_,rfl⟩
 obtain ⟨W1,hW1⟩:∃W1,(w.alloc (.deferred (some []))).alloc (.loop (rec .ready none))=W1:=⟨_,rfl⟩
 have hL1:W1.heap[w.heap.size+1]?=some (.loop (rec .ready none)):=by
  rw[←hW1];have:=World.alloc_heap_new (w.alloc (.deferred (some []))) (.loop (rec .ready none));rwa [World.size_alloc] at this
 have hK1:W1.heap[w.heap.size]?=some (.deferred (some [])):=by
  rw[←hW1];exact (RowKit.Below.heap_alloc _ _ _ (by simp)).trans (World.alloc_heap_new w _)
 have hold:∀b,b<w.heap.size→W1.heap[b]?=w.heap[b]?:=fun b hb=>by
  rw[←hW1];exact (RowKit.Below.heap_alloc _ _ _ (by simp;omega)).trans (RowKit.Below.heap_alloc _ _ _ hb)
 have hs1:W1.heap.size=w.heap.size+2:=by rw[←hW1];simp
 have hos:W1.os=w.os∧W1.tape=w.tape∧W1.output=w.output:=by rw[←hW1];exact ⟨rfl,rfl,rfl⟩
 have hI1:K 0 (fun _=>False) W1:=hK 0 _ _ _ _ h0 (fun _ h=>h) (fun _ h=>.inl h) (fun _ h=>h.elim) hos.1 hos.2.1 hos.2.2 (by omega) fun b o hb _ _=>by
  rw[hold b (abB.1 hb).1];exact hb
 have hμ1:acF μ W1:=fun b cs hb=>by
  obtain ⟨T,fr,h⟩:=hμ b cs hb
  exact ⟨T,fr,by rw[hold b (abB.1 h).1];exact h⟩
 refine ⟨w.heap.size+1,[{ target:=.collected w.heap.size,args:=#[] }],W1,{ target:=.fn (.func gf) lb,args:=#[.func (.yield (w.heap.size+1)) #[] #[]] },W1,gf,
  #[.func (.yield (w.heap.size+1)) #[] #[]]++lb,W1,?_,?_,?_,?_,by simp[Fence.wide],?_⟩
 ·rw[←hW1,hrec];exact run_enterLoop_outer _ _ _ _ _
 ·simp only[resolve,hg]
  simp[go_sem]
 ·intro f' _;trivial
 ·simp[invoke,go_sem,eg]
 ·-- the loop's own objects
  have keepO:∀{A B:World} {I:Nat→Prop} (b:Nat) (o:Obj),b<w.heap.size+2→(∀b,I b→w.heap.size+2≤b∧b<A.heap.size)→(∀b,b<A.heap.size→¬I b→B.heap[b]?=A.heap[b]?)→A.heap[b]?=some o→B.heap[b]?=some o:=
   fun b o hb hI hs h=>by rw[hs b (abB.1 h).1 (fun hi=>by have:=hI b hi;omega)];exact h
  have grow:∀{A:World} {I I':Nat→Prop},A.heap.size≥w.heap.size+2→(∀b,I b→w.heap.size+2≤b∧b<A.heap.size)→(∀b,I' b→I b∨A.heap.size≤b)→∀b,I' b→w.heap.size+2≤b:=fun hA hI hI' b hb=>by
   rcases hI' b hb with h | h
   ·exact (hI b h).1
   ·omega
  refine (wC (hseq (w.heap.size+1)
   (fun k I W=>(∀b,I b→w.heap.size+2≤b∧b<W.heap.size)∧w.heap.size+2≤W.heap.size∧W.heap[w.heap.size]?=some (.deferred (some []))∧match k with
    | some k=>K k I W∧W.heap[w.heap.size+1]?=some (.loop (rec .ready none))
    | none=>∃c,Kx c I W∧W.heap[w.heap.size+1]?=some (.loop (rec .done (some c))))
   W1
   (fun k I I' A B hj h1 h2 h2' h3 h4 h5 h6 h7=>by
    obtain ⟨j1,j2,j3,j4⟩:=hj
    refine ⟨fun b hb=>⟨grow j2 j1 h2 b hb,h2' b hb⟩,by omega,keepO _ _ (by omega) j1 h7 j3,?_⟩
    cases k with
    | some k=>exact ⟨hK k I I' A B j4.1 h1 h2 h2' h3 h4 h5 h6 (fun b o hb hI _=>by rw[h7 b (abB.1 hb).1 hI];exact hb),keepO _ _ (by omega) j1 h7 j4.2⟩
    | none=>
     obtain ⟨c,c1,c2⟩:=j4
     exact ⟨c,hKx c I I' A B c1 h1 h2 h2' h3 h4 h5 h6 (fun b o hb hI _=>by rw[h7 b (abB.1 hb).1 hI];exact hb),keepO _ _ (by omega) j1 h7 c2⟩)
   ?_ ⟨fun _ h=>h.elim,by omega,hK1,hI1,hL1⟩ hμ1)).mono ?_
  ·-- one round
   rintro k x us I W hx hus ⟨hIb,hsz,hd,hi,hl⟩
   have hI0:∀b,I b→w.heap.size≤b∧b<W.heap.size:=fun b hb=>by have:=hIb b hb;omega
   have hnI:¬I (w.heap.size+1):=fun h=>by have:=hIb _ h;omega
   have hy:=run_yield (P:=P) (args:=us) hl (by rw[hrec,hus.1];exact hps x (adh hx))
   rw[hrec] at hy
   refine ⟨fn,_,assign,body,hy,roundIn_of_wpIn trivial (wpIn_mono (hassign _ k x us I W hx hus hi hI0) ?_)⟩
   rintro e a' Wa hp
   cases e with
   | normal=>
    obtain ⟨hka,hkpa,hax⟩:=hp
    have hla:=hka.same _ _ hl rfl
    have hda:=hka.same _ _ hd rfl
    have hlta:w.heap.size+1<Wa.heap.size:=(abB.1 hla).1
    refine ⟨_,run_beginRound hla (by rw[hrec]),?_⟩
    have hl2:(Wa.putObj (w.heap.size+1) (.loop { rec .ready none with state:=.busy })).heap[w.heap.size+1]?=some (.loop { rec .ready none with state:=.busy }):=World.putObj_heap_same hlta
    have hd2:(Wa.putObj (w.heap.size+1) (.loop { rec .ready none with state:=.busy })).heap[w.heap.size]?=some (.deferred (some [])):=(World.putObj_heap_other (by omega)).trans hda
    have hkp2:gI I μ Wa (Wa.putObj (w.heap.size+1) (.loop { rec .ready none with state:=.busy })):=gI.putObj _ hla rfl hnI
    have hIa:∀b,I b→b<Wa.heap.size:=fun b hb=>aov (hI0 b hb).2 hka.size
    have hax2:=(hAx k us a').put hax hIa (.loop { rec .ready none with state:=.busy }) (by omega) hla rfl
    refine wpIn_mono (hbody _ k x us I a' _ hx hus hax2 fun b hb=>⟨(hI0 b hb).1,by simpa using hIa b hb⟩) ?_
    have fin:∀(jump:Option Code) (W3:World),kC (Wa.putObj (w.heap.size+1) (.loop { rec .ready none with state:=.busy })) W3→gI I μ (Wa.putObj (w.heap.size+1) (.loop { rec .ready none with state:=.busy })) W3 →
      (Instr.endRound (w.heap.size+1) jump).run P W3=.ok (.bool jump.isNone) (W3.putObj (w.heap.size+1) (.loop (rec (if jump.isNone then .ready else .done) jump))) ∧
      W3.heap[w.heap.size+1]?=some (.loop { rec .ready none with state:=.busy }) ∧
      (W3.putObj (w.heap.size+1) (.loop (rec (if jump.isNone then .ready else .done) jump))).heap[w.heap.size+1]?=some (.loop (rec (if jump.isNone then .ready else .done) jump)) ∧
      (W3.putObj (w.heap.size+1) (.loop (rec (if jump.isNone then .ready else .done) jump))).heap[w.heap.size]?=some (.deferred (some []))∧w.heap.size+2≤W3.heap.size ∧
      gI I μ W (W3.putObj (w.heap.size+1) (.loop (rec (if jump.isNone then .ready else .done) jump))):=fun jump W3 hk3 hp3=>by
     have hl3:=hk3.same _ _ hl2 rfl
     have:=run_endRound (P:=P) jump hl3
     rw[hrec] at this
     refine ⟨by rw[hrec];exact this,hl3,World.putObj_heap_same (abB.1 hl3).1,(World.putObj_heap_other (by omega)).trans (hk3.same _ _ hd2 rfl),?_,hkpa.trans ((hkp2.trans hp3).trans (gI.putObj _ hl3 rfl hnI))⟩
     have:=(abB.1 hl3).1;omega
    have hI3:∀{W3:World},kC (Wa.putObj (w.heap.size+1) (.loop { rec .ready none with state:=.busy })) W3→∀b,I b→b<W3.heap.size:=fun hk3 b hb=>aov (by simpa using hIa b hb) hk3.size
    have hIn:∀{W3:World} {o:Obj},kC (Wa.putObj (w.heap.size+1) (.loop { rec .ready none with state:=.busy })) W3→∀b,I b→w.heap.size+2≤b∧b<(W3.putObj (w.heap.size+1) o).heap.size:=fun hk3 b hb=>⟨(hIb b hb).1,by simpa using hI3 hk3 b hb⟩
    rintro e a3 W3 hp
    cases e with
    | normal=>
     obtain ⟨hk3,hp3,hi3⟩:=hp
     obtain ⟨hr,hl3,hl4,hd4,hs4,hkk⟩:=fin none W3 hk3 hp3
     exact ⟨_,_,hr,hkk,.inl ⟨rfl,hIn hk3,by simpa using hs4,hd4,(hK _).put hi3 (hI3 hk3) _ (by omega) hl3 rfl,hl4⟩⟩
    | ret=>
     obtain ⟨hk3,hp3,hi3⟩:=hp
     obtain ⟨hr,hl3,hl4,hd4,hs4,hkk⟩:=fin (some .ret) W3 hk3 hp3
     exact ⟨_,_,hr,hkk,.inr ⟨rfl,hIn hk3,by simpa using hs4,hd4,.ret,(hKx _).put hi3 (hI3 hk3) _ (by omega) hl3 rfl,hl4⟩⟩
    | exit id=>
     obtain ⟨hk3,hp3,hi3⟩:=hp
     obtain ⟨hr,hl3,hl4,hd4,hs4,hkk⟩:=fin (some (.exit id)) W3 hk3 hp3
     exact ⟨_,_,hr,hkk,.inr ⟨rfl,hIn hk3,by simpa using hs4,hd4,.exit id,(hKx _).put hi3 (hI3 hk3) _ (by omega) hl3 rfl,hl4⟩⟩
    | _=>exact hp.elim
   | _=>exact hp.elim
  ·-- behind the iterator
   rintro e W2 ⟨⟨v,rfl⟩,I,k,⟨hIb,hsz,hd,hj⟩,hk⟩
   rcases hk with rfl | rfl
   ·obtain ⟨hi,hl⟩:=hj
    exact ⟨none,_,by have:=run_endLoop (P:=P) hl (by rw[hrec];simp);rw[hrec] at this;exact this,hdone _ _ _ (aha _) ((hK _).put hi (fun b hb=>(hIb b hb).2) _ (by omega) hl rfl) ((World.putObj_heap_other (by omega)).trans hd)⟩
   ·obtain ⟨c,hi,hl⟩:=hj
    exact ⟨some c,_,by have:=run_endLoop (P:=P) hl (by rw[hrec];simp);rw[hrec] at this;exact this,
     hstop _ c _ _ (aha _) ((hKx c).put hi (fun b hb=>(hIb b hb).2) _ (by omega) hl rfl) ((World.putObj_heap_other (by omega)).trans hd)⟩
structure Yields (C:Ctx) (P:Program) (l:Nat) (xs:List (List PV)):Prop where
 at_:∀(k:Nat) (x:List PV) (us:Array Value) (I:Nat→Prop) (W1:World),xs[k]?=some x→aej C.adY us x→C.J (some k) I W1→YieldAt Fence.wide 9 P l us W1 fun e W'=>
   (gI I C.mem0 W1 W'∧∀i b,i<C.m→(C.hd0 i).bind aG=some b→W'.heap[b]?=W1.heap[b]?)∧((e=.returned (.bool true)∧C.J (some (k+1)) I W')∨(e=.returned (.bool false)∧C.J none I W'))
 ab1:ac8 C.J
 wk:C.wk.heap=#[]
 tm:∀b,C.tm b→∃cs,C.mem0 b=some cs
structure CX (C:Ctx) (X:bB) (F:Fence):Prop where
 m:C.m=X.m
 y:∀l xs,X.yl=some (l,xs)→Yields C X.P l xs∧F=Fence.wide
 f:X.rnd=false→F=Fence.wide∧C.nm=false
 lent:∀i b,i<C.m→(C.hd0 i).bind aG=some b→b<C.base
 rm:C.ro≤C.m
 gl:∀p∈X.gl,C.mem0 p.1=some p.2
 nw:X.nw=true→∀b,C.base≤b→C.tm b
theorem yw {gr:Bool} {C:Ctx} {E:Env} {st:St} {a:Act} {w:World} (h:aA C E st a w) {X:bB} (hnt:C.nt=X.nt) (hro:C.ro=X.ro) (hgl:∀p∈X.gl,C.mem0 p.1=some p.2) (htr:X.nw=true→∀b,C.base≤b→C.tm b) {o:Oper} (hd:bQ X.nt o.dst=true) {f:Operand} {args:Array Operand} {ts:Array TypeId} (ho:o.op=.call ⟨.value f,args,ts⟩)
  {F:Fence} (hF:gY F) {K:St→Prop} {k:Nat} {capt:List SV} {cvs:Array Value} (hfe:a.eval f=.func (.func k) #[] cvs) (hcl:cvs.size=capt.length) (hce:∀(q:Nat) (u:Value) (s:SV),cvs[q]?=some u→capt[q]?=some s→aM E u s)
  (hk:aaE X gr k (evs st args.toList++capt) o.dst st K) {next:Act→World→Prop} {Q:Exit→Act→World→Prop}
  (hn:∀st' E' a' w',K st'→aA C E' st' a' w'→(gr=true→iD o.op=true→Grow w w')→next a' w'):o.wpIn F 9 X.P a w next Q:=by
 have hnd:∀c',o.op≠.defer c':=by simp[ho]
 obtain ⟨e1,e2⟩:=oN h args.toList
 have hsz:(args.map a.eval++cvs).size=(evs st args.toList++capt).length:=by simp[e1,hcl]
 have hvs:∀(q:Nat) (u:Value) (s:SV),(args.map a.eval++cvs)[q]?=some u→(evs st args.toList++capt)[q]?=some s→aM E u s:=by
  intro q u s hu hs
  by_cases hq:q<args.size
  ·rw[aoC (by simpa using hq)] at hu
   rw[afk (by rw[e1];simpa using hq)] at hs
   exact e2 q u s (by simpa using hu) hs
  ·rw[atp (by simp;omega)] at hu
   rw[agH (by rw[e1];simp;omega)] at hs
   rw[e1] at hs
   simp only[Array.size_map] at hu
   simp only[al7] at hs
   exact hce _ u s hu hs
 obtain ⟨⟨fn,hfn,hb,hnm⟩,hcalls⟩:=abb h hnt hro hd hsz hvs hgl htr hk fun st' E' a' w' hk' h' hg=>hn st' E' a' w' hk' h' fun g1 _=>hg g1
 refine ⟨fun g _=>hF.fn g,?_⟩
 have hrun:(execOp a.eval o).run X.P w=.ok (.enter k (args.map a.eval++cvs)) w:=by
  simp[execOp,ho,resolve,hfe,Deferred.ofValue,invoke,mX hfn hb hnm]
 rw[Oper.semAt_plain F _ _ hnd,hrun]
 rw[Oper.uponIn_enter]
 refine ⟨fun hdep=>(by rw[hF.depth] at hdep;cases hdep),hF.calls (hcalls.mono ?_)⟩
 rintro e w' ⟨v,rfl,hv⟩
 exact hv
theorem aft {gr:Bool} {C:Ctx} {E:Env} {st:St} {a:Act} {w:World} (h:aA C E st a w) {X:bB} (hnt:C.nt=X.nt) (hro:C.ro=X.ro) (hgl:∀p∈X.gl,C.mem0 p.1=some p.2) (htr:X.nw=true→∀b,C.base≤b→C.tm b) {o:Oper} (hd:bQ X.nt o.dst=true) {f:Operand} {args:Array Operand} {ts:Array TypeId} (ho:o.op=.call ⟨.value f,args,ts⟩)
  {F:Fence} (hF:gY F) {K:St→Prop} {k:Nat} {capt:List SV} {cvs:Array Value} (hfe:a.eval f=.func (.func k) cvs #[]) (hcl:cvs.size=capt.length) (hce:∀(q:Nat) (u:Value) (s:SV),cvs[q]?=some u→capt[q]?=some s→aM E u s)
  (hk:aaE X gr k (capt++evs st args.toList) o.dst st K) {next:Act→World→Prop} {Q:Exit→Act→World→Prop}
  (hn:∀st' E' a' w',K st'→aA C E' st' a' w'→(gr=true→iD o.op=true→Grow w w')→next a' w'):o.wpIn F 9 X.P a w next Q:=by
 have hnd:∀c',o.op≠.defer c':=by simp[ho]
 obtain ⟨e1,e2⟩:=oN h args.toList
 have hsz:(cvs++args.map a.eval).size=(capt++evs st args.toList).length:=by rw[Array.size_append,aaf,e1,hcl];simp
 have hvs:∀(q:Nat) (u:Value) (s:SV),(cvs++args.map a.eval)[q]?=some u→(capt++evs st args.toList)[q]?=some s→aM E u s:=by
  intro q u s hu hs
  by_cases hq:q<cvs.size
  ·rw[aoC hq] at hu
   rw[afk (by omega)] at hs
   exact hce q u s hu hs
  ·rw[atp (by omega)] at hu
   rw[agH (by omega),←hcl] at hs
   exact e2 _ u s (by simpa using hu) hs
 obtain ⟨⟨fn,hfn,hb,hnm⟩,hcalls⟩:=abb h hnt hro hd hsz hvs hgl htr hk fun st' E' a' w' hk' h' hg=>hn st' E' a' w' hk' h' fun g1 _=>hg g1
 refine ⟨fun g _=>hF.fn g,?_⟩
 have hrun:(execOp a.eval o).run X.P w=.ok (.enter k (cvs++args.map a.eval)) w:=by
  simp[execOp,ho,resolve,hfe,Deferred.ofValue,invoke,mX hfn hb hnm]
 rw[Oper.semAt_plain F _ _ hnd,hrun]
 rw[Oper.uponIn_enter]
 refine ⟨fun hdep=>(by rw[hF.depth] at hdep;cases hdep),hF.calls (hcalls.mono ?_)⟩
 rintro e w' ⟨v,rfl,hv⟩
 exact hv
theorem bq.freeze {C:Ctx} {E:Env} {st:St} {w:World} (h:bq C E st w) {i:Nat} {T:TypeId} {sz n:Nat} {f:Nat→List PV} (hob:st.obj i=some (.row T sz n f)) (hm:C.m≤i) :
  ∃E',E.Le E'∧(E'.ws=E.ws∧E'.I=E.I)∧bq C E' (st.bX i none) w∧∀v,aM E v (.row i)→aO E'.mem v (.seq n f):=by
 have hset:∀k,(st.bX i none).obj k=if i=k then none else st.obj k:=fun k=>kX st.fr st.ob st.no _ _ _ _
 have hold:∀k o,(st.bX i none).obj k=some o→st.obj k=some o∧i≠k:=fun k o ho=>by
  rw[hset] at ho
  by_cases e:i=k
  ·rw[if_pos e] at ho;cases ho
  ·rw[if_neg e] at ho;exact ⟨ho,e⟩
 obtain ⟨v0,xs,u,hh,hw,hmax,hl,hc,he⟩:=jL (h.ob _ _ hob)
 rcases hw.2 with ⟨e0,rfl⟩ | ⟨g,cap,cur,e0,_⟩
 ·subst e0
  refine ⟨E,Env.Le.refl E,⟨rfl,rfl⟩,⟨fun k o ho=>h.ob k o (hold k o ho).1,fun a b o o' bl ho ho'=>h.sep a b o o' bl (hold a o ho).1 (hold b o' ho').1,fun k o b ho=>h.own k o b (hold k o ho).1,h.mem,h.mem0,h.memnew,h.new,h.base,h.fr,h.hd0,h.mno,h.mkh,h.kk⟩,fun v hv=>?_⟩
  cases hv with
  | row _ _ hh2 _=>rw[hh] at hh2;cases hh2;exact .nil _
 ·subst e0
  obtain ⟨_,cur,u,hR⟩:=(h.ob _ _ hob).jQ hh
  have hbk:E.blk i=some g:=by simp[Env.blk,hh,aG]
  obtain ⟨hg0,hg1,hg2⟩:=h.own i _ g hob hbk
  have hgb:C.base≤g:=hg1.resolve_right (fun x=>by omega)
  have hgm:E.mine g:=hg2.resolve_right (fun x=>by omega)
  have hle:E.Le (E.fO g cur):=⟨fun _ _ x=>x,fun b c hc=>by
   simp only[Env.fO]
   by_cases e:b=g
   ·subst e;rw[hg0] at hc;cases hc
   ·rw[if_neg e];exact hc,rfl⟩
  have new:∀{b c},(E.fO g cur).mem b=some c→(b=g∧c=cur)∨E.mem b=some c:=by
   intro b c hc
   simp only[Env.fO] at hc
   by_cases e:b=g
   ·rw[if_pos e] at hc;exact .inl ⟨e,(Option.some.inj hc).symm⟩
   ·rw[if_neg e] at hc;exact .inr hc
  refine ⟨E.fO g cur,hle,⟨rfl,rfl⟩,⟨fun k o ho=>(h.ob k o (hold k o ho).1).mono hle,fun a b o o' bl ho ho'=>h.sep a b o o' bl (hold a o ho).1 (hold b o' ho').1,fun k o b ho hb=>?_,fun b c hc=>?_,fun b c hc=>hle.mem b c (h.mem0 b c hc),fun b c hc=>?_,h.new,h.base,⟨h.fr.os,h.fr.tape,h.fr.output,h.fr.bsz,h.fr.wsz,h.fr.wos,h.fr.isz,h.fr.block,h.fr.sync⟩,h.hd0,h.mno,h.mkh,h.kk⟩,fun v hv=>?_⟩
  ·obtain ⟨ho,hik⟩:=hold k o ho
   obtain ⟨q1,q2⟩:=h.own k o b ho hb
   refine ⟨?_,q2⟩
   simp only[Env.fO]
   rw[if_neg (fun e=>hik (h.sep i k _ _ g hob ho hbk (by subst e;exact hb)))];exact q1
  ·rcases new hc with ⟨rfl,rfl⟩ | h1
   ·exact ⟨_,_,hR.heap⟩
   ·exact h.mem b c h1
  ·rcases new hc with ⟨rfl,rfl⟩ | h1
   ·exact .inr ⟨hgb,hgm⟩
   ·exact h.memnew b c h1
  ·cases hv with
   | row _ _ hh2 _=>
    rw[hh] at hh2;cases hh2
    exact .seq g 0 n cap sz f cur u (by simp[Env.fO]) hR.hn hR.hmax hR.hl (fun j k s hj hs=>by rw[aiF];exact hR.hc j k s hj hs) (fun j k s hj hs=>(hR.he j k s hj hs).mono hle.mem)
theorem nW:∀(G:List Nat) (l:List (Nat×Option Ob)) (i:Nat),look (mW G l) i=if i∈G then some none else look l i
 | [],l,i=>by simp[mW]
 | j :: G,l,i=>by
  simp only[mW,bC,nW G l i,ai0]
  by_cases h:j=i
  ·subst h;simp
  ·rw[if_neg h]
   by_cases h2:i∈G
   ·rw[if_pos h2,if_pos (.inr h2)]
   ·rw[if_neg h2,if_neg (fun x=>x.elim (fun e=>h e.symm) h2)]
noncomputable def Env.iV (E : Env) (st : St) (w : World) (js : List Nat) : Env :=
  { E with mem := fun b => match E.mem b with
      | some cs => some cs
      | none => open Classical in if ∃ j o, j ∈ js ∧ st.obj j = some o ∧ E.blk j = some b then (match w.heap[b]? with | some (.cells cs _ _) => some cs | _ => none) else none }
theorem akO {E:Env} {st:St} {w:World} {js:List Nat} {b:Nat} {cs:Array Value} (h:E.mem b=some cs):(E.iV st w js).mem b=some cs:=by simp[Env.iV,h]
theorem zk (E:Env) (st:St) (w:World) (js:List Nat):E.Le (E.iV st w js):=⟨fun _ _ h=>h,fun _ _ h=>akO h,rfl⟩
theorem acW {E:Env} {st:St} {w:World} {js:List Nat} {b:Nat} {cs:Array Value} (h:(E.iV st w js).mem b=some cs) :
  E.mem b=some cs∨(E.mem b=none∧(∃j o,j∈js∧st.obj j=some o∧E.blk j=some b)∧∃T fr,w.heap[b]?=some (.cells cs T fr)):=by
 simp only[Env.iV] at h
 cases hm:E.mem b with
 | some c=>rw[hm] at h;exact .inl h
 | none=>
  rw[hm] at h
  simp only at h
  split at h
  ·rename_i hx
   split at h
   ·rename_i c T fr hw
    cases h;exact .inr ⟨rfl,hx,T,fr,hw⟩
   ·cases h
  ·cases h
theorem bq.amj {C:Ctx} {E:Env} {st:St} {w:World} (h:bq C E st w) {js:List Nat} (hm:∀j∈js,C.m≤j):bq C (E.iV st w js) { st with ob:=mW js st.ob } w:=by
 have hle:=zk E st w js
 have hold:∀k o,St.obj { st with ob:=mW js st.ob } k=some o→st.obj k=some o∧k∉js:=fun k o ho=>by
  unfold St.obj at ho ⊢
  simp only[nW] at ho
  by_cases e:k∈js
  ·rw[if_pos e] at ho;cases ho
  ·rw[if_neg e] at ho;exact ⟨ho,e⟩
 refine ⟨fun k o ho=>(h.ob k o (hold k o ho).1).mono hle,fun a b o o' bl ho ho'=>h.sep a b o o' bl (hold a o ho).1 (hold b o' ho').1,fun k o b ho hb=>?_,fun b c hc=>?_,fun b c hc=>hle.mem b c (h.mem0 b c hc),fun b c hc=>?_,h.new,h.base,⟨h.fr.os,h.fr.tape,h.fr.output,h.fr.bsz,h.fr.wsz,h.fr.wos,h.fr.isz,h.fr.block,h.fr.sync⟩,h.hd0,h.mno,h.mkh,h.kk⟩
 ·obtain ⟨ho,hk⟩:=hold k o ho
  obtain ⟨q1,q2⟩:=h.own k o b ho hb
  refine ⟨?_,q2⟩
  simp only[Env.iV,q1]
  rw[if_neg]
  rintro ⟨j,o',hj,ho',hb'⟩
  obtain rfl:=h.sep k j o o' b ho ho' hb hb'
  exact hk hj
 ·rcases acW hc with h1 | ⟨_,_,T,fr,hw⟩
  ·exact h.mem b c h1
  ·exact ⟨T,fr,hw⟩
 ·rcases acW hc with h1 | ⟨_,⟨j,o,hj,ho,hb⟩,_⟩
  ·exact h.memnew b c h1
  ·obtain ⟨_,q2,q3⟩:=h.own j o b ho hb
   have:=hm j hj
   exact .inr ⟨q2.resolve_right (fun x=>by omega),q3.resolve_right (fun x=>by omega)⟩
theorem ahk:∀(l:List (Option PV)) (ds:List PV),tV l=some ds→l.length=ds.length∧∀(k:Nat) d,ds[k]?=some d→l[k]?=some (some d)
 | [],ds,h=>by simp[tV] at h;subst h;simp
 | none :: l,ds,h=>by simp[tV] at h
 | some d0 :: l,ds,h=>by
  simp only[tV] at h
  cases hr:tV l with
  | none=>simp[hr] at h
  | some r=>
   simp only[hr,Option.some.injEq] at h
   subst h
   obtain ⟨h1,h2⟩:=ahk l r hr
   refine ⟨by simpa using h1,fun k d hd=>?_⟩
   cases k with
   | zero=>simpa using hd
   | succ k=>simpa using h2 k d (by simpa using hd)
theorem an0 {C:Ctx} {E:Env} {st:St} {w:World} (h:bq C E st w) {js:List Nat}:∀(n:Nat) (s:SV) (d:PV) (v:Value),kY st js n s=some d→aM E v s→aO (E.iV st w js).mem v d:=by
 have hle:=zk E st w js
 have fD:∀i o bl cs T fr,gX i js=true→st.obj i=some o→E.blk i=some bl→w.heap[bl]?=some (.cells cs T fr)→(E.iV st w js).mem bl=some cs:=by
  intro i o bl cs T fr hi ho hb hw
  obtain ⟨g1,g2⟩:=h.own i o bl ho hb
  simp only[Env.iV,g1]
  rw[if_pos ⟨i,o,(eZ i js).1 hi,ho,hb⟩,hw]
 have base:∀(b:Bool) (d:PV) (v:Value),aM E v (.p b d)→aO (E.iV st w js).mem v d:=by
  intro b d v hv
  cases hv with
  | p _ _ _ hp=>exact (hp.mono (E.eO b)).mono hle.mem
 have rowc:∀(i:Nat) (T:TypeId) (sz n:Nat) (f:Nat→List PV) (v:Value),gX i js=true→st.obj i=some (.row T sz n f)→aM E v (.row i)→aO (E.iV st w js).mem v (.seq n f):=by
  intro i T sz n f v hi hob hv
  obtain ⟨v0,xs,u,hh,hw,hmax,hl,hc,he⟩:=jL (h.ob _ _ hob)
  cases hv with
  | row _ _ hh2 hsl=>
   rw[hh] at hh2;cases hh2
   rcases hw.2 with ⟨rfl,rfl⟩ | ⟨g,cap,cur,rfl,_,hg,hnc,hcm,hcs,htake⟩
   ·exact .nil _
   ·have hblk:E.blk i=some g:=by simp[Env.blk,hh,aG]
    refine .seq g 0 n cap sz f cur u (fD i _ g cur T _ hi hob hblk hg) hnc hmax hl (fun j k s hj hs=>?_) (fun j k s hj hs=>(he j k s hj hs).mono hle.mem)
    obtain ⟨c1,c2⟩:=hc j k s hj hs
    refine ⟨?_,c2⟩
    rw[aiF,←aeX]
    rw[←htake,alD] at c1
    split at c1
    ·exact c1
    ·cases c1
 have subc:∀(i sz lo n m:Nat) (T:TypeId) (f:Nat→List PV) (v:Value),gX i js=true→st.obj i=some (.row T sz m f)→aM E v (.sub i sz lo n)→aO (E.iV st w js).mem v (.seq n (fun k=>f (lo+k))):=by
  intro i sz lo n m T f v hi hob hv
  cases hv with
  | sub _ _ _ _ bl n' cap c a hh hle2 hc hr ha=>
   obtain ⟨rfl,cur,u,hR⟩:=(h.ob _ _ hob).jQ hh
   rcases aq0 n with rfl | hn
   ·exact .emp _ _ _
   ·obtain rfl:=ha (by omega)
    have hblk:E.blk i=some bl:=by simp[Env.blk,hh,aG]
    refine .seq bl (lo*sz) n c sz _ cur (fun j k=>u (lo+j) k) (fD i _ bl cur T _ hi hob hblk hR.heap) hc (by have:=hR.hmax;omega) (fun j hj=>hR.hl _ (by omega)) (fun j k s hj hs=>?_) (fun j k s hj hs=>(hR.he (lo+j) k s (by omega) hs).mono hle.mem)
    have:=hR.hc (lo+j) k s (by omega) hs
    rw[asM,atI] at this
    exact this
 have aslc:∀n0 i N lo n d v,kY st js n0 (.asl i N lo n)=some d→aM E v (.asl i N lo n)→aO (E.iV st w js).mem v d:=by
  intro n0 i N lo n d v hp hv
  have go:∀(T:TypeId) (f:Nat→PV),gX i js=true→st.obj i=some (.arr T N f)→aO (E.iV st w js).mem v (.seq n (fun k=>[f (lo+k)])):=by
   intro T f hi hob
   cases hv with
   | asl _ _ _ _ b c a hh hle2 hc ha=>
    obtain ⟨b',vs,hh2,hw,hs,hvc⟩:=(h.ob _ _ hob).fZ
    rw[hh] at hh2;cases hh2
    rcases aq0 n with rfl | hn
    ·exact .emp _ _ _
    ·obtain rfl:=ha (by omega)
     have hmm:=fD i _ b vs T _ hi hob (by simp[Env.blk,hh,aG]) hw
     refine .seq b lo n c 1 _ vs (fun j _=>vs.getD (lo+j) undef) hmm hc (by unfold maxLen;omega) (fun j hj=>rfl) (fun j k s hj hs'=>?_) (fun j k s hj hs'=>?_)
     ·have hk0:k=0:=by have:=(abA.1 hs').1;simpa using this
      subst hk0
      obtain ⟨u,u1,u2,u3⟩:=hvc (lo+j) (by omega)
      rw[apT,atm,aeC,u1]
      exact ⟨rfl,u2⟩
     ·have hk0:k=0:=by have:=(abA.1 hs').1;simpa using this
      subst hk0
      simp at hs';subst hs'
      obtain ⟨u,u1,u2,u3⟩:=hvc (lo+j) (by omega)
      rw[aeC,u1]
      exact u3.mono hle.mem
  cases n0<;>simp only[kY] at hp
  all_goals
   split at hp
   ·rename_i hi hob
    split at hp
    ·rename_i hb
     obtain rfl:=agf hb
     cases hp
     exact go _ _ hi hob
    ·cases hp
   ·cases hp
 have rows:∀n0 i d v,kY st js n0 (.row i)=some d→aM E v (.row i)→aO (E.iV st w js).mem v d:=by
  intro n0 i d v hp hv
  cases n0<;>simp only[kY] at hp
  all_goals
   split at hp
   ·rename_i hi hob
    cases hp
    exact rowc _ _ _ _ _ v hi hob hv
   ·cases hp
 have subs:∀n0 i sz lo n d v,kY st js n0 (.sub i sz lo n)=some d→aM E v (.sub i sz lo n)→aO (E.iV st w js).mem v d:=by
  intro n0 i sz lo n d v hp hv
  cases n0<;>simp only[kY] at hp
  all_goals
   split at hp
   ·rename_i hi hob
    split at hp
    ·rename_i hsz
     obtain rfl:=agf hsz
     cases hp
     exact subc _ _ _ _ _ _ _ v hi hob hv
    ·cases hp
   ·cases hp
 intro n
 induction n with
 | zero=>
  intro s d v hp hv
  cases s with
  | p b d0=>simp only[kY,Option.some.injEq] at hp;subst hp;exact base _ _ _ hv
  | row i=>exact rows 0 i d v hp hv
  | sub i sz lo n=>exact subs 0 i sz lo n d v hp hv
  | asl i N lo n=>exact aslc 0 i N lo n d v hp hv
  | _=>simp[kY] at hp
 | succ n ih=>
  intro s d v hp hv
  -- lists
  have get:∀(l:List SV) (vs:Array Value) (ds:List PV),tV (l.map (kY st js n))=some ds→vs.size=l.length→(∀(k:Nat) (u:Value) (s:SV),vs[k]?=some u→l[k]?=some s→aM E u s) →
    ds.length=l.length∧∀(k:Nat) (u:Value) (s:PV),vs[k]?=some u→ds[k]?=some s→aO (E.iV st w js).mem u s:=by
   intro l vs ds ha hl he
   obtain ⟨g1,g2⟩:=ahk _ _ ha
   refine ⟨by simpa using g1.symm,fun k u s hu hs=>?_⟩
   have:=g2 k s hs
   simp only[ajs] at this
   cases hc:l[k]? with
   | none=>simp[hc] at this
   | some c=>simp[hc] at this;exact ih c s u this (he k u c hu hc)
  cases s with
  | p b d0=>simp only[kY,Option.some.injEq] at hp;subst hp;exact base _ _ _ hv
  | row i=>exact rows (n+1) i d v hp hv
  | sub i sz lo m=>exact subs (n+1) i sz lo m d v hp hv
  | asl i N lo m=>exact aslc (n+1) i N lo m d v hp hv
  | own i off=>
   simp only[kY] at hp
   split at hp
   ·rename_i T cs hi hob
    split at hp
    ·rename_i ds hall
     cases hp
     obtain ⟨bl,hh,rfl⟩:=fF hv
     obtain ⟨bl',vs,hh',hw,hA⟩:=(h.ob _ _ hob).iR
     rw[hh] at hh';cases hh'
     obtain ⟨g1,g2⟩:=get cs vs ds hall hA.size hA.rep
     have hmm:=fD i _ bl vs T _ hi hob (by simp[Env.blk,hh,aG]) hw
     have e0:(Value.pointer (some ⟨bl,off,none⟩))=.pointer (some ⟨bl,0+off,none⟩):=by rw[aiF]
     rw[e0]
     have at_:∀(k:Nat) (s:PV),ds[k]?=some s→vs[k]?=some (vs.getD k undef):=fun k s hs=>by
      have hk:k<vs.size:=by rw[hA.size,←g1];exact (abA.1 hs).1
      rw[aeC,aex hk];rfl
     refine .pt bl 0 off ds vs (fun k=>vs.getD k undef) hmm (fun k s hs=>?_) (fun k s hs=>g2 k _ s (at_ k s hs) hs)
     rw[aiF]
     exact ⟨at_ k s hs,hA.one k _ (at_ k s hs)⟩
    ·cases hp
   ·rename_i T m f hi hob
    cases hp
    obtain ⟨bl,hh,rfl⟩:=fF hv
    obtain ⟨bl',vs,hh',hw,hs0,hvc⟩:=(h.ob _ _ hob).fZ
    rw[hh] at hh';cases hh'
    have hmm:=fD i _ bl vs T _ hi hob (by simp[Env.blk,hh,aG]) hw
    have e0:(Value.pointer (some ⟨bl,off,none⟩))=.pointer (some ⟨bl,0+off,none⟩):=by rw[aiF]
    rw[e0]
    have lt:∀(k:Nat) (s:PV),(dW m f)[k]?=some s→k<m∧s=f k:=fun k s hs=>by
     rw[kV] at hs
     by_cases hk:k<m
     ·rw[if_pos hk] at hs;exact ⟨hk,(Option.some.inj hs).symm⟩
     ·rw[if_neg hk] at hs;cases hs
    refine .pt bl 0 off _ vs (fun k=>vs.getD k undef) hmm (fun k s hs=>?_) (fun k s hs=>?_)
    ·obtain ⟨hk,rfl⟩:=lt k s hs
     obtain ⟨u,u1,u2,u3⟩:=hvc k hk
     rw[aiF,aeC,u1];exact ⟨rfl,u2⟩
    ·obtain ⟨hk,rfl⟩:=lt k s hs
     obtain ⟨u,u1,u2,u3⟩:=hvc k hk
     rw[aeC,u1];exact u3.mono hle.mem
   ·cases hp
  | agg l=>
   simp only[kY] at hp
   split at hp
   ·rename_i ds hall
    cases hp
    cases hv with
    | agg vs _ hl h1 he=>
     obtain ⟨g1,g2⟩:=get l vs ds hall hl he
     exact .agg vs ds (by omega) h1 g2
   ·cases hp
  | tup l=>
   simp only[kY] at hp
   split at hp
   ·rename_i ds hall
    cases hp
    cases hv with
    | tup vs _ hl he=>
     obtain ⟨g1,g2⟩:=get l vs ds hall hl he
     exact .tup vs ds (by omega) g2
   ·cases hp
  | fn f l=>
   simp only[kY] at hp
   split at hp
   ·rename_i ds hall
    cases hp
    cases hv with
    | fn _ vs _ hl he=>
     obtain ⟨g1,g2⟩:=get l vs ds hall hl he
     exact .fn f vs ds (by omega) g2
   ·cases hp
  | _=>simp[kY] at hp
theorem pJ {C:Ctx} {E:Env} {st:St} {a:Act} {w:World} (h:aA C E st a w) {X:bB} (hnt:C.nt=X.nt) (hcm:C.m=X.m) {d:Option Nat} (hd:bQ X.nt d=true) {s:SV} {v:Value} (hv:aM E v s)
  {K:St→Prop} {js:List Nat} (hk:abQ X s d st K js) {next:Act→World→Prop} (hn:∀st' E' a' w',K st'→aA C E' st' a' w'→next a' w'):next (a.put d v) w:=by
 unfold abQ at hk
 split at hk
 ·rename_i d' hge hp
  have hh:=h.heap.amj (js:=js) (fun j hj=>by
   obtain ⟨k,hk⟩:=asD hj
   rw[hcm];exact oM js hge k j hk)
  exact aD (h.fQ (st':={ st with ob:=mW js st.ob }) (zk E st w js) rfl hh ⟨rfl,rfl⟩ (iC.refl w)) hnt hd hk (.p false _ _ (an0 h.heap 5 s d' v hp hv)) hn
 ·exact hk.elim
theorem xJ {C:Ctx} {E:Env} {st:St} {a:Act} {w:World} (h:aA C E st a w) {X:bB} (hnt:C.nt=X.nt) (hcm:C.m=X.m) {d:Option Nat} (hd:bQ X.nt d=true) {s:SV} {v:Value} (hv:aM E v s)
  {K:St→Prop} (hk:agS X s d st K) {next:Act→World→Prop} (hn:∀st' E' a' w',K st'→aA C E' st' a' w'→next a' w'):next (a.put d v) w:=by
 unfold agS at hk
 split at hk
 ·rename_i i
  split at hk
  ·rename_i _ _ n f hb hob
   obtain ⟨E',hle,hs,hh,hv'⟩:=h.heap.freeze hob (by rw[hcm];exact aiT hb)
   exact aD (h.fQ (st':=st.bX i none) hle rfl hh hs (iC.refl w)) hnt hd hk (.p false _ _ (hv' _ hv)) hn
  ·exact hk.elim
 ·rename_i i sz lo n
  split at hk
  ·rename_i _ sz' m f hb hob
   cases hbq:sz.beq sz' with
   | false=>simp[hbq] at hk
   | true=>
    simp only[hbq] at hk
    obtain rfl:=agf hbq
    obtain ⟨E',hle,hs,hh,hv'⟩:=h.heap.freeze hob (by rw[hcm];exact aiT hb)
    refine aD (h.fQ (st':=st.bX i none) hle rfl hh hs (iC.refl w)) hnt hd hk (.p false _ _ ?_) hn
    cases hv with
    | sub _ _ _ _ b n' cap c ad hh2 hle2 hc hr ha=>
     obtain ⟨rfl,cur,u,hR⟩:=(h.heap.ob i _ hob).jQ hh2
     rcases aq0 n with rfl | hn0
     ·exact .emp _ _ _
     ·obtain rfl:=ha (by omega)
      have hp:=hv' _ (.row i _ hh2 rfl)
      cases hp with
      | emp=>omega
      | seq _ _ _ _ sz2 _ cs u2 hm hcap hmax hl2 hc2 he2=>
       have e:sz2=sz:=by rw[←hl2 0 (by omega),hR.hl 0 (by omega)]
       subst e
       refine .seq b (lo*sz2) n c sz2 _ cs (fun j k=>u2 (lo+j) k) hm hc (by omega) (fun j hj=>hl2 _ (by omega)) (fun j k s hj hs=>?_) (fun j k s hj hs=>he2 _ _ _ (by omega) hs)
       have:=hc2 (lo+j) k s (by omega) hs
       rw[aiF,asM,atI] at this
       exact this
  ·exact hk.elim
 ·exact pJ h hnt hcm hd hv hk hn
 ·exact pJ h hnt hcm hd hv hk hn
 ·exact pJ h hnt hcm hd hv hk hn
 ·exact pJ h hnt hcm hd hv hk hn
 ·exact pJ h hnt hcm hd hv hk hn
 ·exact aD h hnt hd hk hv hn
theorem agK {C:Ctx} {E:Env} {st:St} {a:Act} {w:World} (h:aA C E st a w) {X:bB} (hnt:C.nt=X.nt) (hro:C.ro=X.ro) {F:Fence} (hcm:CX C X F) {o:Oper} (hd:bQ X.nt o.dst=true) {f:Operand} {args:Array Operand} {ts:Array TypeId} (ho:o.op=.call ⟨.value f,args,ts⟩)
  (hF:gY F) {K:St→Prop} {k:Nat} {capt:List SV} {cvs:Array Value} (hfe:a.eval f=.func (.func k) #[] cvs) (hcl:cvs.size=capt.length) (hce:∀(q:Nat) (u:Value) (s:SV),cvs[q]?=some u→capt[q]?=some s→aM E u s)
  (hk:aaO X k (evs st args.toList++capt) st (aki X st.fr o.dst K)) {next:Act→World→Prop} {Q:Exit→Act→World→Prop}
  (hn:∀st' E' a' w',K st'→aA C E' st' a' w'→next a' w'):o.wpIn F 9 X.P a w next Q:=by
 have hnd:∀c',o.op≠.defer c':=by simp[ho]
 obtain ⟨e1,e2⟩:=oN h args.toList
 have hsz:(args.map a.eval++cvs).size=(evs st args.toList++capt).length:=by simp[e1,hcl]
 have hvs:∀(q:Nat) (u:Value) (s:SV),(args.map a.eval++cvs)[q]?=some u→(evs st args.toList++capt)[q]?=some s→aM E u s:=by
  intro q u s hu hs
  by_cases hq:q<args.size
  ·rw[aoC (by simpa using hq)] at hu
   rw[afk (by rw[e1];simpa using hq)] at hs
   exact e2 q u s (by simpa using hu) hs
  ·rw[atp (by simp;omega)] at hu
   rw[agH (by rw[e1];simp;omega)] at hs
   rw[e1] at hs
   simp only[Array.size_map] at hu
   simp only[al7] at hs
   exact hce _ u s hu hs
 obtain ⟨⟨fn,hfn,hb,hnm⟩,hcalls⟩:=hk
 refine ⟨fun g _=>hF.fn g,?_⟩
 have hrun:(execOp a.eval o).run X.P w=.ok (.enter k (args.map a.eval++cvs)) w:=by
  simp[execOp,ho,resolve,hfe,Deferred.ofValue,invoke,mX hfn hb hnm]
 rw[Oper.semAt_plain F _ _ hnd,hrun]
 rw[Oper.uponIn_enter]
 refine ⟨fun hdep=>(by rw[hF.depth] at hdep;cases hdep),hF.calls ((hcalls C E _ w hcm.m hro hcm.rm hcm.lent hcm.gl hcm.nw h.heap ⟨hsz,hvs⟩).mono ?_)⟩
 rintro e w' ⟨v,E',s,st',rfl,hv,⟨hle,hws,hI⟩,hh,hnc,hK⟩
 cases st' with
 | mk fr' ob' no' k'=>
  have hM:=h.fQ (st':=⟨st.fr,ob',no',k'⟩) hle rfl (hh.ap2 st.fr) ⟨hws,hI⟩ hnc
  unfold aki at hK
  cases hfz:frz X o.dst with
  | true=>simp only[hfz] at hK;exact xJ hM hnt hcm.m hd hv hK hn
  | false=>simp only[hfz] at hK;exact aD hM hnt hd hK hv hn
theorem ah6 {C:Ctx} {E:Env} {st:St} {a:Act} {w:World} (h:aA C E st a w) {X:bB} (hTb:X.Tb.Ok X.P) (hnt:C.nt=X.nt) (hro:C.ro=X.ro) {d:Option Nat} (hd:bQ X.nt d=true) {t:Nat} {v:Value} {s:SV} {K:St→Prop}
  (hk:match look X.Tb t with
  | some ⟨.slice e,_,_,_⟩=>match look X.Tb e with
   | some ⟨_,sz+1,_,z⟩=>match s with
    | .sub i sz' lo n=>match (sz'.beq (sz+1)).and (X.ro.ble i),st.obj i with
     | true,some (.row T' sz'' m f)=>match sz''.beq (sz+1) with
      | true=>aS (st.bX i (some (.row T' (sz+1) m (sj f lo n (vals z))))) d .any K
      | false=>False
     | _,_=>False
    | _=>False
   | _=>False
  | _=>False) (hv:aM E v s) {next:Act→World→Prop} (hn:∀st' E' a' w',K st'→aA C E' st' a' w'→next a' w') (ty:TypeId) :
  ∃w',(Builtin.clear_ #[t] ty #[v]).run X.P w=.ok (.tuple #[]) w'∧next (a.put d (.tuple #[])) w':=by
 split at hk
 ·rename_i e _ _ _ hi
  have hu:X.P.underlying t=some (.slice e):=(hTb _ _ hi).desc
  split at hk
  ·rename_i _ sz by_ z hie
   split at hk
   ·rename_i i sz' lo n
    split at hk
    ·rename_i T' sz'' m f hble hob
     cases hbq:sz''.beq (sz+1) with
     | false=>simp[hbq] at hk
     | true=>
      simp only[hbq] at hk
      simp only[agw] at hble
      obtain ⟨hb1,hb2⟩:=hble
      obtain rfl:=agf hb1
      obtain rfl:=agf hbq
      have hri:C.ro≤i:=by rw[hro];exact aiT hb2
      cases hv with
      | sub _ _ _ _ b n' cap c ad hh hle hc hr ha=>
       obtain ⟨rfl,vs,u,hR⟩:=(h.heap.ob i _ hob).jQ hh
       rcases aq0 n with rfl | hn0
       ·refine ⟨w,?_,aD (h.fQ (st':=st.bX i (some (.row T' (sz+1) n' (sj f lo 0 (vals z))))) (Env.Le.refl E) rfl ?_ ⟨rfl,rfl⟩ (iC.refl w)) hnt hd hk (.any _) hn⟩
        ·simp[Builtin.clear_,run_underlying hu]
        ·have e:∀j,sj f lo 0 (vals z) j=f j:=fun j=>by unfold sj;rw[if_neg (by omega)]
         have e2:sj f lo 0 (vals z)=f:=funext e
         rw[e2]
         exact h.heap.write hob (b:=b) (by simp[Env.blk,hh,aG]) hri (w':=w) (h.heap.ob i _ hob) rfl rfl rfl rfl (fun _ _=>rfl)
       ·obtain rfl:=ha (by omega)
        obtain ⟨I,hI,hIs,hIb,zv,hz,hzz,hone,hzc⟩:=(hTb _ _ hie).info
        simp only at hzz hzc
        have hzrun:∀w,(zeroValue e).run X.P w=.ok zv w:=fun w=>by simp[zeroValue,typeInfo,hI,hz]
        obtain ⟨L,hL⟩:∃L,L=(Builtin.zeroCells zv.cells n).toList:=⟨_,rfl⟩
        have hLl:L.length=n*(sz+1):=by rw[hL];simp[Builtin.zeroCells,hzc]
        have hLg:∀j k,j<n→k<sz+1→L[j*(sz+1)+k]?=zv.cells[k]?:=by
         intro j k hj hk
         have hlt:=lu hj hk
         have hmod:(j*(sz+1)+k) % zv.cells.size=k:=by rw[hzc,Nat.add_comm,auc,atK hk]
         have e1:zv.cells[k]?=some (zv.cells[k]'(by omega)):=aex _
         rw[hL,e1]
         simp[Builtin.zeroCells,hzc,hlt,hmod,getElem!_def,e1]
         rw[atK hk,e1]
        have hLone:∀v∈L,v.oneCell'=true:=by
         intro v hv
         obtain ⟨q,hq⟩:=asD hv
         have hql:q<n*(sz+1):=by rw[←hLl];exact (abA.1 hq).1
         obtain ⟨d1,d2,d3⟩:=wW hql
         have:=hLg _ _ d1 d2
         rw[d3,hq] at this
         exact hone _ _ this.symm
        have hfit:lo*(sz+1)+n*(sz+1)≤vs.size:=by
         rw[hR.size,←asM];exact alS _ (by have:=hR.hn;omega)
        have hst:=run_storeCells_at X.P b (lo*(sz+1)) T' L 0 vs w hR.heap (by rw[hLl];omega) hLone
        simp only[atm] at hst
        generalize hcs':(vs.toList.take (lo*(sz+1))++L++vs.toList.drop (lo*(sz+1)+L.length)).toArray=vs' at hst
        have hvs':vs'.size=vs.size:=by
         rw[←hcs'];simp only[atG,aaf,ajz,arP,hLl,al7];omega
        have hat:∀q,vs'[q]?=if lo*(sz+1)≤q∧q<lo*(sz+1)+n*(sz+1) then L[q-lo*(sz+1)]? else vs[q]?:=by
         intro q
         have hl1:(vs.toList.take (lo*(sz+1))).length=lo*(sz+1):=by rw[ajz,al7];omega
         rw[←hcs']
         simp only[aty]
         by_cases hin:lo*(sz+1)≤q∧q<lo*(sz+1)+n*(sz+1)
         ·rw[if_pos hin,afk (by rw[aaf,hl1,hLl];omega),agH (by omega),hl1]
         ·rw[if_neg hin]
          by_cases hlt:q<lo*(sz+1)
          ·rw[afk (by rw[aaf,hl1];omega),afk (by omega),alD,if_pos hlt,aeX]
          ·rw[agH (by rw[aaf,hl1,hLl];omega),aaf,hl1,hLl,aqX,show lo*(sz+1)+n*(sz+1)+(q-(lo*(sz+1)+n*(sz+1)))=q by omega,aeX]
        have flen:∀j',j'<n'→(sj f lo n (vals z) j').length=sz+1:=by
         intro j' hj'
         unfold sj
         split
         ·rw[q9,←hzz,al7];exact hzc
         ·exact hR.hl j' hj'
        have cellOf:∀j' k s,j'<n'→(sj f lo n (vals z) j')[k]?=some s→∃v,vs'[j'*(sz+1)+k]?=some v∧v.oneCell'=true∧aO E.mem v s:=by
         intro j' k s hj' hs
         have hks:k<sz+1:=by rw[←flen j' hj'];exact (abA.1 hs).1
         unfold sj at hs
         rw[hat]
         by_cases hin:lo≤j'∧j'<lo+n
         ·rw[if_pos hin,oG,←hzz,aeX] at hs
          obtain ⟨q,rfl⟩:∃q,j'=lo+q:=⟨j' - lo,by omega⟩
          have hq:=lu (show q<n by omega) hks
          have e3:(lo+q)*(sz+1)+k=lo*(sz+1)+(q*(sz+1)+k):=by rw[asM];omega
          rw[e3,if_pos (by omega),atq,hLg q k (by omega) hks]
          cases hq2:zv.cells[k]? with
          | none=>rw[hq2] at hs;cases hs
          | some x=>
           rw[hq2] at hs;simp only[aoF,Option.some.injEq] at hs;subst hs
           exact ⟨x,rfl,hone _ _ hq2,.val x⟩
         ·rw[if_neg hin] at hs
          have hout:¬(lo*(sz+1)≤j'*(sz+1)+k∧j'*(sz+1)+k<lo*(sz+1)+n*(sz+1)):=by
           rintro ⟨h1,h2⟩
           apply hin
           rw[←asM] at h2
           constructor
           ·exact Classical.byContradiction fun hh=>by
             have:=lu (Nat.lt_of_not_le hh) hks;omega
           ·exact Classical.byContradiction fun hh=>by
             have:=alS (sz+1) (Nat.le_of_not_lt hh);omega
          rw[if_neg hout]
          obtain ⟨h1,h2⟩:=hR.hc j' k s hj' hs
          exact ⟨_,h1,h2,hR.he j' k s hj' hs⟩
        have hh2:=h.heap.write (o':=.row T' (sz+1) n' (sj f lo n (vals z))) hob (b:=b) (by simp[Env.blk,hh,aG]) hri (w':=w.setRow b vs')
         (.row T' (sz+1) n' _ _ (vs'.toList.take (n'*(sz+1))) (fun j' k=>vs'.getD (j'*(sz+1)+k) undef) hh
          ⟨by rw[ajz,al7,hvs',hR.size];have:=alS (sz+1) hR.hn;omega,.inr ⟨b,cap,vs',rfl,afc _,setRow_heap w b vs vs' T' (0,0) hR.heap,hR.hn,hR.hcap,by rw[hvs'];exact hR.size,rfl⟩⟩ hR.hmax
          flen
          (fun j' k s hj' hs=>by
           obtain ⟨v,h1,h2,h3⟩:=cellOf j' k s hj' hs
           have hks:k<sz+1:=by rw[←flen j' hj'];exact (abA.1 hs).1
           rw[alD,if_pos (lu hj' hks),aeX,aeC,h1]
           exact ⟨rfl,h2⟩)
          (fun j' k s hj' hs=>by
           obtain ⟨v,h1,h2,h3⟩:=cellOf j' k s hj' hs
           rw[aeC,h1];exact h3)) rfl rfl rfl (by simp) (fun k hk=>setRow_other w b k vs' hk)
        refine ⟨w.setRow b vs',?_,aD (h.fQ (st':=st.bX i (some (.row T' (sz+1) n' (sj f lo n (vals z))))) (Env.Le.refl E) rfl hh2 ⟨rfl,rfl⟩ (lX hR.heap fun k hk=>setRow_other w b k vs' hk)) hnt hd hk (.any _) hn⟩
        obtain ⟨n1,rfl⟩:∃n1,n=n1+1:=⟨n-1,by omega⟩
        rw[hL] at hst
        simp[Builtin.clear_,run_underlying hu,hzrun,hst]
    ·exact hk.elim
   ·exact hk.elim
  ·exact hk.elim
 ·exact hk.elim
theorem ajK {C:Ctx} {E:Env} {st:St} {a:Act} {w:World} (h:aA C E st a w) {X:bB} (hTb:X.Tb.Ok X.P) (hnt:C.nt=X.nt) (hro:C.ro=X.ro) {d:Option Nat} (hd:bQ X.nt d=true) {t t':Nat} {x y:SV} {vx vy:Value} {K:St→Prop}
  (hk:ajE X t x y d st K) (hx:aM E vx x) (hy:aM E vy y) {next:Act→World→Prop} (hn:∀st' E' a' w',K st'→aA C E' st' a' w'→next a' w') (ty:TypeId) :
  ∃v w',(Builtin.copy_ #[t,t'] ty #[vx,vy]).run X.P w=.ok v w'∧next (a.put d v) w':=by
 unfold ajE at hk
 split at hk
 case h_2=>exact hk.elim
 rename_i e _ _ _ hi
 have hu:X.P.underlying t=some (.slice e):=(hTb _ _ hi).desc
 split at hk
 case h_2=>exact hk.elim
 rename_i _ _ _ hie
 split at hk
 case h_2=>exact hk.elim
 rename_i i N lo n
 split at hk
 case h_2=>exact hk.elim
 rename_i T N' f hble hob
 split at hk
 case h_2=>exact hk.elim
 rename_i b m g
 obtain ⟨⟨rfl,hg1⟩,hk⟩:=hk
 have hri:C.ro≤i:=by rw[hro];exact aiT hble
 obtain ⟨b',vs,hh,hw,hs,hvc⟩:=(h.heap.ob i _ hob).fZ
 obtain ⟨I,hI,hIs,_⟩:=(hTb _ _ hie).info
 have hIs:I.size=1:=hIs
 cases hx with
 | asl _ _ _ _ bb c ad hh2 hle hc ha=>
  rw[hh] at hh2;cases hh2
  have hpy:aO (E.m b) vy (.seq m g):=by cases hy with | p _ _ _ hp=>exact hp
  have zero:Nat.min m n=0→(Builtin.copy_ #[t,t'] ty #[.slice (some ad) n c,vy]).run X.P w=.ok (goInt 0) w→∃v w',(Builtin.copy_ #[t,t'] ty #[.slice (some ad) n c,vy]).run X.P w=.ok v w'∧next (a.put d v) w':=by
   intro h0 hr
   refine ⟨_,w,hr,?_⟩
   rw[h0] at hk
   have e:aaJ f lo 0 g=f:=by funext k;unfold aaJ;rw[if_neg (by omega)]
   rw[e] at hk
   have hh3:=h.heap.write (o':=.arr T N' f) hob (b:=b') (by simp[Env.blk,hh,aG]) hri (w':=w) (h.heap.ob i _ hob) rfl rfl rfl rfl (fun _ _=>rfl)
   exact aD (h.fQ (st':=st.bX i (some (.arr T N' f))) (Env.Le.refl E) rfl hh3 ⟨rfl,rfl⟩ (iC.refl w)) hnt hd hk (.val _ _) hn
  rcases aq0 (Nat.min m n) with h0 | h0
  ·refine zero h0 ?_
   have h0':min m n=0:=h0
   cases hpy with
   | nil=>simp[Builtin.copy_,run_underlying hu,Builtin.lenOf,Builtin.firstCells,sizeOf,typeInfo,hI,hIs,h0',storeCells]
   | emp a0=>
    have hl0:=run_loadCells_list (P:=X.P) w a0 [] (by simp)
    simp only[aoK] at hl0
    simp[Builtin.copy_,run_underlying hu,Builtin.lenOf,Builtin.firstCells,sizeOf,typeInfo,hI,hIs,storeCells,hl0]
   | seq b2 o2=>
    have hl0:=run_loadCells_list (P:=X.P) w ⟨b2,o2,none⟩ [] (by simp)
    simp only[aoK] at hl0
    simp[Builtin.copy_,run_underlying hu,Builtin.lenOf,Builtin.firstCells,sizeOf,typeInfo,hI,hIs,h0',storeCells,hl0]
  ·have hmp:0<m∧0<n:=by have:0<min m n:=h0;omega
   obtain rfl:=ha (by omega)
   cases hpy with
   | nil=>omega
   | emp=>omega
   | seq b2 o2 _ cap sz _ cs u hm hcap hmax hl hc2 he=>
    have hsz:sz=1:=by rw[←hl 0 hmp.1,hg1 0 hmp.1]
    subst hsz
    obtain ⟨T2,fr2,hw2⟩:=h.heap.mem b2 cs (E.eO b _ _ hm)
    obtain ⟨q,hq⟩:∃q,q=Nat.min m n:=⟨_,rfl⟩
    have hqm:q≤m∧q≤n:=by have:q=min m n:=hq;omega
    have at_:∀j,j<q→∃s,(g j)[0]?=some s∧jZ (g j) 0=s:=fun j hj=>by
     have:=hg1 j (by omega)
     cases hgj:g j with
     | nil=>rw[hgj] at this;cases this
     | cons s l=>exact ⟨s,rfl,rfl⟩
    obtain ⟨L,hL⟩:∃L:List Value,L=(List.range q).map (fun j=>u j 0):=⟨_,rfl⟩
    have hLl:L.length=q:=by rw[hL];simp
    have hLg:∀j,j<q→L[j]?=some (u j 0):=fun j hj=>by rw[hL,ajs,aud hj];rfl
    have hcell:∀j,j<q→cs[o2+j]?=some (u j 0)∧(u j 0).oneCell'=true∧aO (E.m b) (u j 0) (jZ (g j) 0):=fun j hj=>by
     obtain ⟨s,h1,h2⟩:=at_ j hj
     have:=hc2 j 0 s (by omega) h1
     rw[apT,atm] at this
     exact ⟨this.1,this.2,h2▸he j 0 s (by omega) h1⟩
    have hrun:=run_copy_row (P:=X.P) w t t' ty e b' lo n c ⟨b2,o2,none⟩ m cap vs T L hu (by rw[hI];simp[hIs]) hw (by rw[hLl,hq]) (fun j v hj=>by
      have hjl:j<q:=by rw[←hLl];exact (abA.1 hj).1
      rw[hLg j hjl] at hj;cases hj
      simp only[Addr.add_lit,World.cell?,hw2]
      exact (hcell j hjl).1) (by rw[hLl];omega) (fun v hv=>by
      obtain ⟨j,hj⟩:=asD hv
      have hjl:j<q:=by rw[←hLl];exact (abA.1 hj).1
      rw[hLg j hjl] at hj;cases hj
      exact (hcell j hjl).2.1)
    generalize hvs':(vs.toList.take lo++L++vs.toList.drop (lo+L.length)).toArray=vs' at hrun
    refine ⟨_,_,hrun,?_⟩
    have hsz':vs'.size=vs.size:=by
     rw[←hvs'];simp only[atG,aaf,ajz,arP,al7];omega
    have hat:∀k,vs'[k]?=if lo≤k∧k<lo+q then L[k-lo]? else vs[k]?:=by
     intro k
     have hl1:(vs.toList.take lo).length=lo:=by rw[ajz,al7];omega
     rw[←hvs']
     simp only[aty]
     by_cases hin:lo≤k∧k<lo+q
     ·rw[if_pos hin,afk (by rw[aaf,hl1];omega),agH (by omega),hl1]
     ·rw[if_neg hin]
      by_cases hlt:k<lo
      ·rw[afk (by rw[aaf,hl1];omega),afk (by omega),alD,if_pos hlt,aeX]
      ·rw[agH (by rw[aaf,hl1];omega),aaf,hl1,hLl,aqX,show lo+q+(k-(lo+q))=k by omega,aeX]
    rw[←hq] at hk
    refine ab2 h hnt hd hob hri hh hw ⟨by omega,hs.2⟩ (fun k hk2=>?_) (.val _ _) (by rw[hLl];exact hk) hn
    rw[hat k]
    unfold aaJ
    by_cases hin:lo≤k∧k<lo+q
    ·rw[if_pos hin,if_pos hin,hLg _ (by omega)]
     obtain ⟨c1,c2,c3⟩:=hcell (k-lo) (by omega)
     exact ⟨_,rfl,c2,c3.mono (E.eO b)⟩
    ·rw[if_neg hin,if_neg hin]
     exact hvc k hk2
theorem anS {μ:Nat→Option (Array Value)} {u v:Value} (h:aO μ u (aaj v)):u=v:=by
 cases v with
 | agg cs=>
  obtain ⟨vs,rfl,hl,h1,he⟩:=h.jW
  have hsz:vs.size=cs.size:=by simpa using hl
  congr 1
  apply atY
  intro k
  rcases asE k vs.size with hk | hk
  ·have h2:=he k vs[k] (.val cs[k]) (aex hk) (by rw[hsz] at hk;simp[hk])
   rw[aex hk,h2.aN,aex (by omega)]
  ·rw[aoB hk,aoB (by omega)]
 | _=>exact h.aN
theorem uW:∀{l:List PV},gu l=true→∀(k:Nat) s,l[k]?=some s→∃v,s=.val v
 | [],_,k,s,h=>by simp at h
 | .val v :: l,ha,k,s,h=>by
  cases k with
  | zero=>simp at h;exact ⟨v,h.symm⟩
  | succ k=>exact uW (l:=l) ha k s (by simpa using h)
 | .seq _ _ :: l,ha,k,s,h=>by simp[gu] at ha
 | .pt _ _ :: l,ha,k,s,h=>by simp[gu] at ha
 | .agg _ :: l,ha,k,s,h=>by simp[gu] at ha
 | .tup _ :: l,ha,k,s,h=>by simp[gu] at ha
 | .fn _ _ :: l,ha,k,s,h=>by simp[gu] at ha
theorem ae1 {μ μ':Nat→Option (Array Value)} {n:Nat} {f:Nat→PV} {v:Value} (h:∀k,k<n→gu [f k]=true) (hv:aO μ v (.arr n f)):aO μ' v (.arr n f):=by
 obtain ⟨vs,rfl,hs,hc⟩:=hv.fZ
 refine aO.q8 hs fun k hk=>?_
 obtain ⟨u,h1,h2,h3⟩:=hc k hk
 obtain ⟨x,hx⟩:=uW (h k hk) 0 (f k) rfl
 refine ⟨u,h1,h2,?_⟩
 rw[hx] at h3 ⊢
 rw[h3.aN];exact .val _
theorem akk {E:Env} {b:Bool} {d:PV} {v:Value} (h:wH b d) (hv:aO (E.m b) v d):aO (E.m true) v d:=by
 cases b with
 | true=>exact hv
 | false=>
  cases d with
  | val u=>obtain rfl:=hv.aN;exact .val _
  | agg l=>
   simp only[wH] at h
   split at h
   ·rename_i ha
    obtain ⟨vs,rfl,hl,h1,he⟩:=hv.jW
    refine .agg vs l hl h1 fun k u s hu hs=>?_
    obtain ⟨w,rfl⟩:=uW ha k s hs
    obtain rfl:=(he k u _ hu hs).aN
    exact .val _
   ·exact h.elim
  | arr n f=>exact ae1 h hv
  | _=>exact h.elim
theorem yR {E:Env}:∀(ss:List SV) (x:List PV),mO ss x→ss.length=x.length∧∀(k:Nat) s d u,ss[k]?=some s→x[k]?=some d→aM E u s→aO (E.m true) u d
 | [],[],_=>by simp
 | [],_ :: _,h=>by simp[mO] at h
 | s :: ss,[],h=>by cases s<;>simp[mO] at h
 | s :: ss,v :: vs,h=>by
  have one:∀{b:Bool} {d x:PV} {u:Value},xU b d x→aM E u (.p b d)→aO (E.m true) u x:=fun h1 h2=>by
   cases h2 with | p _ _ _ hp=>exact oV h1.2 (akk h1.1 hp)
  have h':(∃b d,s=.p b d∧xU b d v)∧(mO ss vs):=by
   cases s with
   | p b d=>
    cases ss with
    | nil=>cases vs with
     | nil=>exact ⟨⟨b,d,rfl,h⟩,trivial⟩
     | cons _ _=>exact ⟨⟨b,d,rfl,h.1⟩,h.2⟩
    | cons _ _=>exact ⟨⟨b,d,rfl,h.1⟩,h.2⟩
   | _=>simp[mO] at h
  obtain ⟨⟨b,d,rfl,hd⟩,hr⟩:=h'
  obtain ⟨h1,h2⟩:=yR (E:=E) ss vs hr
  refine ⟨by simp[h1],fun k s d' u hs hv hu=>?_⟩
  cases k with
  | zero=>simp at hs hv;subst hs;subst hv;exact one hd hu
  | succ k=>exact h2 k s d' u (by simpa using hs) (by simpa using hv) hu
theorem handed {C:Ctx} {E:Env} {st:St} {w:World} (h:bq C E st w) (htm:∀b,C.tm b→∃cs,C.mem0 b=some cs):∀b cs,E.m true b=some cs→C.adY b=some cs:=by
 intro b cs hb
 simp only[Env.m] at hb
 split at hb
 ·rename_i ht
  rw[h.base] at ht
  obtain ⟨c,hc⟩:=htm b ht
  have:=h.mem0 b c hc
  rw[hb] at this;cases this
  unfold Ctx.adY
  rw[if_pos ht];exact hc
 ·cases hb
theorem aA.yielded {C:Ctx} {E:Env} {st:St} {a:Act} {w:World} (h:aA C E st a w) (hwk:C.wk.heap=#[]) {w':World} {k':Option Nat} {I1:Nat→Prop}
  (hI1:∀b,(E.I b∨(E.ws.heap.size≤b∧b<w.heap.size))→I1 b) (hI2:∀b,I1 b→b<w'.heap.size)
  (hk:gI (fun b=>E.I b∨(E.ws.heap.size≤b∧b<w.heap.size)) C.mem0 w w') (hkl:∀i b,i<C.m→(C.hd0 i).bind aG=some b→w'.heap[b]?=w.heap[b]?) (hj:C.J k' I1 w') :
  aA C { E with ws:=w',I:=I1,k:=k' } { st with k:=k' } a w':=by
 have hmine:∀b,E.mine b→b<w.heap.size→(E.I b∨(E.ws.heap.size≤b∧b<w.heap.size)):=fun b hb hlt=>hb.elim (fun x=>.inr ⟨x,hlt⟩) .inl
 have hle:E.Le { E with ws:=w',I:=I1,k:=k' }:=⟨fun _ _ h=>h,fun _ _ h=>h,rfl⟩
 have hlt:∀i b,i<C.m→E.blk i=some b→w'.heap[b]?=w.heap[b]?:=fun i b hi hb=>hkl i b hi (by
  have:=h.heap.mkh
  rw[←h.heap.hd0 i (by omega)];exact hb)
 refine ⟨h.size,fun t=>(h.slot t).mono hle,⟨fun i o ho=>?_,h.heap.sep,fun i o b ho hb=>?_,fun b cs hb=>?_,h.heap.mem0,fun b cs hb=>?_,h.heap.new,h.heap.base,⟨?_,?_,?_,?_,aha _,?_,hI2,fun _ _ _=>rfl,hj⟩,h.heap.hd0,h.heap.mno,h.heap.mkh,rfl⟩,?_⟩
 ·refine ((h.heap.ob i o ho).mono hle).world fun b hb=>?_
  have hb':E.blk i=some b:=hb
  rcases (h.heap.own i o b ho hb').2.2 with this | this
  ·exact hk.own b (hmine b this ((h.heap.ob i o ho).gq hb'))
  ·exact hlt i b this.1 hb'
 ·obtain ⟨g1,g2,g3⟩:=h.heap.own i o b ho hb
  exact ⟨g1,g2,g3.imp (fun x=>.inr (hI1 b (hmine b x ((h.heap.ob i o ho).gq hb)))) id⟩
 ·rcases h.heap.memnew b cs hb with h1 | h1
  ·exact hk.mem b cs h1 (h.heap.mem b cs hb)
  ·obtain ⟨T,fr,hw⟩:=h.heap.mem b cs hb
   exact ⟨T,fr,by rw[hk.own b (hmine b h1.2 (h.heap.lY hb))];exact hw⟩
 ·rcases h.heap.memnew b cs hb with h1 | h1
  ·exact .inl h1
  ·exact .inr ⟨h1.1,.inr (hI1 b (hmine b h1.2 (h.heap.lY hb)))⟩
 ·exact hk.os.trans h.heap.fr.os
 ·exact hk.tape.trans h.heap.fr.tape
 ·exact hk.output.trans h.heap.fr.output
 ·exact aln (aln h.heap.fr.bsz h.heap.fr.wsz) hk.size
 ·exact ⟨hk.os.trans h.heap.fr.os,hk.tape.trans h.heap.fr.tape,hk.output.trans h.heap.fr.output⟩
 ·obtain ⟨_,l,l0,l1,l2,l3⟩:=h.marks
  refine ⟨fun D o hD _=>by rw[hwk] at hD;simp at hD,l,l0,l1,l2,fun D hD=>?_⟩
  obtain ⟨⟨d1,d2⟩,d3⟩:=l3 D hD
  have:=hmine D d2 (abB.1 d3).1
  exact ⟨⟨d1,.inr (hI1 D this)⟩,by rw[hk.own D this];exact d3⟩
theorem aA.sync {C:Ctx} {E:Env} {st:St} {a:Act} {w:World} (h:aA C E st a w) (hs:ac8 C.J):C.J E.k (fun b=>E.I b∨(E.ws.heap.size≤b∧b<w.heap.size)) w:=
 hs _ _ _ _ _ h.heap.fr.sync (fun b hb=>.inl hb) (fun b hb=>hb.imp id (fun x=>x.1)) (fun b hb=>hb.elim (fun x=>aov (h.heap.fr.isz b x) h.heap.fr.wsz) (fun x=>x.2)) (h.heap.fr.os.trans h.heap.fr.wos.1.symm) (h.heap.fr.tape.trans h.heap.fr.wos.2.1.symm) (h.heap.fr.output.trans h.heap.fr.wos.2.2.symm) h.heap.fr.wsz h.heap.fr.block
theorem ais {C:Ctx} {E:Env} {st:St} {a:Act} {w:World} (h:aA C E st a w) {X:bB} (hnt:C.nt=X.nt) {F:Fence} (hcm:CX C X F) {o:Oper} (hd:bQ X.nt o.dst=true) {f:Operand} {args:Array Operand} {ts:Array TypeId} (ho:o.op=.call ⟨.value f,args,ts⟩)
  {K:St→Prop} {l:Nat} (hfe:a.eval f=.func (.yield l) #[] #[]) (hk:agM X l (evs st args.toList) o.dst st K) {next:Act→World→Prop} {Q:Exit→Act→World→Prop}
  (hn:∀st' E' a' w',K st'→aA C E' st' a' w'→next a' w'):o.wpIn F 9 X.P a w next Q:=by
 have hnd:∀c',o.op≠.defer c':=by simp[ho]
 unfold agM at hk
 split at hk
 ·rename_i l' xs fr ob no k hyl
  obtain ⟨rfl,vs,hvs,hargs,hk1,hk2⟩:=hk
  obtain ⟨Y,hF⟩:=hcm.y _ _ hyl
  subst hF
  obtain ⟨e1,e2⟩:=oN h args.toList
  obtain ⟨g1,g2⟩:=yR (E:=E) _ _ hargs
  have hav:aej C.adY (args.map a.eval) vs:=by
   refine ⟨by rw[←g1,e1];simp,fun q u s hu hs=>?_⟩
   have hq:q<args.size:=by have:=(abB.1 hu).1;simpa using this
   have hq2:q<(evs ⟨fr,ob,no,some k⟩ args.toList).length:=by rw[e1];simpa using hq
   exact (g2 q _ s u (abn hq2) hs (e2 q _ _ (by simpa using hu) (abn hq2))).mono (handed h.heap Y.tm)
  have hkE:E.k=some k:=h.heap.kk
  have hsync:=h.heap.fr.sync
  rw[hkE] at hsync
  have hJ:C.J (some k) (fun b=>E.I b∨(E.ws.heap.size≤b∧b<w.heap.size)) w:=
   Y.ab1 _ _ _ _ _ hsync (fun b hb=>.inl hb) (fun b hb=>hb.imp id (fun x=>x.1)) (fun b hb=>hb.elim (fun x=>aov (h.heap.fr.isz b x) h.heap.fr.wsz) (fun x=>x.2)) (h.heap.fr.os.trans h.heap.fr.wos.1.symm) (h.heap.fr.tape.trans h.heap.fr.wos.2.1.symm) (h.heap.fr.output.trans h.heap.fr.wos.2.2.symm) h.heap.fr.wsz h.heap.fr.block
  obtain ⟨fn,tmps,assign,body,hy,hround⟩:=Y.at_ k vs (args.map a.eval) _ w hvs hav hJ
  refine ⟨fun g _=>trivial,?_⟩
  have hrun:(execOp a.eval o).run X.P w=.ok (.round l fn tmps assign body) w:=by
   simp[execOp,ho,resolve,hfe,Deferred.ofValue,invoke,hy]
  rw[Oper.semAt_plain Fence.wide _ _ hnd,hrun]
  rw[Oper.uponIn_round]
  refine ⟨fun hdep=>(by simp[Fence.wide] at hdep),?_⟩
  have hround':RoundIn Fence.wide 8 X.P l fn tmps assign body w _:=⟨trivial,fun c cs _=>hround.2 c cs (room_wide _)⟩
  refine hround'.mono ?_
  have hlt:∀w':World,w.heap.size≤w'.heap.size→∀b,(E.I b∨(E.ws.heap.size≤b∧b<w.heap.size))→b<w'.heap.size:=fun w' hs b hb=>hb.elim (fun x=>aov (h.heap.fr.isz b x) (aln h.heap.fr.wsz hs)) (fun x=>aov x.2 hs)
  rintro e w' ⟨⟨hk,hkl⟩,⟨rfl,hj⟩ | ⟨rfl,hj⟩⟩
  ·exact aD (h.yielded Y.wk (fun _ x=>x) (hlt w' hk.size) hk hkl hj) hnt hd hk1 (.val _ _) hn
  ·exact aD (h.yielded Y.wk (fun _ x=>x) (hlt w' hk.size) hk hkl hj) hnt hd hk2 (.val _ _) hn
 ·exact hk.elim
theorem afm {C:Ctx} {E:Env} {st:St} {a:Act} {w:World} (h:aA C E st a w) {X:bB} (hnt:C.nt=X.nt) (hro:C.ro=X.ro) {F:Fence} (hcm:CX C X F) {o:Oper} (hd:bQ X.nt o.dst=true) {f:Operand} {args:Array Operand} {ts:Array TypeId} (ho:o.op=.call ⟨.value f,args,ts⟩)
  (hF:gY F) {K:St→Prop} {g:Nat} {capt:List SV} {cvs:Array Value} (hfe:a.eval f=.func (.func g) #[] cvs) (hcl:cvs.size=capt.length) (hce:∀(q:Nat) (u:Value) (s:SV),cvs[q]?=some u→capt[q]?=some s→aM E u s)
  (hk:aho X g (evs st args.toList++capt) o.dst st K) {next:Act→World→Prop} {Q:Exit→Act→World→Prop}
  (hn:∀st' E' a' w',K st'→aA C E' st' a' w'→next a' w'):o.wpIn F 9 X.P a w next Q:=by
 have hnd:∀c',o.op≠.defer c':=by simp[ho]
 obtain ⟨e1,e2⟩:=oN h args.toList
 have hsz:(args.map a.eval++cvs).size=(evs st args.toList++capt).length:=by simp[e1,hcl]
 have hvs:∀(q:Nat) (u:Value) (s:SV),(args.map a.eval++cvs)[q]?=some u→(evs st args.toList++capt)[q]?=some s→aM E u s:=by
  intro q u s hu hs
  by_cases hq:q<args.size
  ·rw[aoC (by simpa using hq)] at hu
   rw[afk (by rw[e1];simpa using hq)] at hs
   exact e2 q u s (by simpa using hu) hs
  ·rw[atp (by simp;omega)] at hu
   rw[agH (by rw[e1];simp;omega)] at hs
   rw[e1] at hs
   simp only[Array.size_map] at hu
   simp only[al7] at hs
   exact hce _ u s hu hs
 unfold aho at hk
 split at hk
 ·rename_i l xs fr ob no k hyl
  obtain ⟨S,⟨⟨fn,hfn,hb,hnm⟩,hS⟩,a0,js,⟨hdist,hjl,hlend⟩,hargs,hobs,hpre,hys,hk1,hk2⟩:=hk
  obtain ⟨Y,hFw⟩:=hcm.y _ _ hyl
  subst hFw
  obtain ⟨hal,hag⟩:=acy ⟨fr,ob,no,some k⟩ js _ _ hargs
  obtain ⟨hl1,hl2⟩:=aup.1 hlend
  have hheap:=qU h.heap hdist (lend:=false) (ro:=(S.objs l a0).length) (t:=E.tm) hobs (fun h1=>by rw[hl2] at h1;cases h1)
  have hA:jV (aR E ⟨fr,ob,no,some k⟩ w js false (S.objs l a0) (S.objs l a0).length E.tm) (args.map a.eval++cvs) (S.args l a0):=by
   refine ⟨by omega,fun q u c hu hc=>?_⟩
   have hka:q<(evs ⟨fr,ob,no,some k⟩ args.toList++capt).length:=by rw[←hsz];exact (abB.1 hu).1
   have hs:=abn hka
   obtain ⟨l1,l2⟩:=lM (evs ⟨fr,ob,no,some k⟩ args.toList++capt) (S.args l a0) q
   exact alx h.heap (hag q _ c hs hc) (fun hl=>by rw[←hl1];exact l1 _ c hs hc hl)
    (fun f l' f' m e1 e2 e3=>by rw[←hl1];exact l2 f l' f' m (by rw[hs,e1]) (by rw[hc,e2]) e3) (hvs q u _ hu hs)
  obtain ⟨I0,hI0⟩:∃I0:Nat→Prop,I0=fun b=>E.I b∨(E.ws.heap.size≤b∧b<w.heap.size):=⟨_,rfl⟩
  have hI0lt:∀b,I0 b→b<w.heap.size:=fun b hb=>by rw[hI0] at hb;exact hb.elim (fun x=>aov (h.heap.fr.isz b x) h.heap.fr.wsz) (fun x=>x.2)
  have hmine:∀b,E.mine b→b<w.heap.size→I0 b:=fun b hb hlt=>by rw[hI0];exact hb.elim (fun x=>.inr ⟨x,hlt⟩) .inl
  obtain ⟨CL,hCL⟩:∃CL:Nat→Prop,CL=fun b=>∃i,i<C.m∧(C.hd0 i).bind aG=some b:=⟨_,rfl⟩
  have hCLlt:∀b,CL b→b<w.heap.size:=fun b hb=>by
   rw[hCL] at hb
   obtain ⟨i,hi,hb⟩:=hb
   have:=hcm.lent i b hi hb
   exact aov this (aln h.heap.fr.bsz h.heap.fr.wsz)
  have hkE:E.k=some k:=h.heap.kk
  have hsync:=h.sync Y.ab1
  rw[hkE,←hI0] at hsync
  obtain ⟨J',hJ'⟩:∃J':Option Nat→(Nat→Prop)→World→Prop,J'=fun q I W=>C.J (q.map (k+·)) (fun b=>I b∨I0 b) W∧(∀b,I b→w.heap.size≤b)∧(∀b,I0 b∨CL b→W.heap[b]?=w.heap[b]?)∧acF E.mem W∧w.heap.size≤W.heap.size∧(W.os=w.os∧W.tape=w.tape∧W.output=w.output):=⟨_,rfl⟩
  have hst:ac8 J':=by
   rw[hJ']
   intro q I I' W W' ⟨j1,j2,j3,j4,j5,j6⟩ i1 i2 i3 o1 o2 o3 s1 b1
   have hlow:∀b,b<w.heap.size→W'.heap[b]?=W.heap[b]?:=fun b hb=>b1 b (by omega) fun hh=>by have:=j2 b hh;omega
   refine ⟨Y.ab1 _ _ _ _ _ j1 (fun b hb=>hb.imp (i1 b) id) (fun b hb=>hb.elim (fun x=>(i2 b x).imp .inl id) (fun x=>.inl (.inr x))) (fun b hb=>hb.elim (i3 b) fun x=>by have:=hI0lt b x;omega) o1 o2 o3 s1 (fun b hb hn=>b1 b hb fun x=>hn (.inl x)),fun b hb=>(i2 b hb).elim (j2 b) (fun x=>by omega),fun b hb=>?_,fun b cs hb=>?_,by omega,o1.trans j6.1,o2.trans j6.2.1,o3.trans j6.2.2⟩
   ·rw[hlow b (hb.elim (hI0lt b) (hCLlt b))];exact j3 b hb
   ·obtain ⟨T,f2,hw⟩:=j4 b cs hb
    exact ⟨T,f2,by rw[hlow b (h.heap.lY hb)];exact hw⟩
  have hJ0:J' (some 0) (fun _=>False) w:=by
   rw[hJ']
   refine ⟨?_,fun b hb=>hb.elim,fun _ _=>rfl,h.heap.mem,aha _,rfl,rfl,rfl⟩
   have e:(fun b=>False∨I0 b)=I0:=by funext b;simp
   show C.J (some (k+0)) (fun b=>False∨I0 b) w
   rw[e];exact hsync
  have hcmem:∀b cs,(aR E ⟨fr,ob,no,some k⟩ w js false (S.objs l a0) (S.objs l a0).length E.tm).mem b=some cs→E.mem b=some cs:=fun b cs hb=>lS hb
  have hlb:∀i b,i<(S.objs l a0).length→((aR E ⟨fr,ob,no,some k⟩ w js false (S.objs l a0) (S.objs l a0).length E.tm).hd i).bind aG=some b→I0 b∨CL b:=fun i b hi hb=>by
   have hj:js[i]?=some js[i]:=abn (by omega)
   have hb:E.blk js[i]=some b:=by simpa [aR,hj,Env.blk] using hb
   obtain ⟨_,hget⟩:=mJ ⟨fr,ob,no,some k⟩ js js _ hobs
   have hM:=hget i js[i] _ hj (abn hi)
   obtain ⟨o',ho'⟩:∃o',St.obj ⟨fr,ob,no,some k⟩ js[i]=some o':=by
    unfold obM at hM
    cases hst:St.obj ⟨fr,ob,no,some k⟩ js[i] with
    | some o'=>exact ⟨o',rfl⟩
    | none=>rw[hst] at hM;split at hM<;>exact hM.elim
   rcases (h.heap.own _ _ _ ho' hb).2.2 with hm | hm
   ·exact .inl (hmine b hm ((h.heap.ob _ _ ho').gq hb))
   ·refine .inr ?_
    rw[hCL]
    have:=h.heap.mkh
    exact ⟨js[i],hm.1,by rw[←h.heap.hd0 _ (by omega)];exact hb⟩
  have hcalls:=hS a0 hpre l J' _ (args.map a.eval++cvs) w hst (fun b hb=>by
   have hb:E.tm b:=hb
   rw[h.heap.base] at hb
   obtain ⟨cs,hc⟩:=Y.tm b hb
   exact ⟨cs,fC (h.heap.mem0 _ _ hc)⟩) (fun i x us I W1 hx hus hJ1=>by
   rw[hJ'] at hJ1
   obtain ⟨j1,j2,j3,j4,j5,j6⟩:=hJ1
   obtain ⟨fn1,t1,as1,bd1,hy1,hr1⟩:=Y.at_ (k+i) x us _ W1 (hys i x hx) ⟨hus.1,fun q u s hu hs=>(hus.2 q u s hu hs).mono fun b cs hb=>handed h.heap Y.tm b cs (by
    simp only[Env.m] at hb ⊢
    split at hb
    ·rename_i ht
     rw[if_pos (show E.tm b from ht)]
     exact hcmem _ _ hb
    ·cases hb)⟩ j1
   refine ⟨fn1,t1,as1,bd1,hy1,hr1.mono ?_⟩
   rintro e W' ⟨⟨kk,kl⟩,hj⟩
   have hkeep:∀b,I0 b∨CL b→W'.heap[b]?=W1.heap[b]?:=fun b hb=>hb.elim (fun x=>kk.own b (.inr x)) fun x=>by
    rw[hCL] at x
    obtain ⟨i,hi,hb⟩:=x
    exact kl i b hi hb
   have hmem:∀b cs,E.mem b=some cs→ac0 W1 b cs→ac0 W' b cs:=fun b cs hb ha=>by
    rcases h.heap.memnew b cs hb with h1 | h1
    ·exact kk.mem b cs h1 ha
    ·obtain ⟨T,f2,hw⟩:=ha
     exact ⟨T,f2,by rw[hkeep b (.inl (hmine b h1.2 (h.heap.lY hb)))];exact hw⟩
   have hJn:∀q,C.J (q.map (k+·)) (fun b=>I b∨I0 b) W'→J' q I W':=fun q hq=>by
    rw[hJ']
    exact ⟨hq,j2,fun b hb=>(hkeep b hb).trans (j3 b hb),fun b cs hb=>hmem b cs hb (j4 b cs hb),aln j5 kk.size,kk.os.trans j6.1,kk.tape.trans j6.2.1,kk.output.trans j6.2.2⟩
   refine ⟨⟨⟨kk.os,kk.tape,kk.output,kk.size,fun b hb=>kk.own b (.inl hb),fun b cs hb ha=>hmem b cs (hcmem b cs hb) ha⟩,fun i b hi hb=>hkeep b (hlb i b hi hb)⟩,?_⟩
   rcases hj with ⟨rfl,hj⟩ | ⟨rfl,hj⟩
   ·exact .inl ⟨rfl,hJn (some (i+1)) hj⟩
   ·exact .inr ⟨rfl,hJn none hj⟩) hJ0 hheap hA
  refine ⟨fun g _=>trivial,?_⟩
  have hrun:(execOp a.eval o).run X.P w=.ok (.enter g (args.map a.eval++cvs)) w:=by
   simp[execOp,ho,resolve,hfe,Deferred.ofValue,invoke,mX hfn hb hnm]
  rw[Oper.semAt_plain Fence.wide _ _ hnd,hrun]
  rw[Oper.uponIn_enter]
  refine ⟨fun hdep=>(by simp[Fence.wide] at hdep),(wC hcalls).mono ?_⟩
  rintro e W' ⟨I,hIlt,hj⟩
  have hfin:∀q,J' q I W'→aA C { E with ws:=W',I:=fun b=>I b∨I0 b,k:=q.map (k+·) } ⟨fr,ob,no,q.map (k+·)⟩ a W':=fun q hq=>by
   rw[hJ'] at hq
   obtain ⟨j1,j2,j3,j4,j5,j6⟩:=hq
   refine h.yielded (I1:=fun b=>I b∨I0 b) Y.wk (fun b hb=>.inr (by rw[hI0];exact hb)) (fun b hb=>hb.elim (hIlt b) fun x=>by have:=hI0lt b x;omega)
    ⟨j6.1,j6.2.1,j6.2.2,j5,fun b hb=>j3 b (.inl (by rw[hI0];exact hb)),fun b cs hb _=>j4 b cs (h.heap.mem0 b cs hb)⟩ (fun i b hi hb=>j3 b (.inr (by rw[hCL];exact ⟨i,hi,hb⟩))) j1
  rcases hj with ⟨rfl,hj⟩ | ⟨rfl,hj⟩
  ·exact aD (hfin _ hj) hnt hd hk1 (.val _ _) hn
  ·exact aD (hfin _ hj) hnt hd hk2 (.val _ _) hn
 ·exact hk.elim
theorem adU {gr:Bool} {C:Ctx} {E:Env} {st:St} {a:Act} {w:World} (h:aA C E st a w) {X:bB} (hTb:X.Tb.Ok X.P) (hnt:C.nt=X.nt) (hro:C.ro=X.ro) {F:Fence} (hcm:CX C X F) {o:Oper} (hd:bQ X.nt o.dst=true) {c:Call} (ho:o.op=.call c)
  (hF:gY F) {K:St→Prop} (hk:xG X gr c o st K) {next:Act→World→Prop} {Q:Exit→Act→World→Prop}
  (hn:∀st' E' a' w',K st'→aA C E' st' a' w'→(gr=true→iD o.op=true→Grow w w')→next a' w'):o.wpIn F 9 X.P a w next Q:=by
 have hnd:∀c',o.op≠.defer c':=by simp[ho]
 unfold xG at hk
 split at hk
 ·rename_i f args _
  split at hk
  ·rename_i k capt hf
   have hfv:=aH h f
   rw[hf] at hfv
   generalize hfe:a.eval f=v at hfv
   cases hfv with
   | fn _ cvs _ hcl hce=>
    split at hk
    ·exact afm h hnt hro hcm hd ho hF hfe hcl hce hk fun st' E' a' w' hk' h'=>hn st' E' a' w' hk' h' (by simp)
    ·exact hk.elim
    ·split at hk
     ·exact yw h hnt hro hcm.gl hcm.nw hd ho hF hfe hcl hce hk hn
     ·exact agK h hnt hro hcm hd ho hF hfe hcl hce hk fun st' E' a' w' hk' h'=>hn st' E' a' w' hk' h' (by simp)
     ·exact hk.elim
  ·rename_i b k capt hf
   have hfv:=aH h f
   rw[hf] at hfv
   generalize hfe:a.eval f=v at hfv
   cases hfv with
   | p _ _ _ hp=>cases hp with
    | fn _ cvs _ hcl hce=>
     refine yw h hnt hro hcm.gl hcm.nw hd ho hF hfe (by rw[mh];exact hcl) (fun q u s hu hs=>?_) hk hn
     rw[iK] at hs
     cases hd':capt[q]? with
     | none=>simp[hd'] at hs
     | some d=>simp[hd'] at hs;subst hs;exact .p _ _ _ (hce q u d hu hd')
  ·rename_i b k l hf
   have hfv:=aH h f
   rw[hf] at hfv
   generalize hfe:a.eval f=v at hfv
   cases hfv with
   | p _ _ _ hp=>cases hp with
    | bnd _ cvs _ hcl hce=>
     refine aft h hnt hro hcm.gl hcm.nw hd ho hF hfe (by rw[mh];exact hcl) (fun q u s hu hs=>?_) hk hn
     rw[iK] at hs
     cases hd':l[q]? with
     | none=>simp[hd'] at hs
     | some d=>simp[hd'] at hs;subst hs;exact .p _ _ _ (hce q u d hu hd')
  ·rename_i b l hf
   have hfv:=aH h f
   rw[hf] at hfv
   cases gr with
   | true=>exact hk.elim
   | false=>exact ais h hnt hcm hd ho hfv.aN hk fun st' E' a' w' hk' h'=>hn st' E' a' w' hk' h' (by simp)
  ·exact hk.elim
 ·rename_i s x t t'
  cases htt:t.beq t' with
  | false=>
   simp only[htt] at hk
   obtain ⟨v',w',hr,hnx⟩:=yx h hTb hnt hcm.m hd (aH h s) (aH h x) hk (fun st' E' a' w' hk' h' _=>hn st' E' a' w' hk' h' (by simp[iD,ho])) o.type
   refine dH hF hnd (v:=v') (w':=w') ?_ hnx
   simp only[execOp,ho,resolve,invoke,builtin,Sem.run_bind,Sem.run_pure,Result.andThen_ok,atV,aoM,atU,hr]
  | true=>
   obtain rfl:=agf htt
   simp only[htt] at hk
   obtain ⟨v',w',hr,hnx⟩:=yS h hTb hnt hro hcm.m hd (aH h s) (aH h x) hk (fun st' E' a' w' hk' h' _=>hn st' E' a' w' hk' h' (by simp[iD,ho])) o.type
   refine dH hF hnd (v:=v') (w':=w') ?_ hnx
   simp only[execOp,ho,resolve,invoke,builtin,Sem.run_bind,Sem.run_pure,Result.andThen_ok,atV,aoM,atU,hr]
 ·rename_i x y _
  split at hk
  ·rename_i _ k a0 _ k' b0 hx hy
   have hxv:=aH h x
   have hyv:=aH h y
   rw[hx] at hxv
   rw[hy] at hyv
   have hxe:=hxv.aN
   have hye:=hyv.aN
   refine dH hF hnd (v:=.int k (if b0<a0 then b0 else a0)) (w':=w) ?_ (dM h hnt hd hk (.val _ _) fun st' E' a' w' hk' h' hw=>hn st' E' a' w' hk' h' fun _ _=>hw▸Grow.refl w)
   simp[execOp,ho,resolve,invoke,builtin,Builtin.min_,Builtin.min2,hxe,hye]
  ·exact hk.elim
 ·rename_i x y _
  split at hk
  ·rename_i _ k a0 _ k' b0 hx hy
   have hxv:=aH h x
   have hyv:=aH h y
   rw[hx] at hxv
   rw[hy] at hyv
   have hxe:=hxv.aN
   have hye:=hyv.aN
   refine dH hF hnd (v:=.int k (if b0>a0 then b0 else a0)) (w':=w) ?_ (dM h hnt hd hk (.val _ _) fun st' E' a' w' hk' h' hw=>hn st' E' a' w' hk' h' fun _ _=>hw▸Grow.refl w)
   simp[execOp,ho,resolve,invoke,builtin,Builtin.max_,Builtin.max2,hxe,hye]
  ·exact hk.elim
 ·rename_i x y t t'
  obtain ⟨v,w',hr,hnx⟩:=ajK (t':=t') h hTb hnt hro hd hk (aH h x) (aH h y) (fun st' E' a' w' hk' h'=>hn st' E' a' w' hk' h' (by simp[iD,ho])) o.type
  refine dH hF hnd (v:=v) (w':=w') ?_ hnx
  simp only[execOp,ho,resolve,invoke,builtin,Sem.run_bind,Sem.run_pure,Result.andThen_ok,atV,aoM,atU,hr]
 ·rename_i x t
  obtain ⟨w',hr,hnx⟩:=ah6 h hTb hnt hro hd hk (aH h x) (fun st' E' a' w' hk' h'=>hn st' E' a' w' hk' h' (by simp[iD,ho])) o.type
  refine dH hF hnd (v:=.tuple #[]) (w':=w') ?_ hnx
  simp only[execOp,ho,resolve,invoke,builtin,Sem.run_bind,Sem.run_pure,Result.andThen_ok,atV,aoM,atU,hr]
 ·exact hk.elim
theorem afq {C:Ctx} {E:Env} {st:St} {a:Act} {w:World} {R:World→Prop} (h:aA C E st a w) {X:bB} (hTb:X.Tb.Ok X.P) (hnt:C.nt=X.nt) {o:Oper} (hR:∀w1,R w1→fH o.op=true→Grow w w1) (hd:bQ X.nt o.dst=true) {c:Call} (ho:o.op=.call c)
  {K:St→Prop} (hk:aeh X c o st K) {next:Act→World→Prop}
  (hn:∀st' E' a' w',K st'→aA C E' st' a' w'→next a' w'):aT R X.P o a w next:=by
 unfold aeh at hk
 split at hk
 ·rename_i x t
  split at hk
  ·rename_i hi
   have hu:X.P.underlying t=some .string:=(hTb _ _ hi).desc
   split at hk
   ·rename_i _ s hx
    have hxv:=aH h x
    rw[hx] at hxv
    have hxe:=hxv.aN
    exact aT.mk' (v:=.int .i64 s.size) (fun w1 hg=>by simp[execOp,ho,resolve,invoke,builtin,Builtin.len_,run_underlying hu,hxe,goInt]) (aD h hnt hd hk (.val _ _) hn)
   ·exact hk.elim
  ·rename_i e _ _ _ hi
   have hu:X.P.underlying t=some (.slice e):=(hTb _ _ hi).desc
   have go:∀(n:Nat),(∃(ad:Option Addr) (c:Nat),a.eval x=.slice ad n c)→aS st o.dst (.p true (.val (.int .i64 n))) K→aT R X.P o a w next:=by
    rintro n ⟨ad,c,hx⟩ hk
    exact aT.mk' (v:=.int .i64 n) (fun w1 hg=>by simp[execOp,ho,resolve,invoke,builtin,Builtin.len_,run_underlying hu,hx,goInt]) (aD h hnt hd hk (.val _ _) hn)
   split at hk
   ·rename_i b n f hx
    have hxv:=aH h x
    rw[hx] at hxv
    refine go n ?_ hk
    generalize a.eval x=v at hxv
    cases hxv with
    | p _ _ _ hp=>
     cases hp with
     | nil=>exact ⟨_,_,rfl⟩
     | emp=>exact ⟨_,_,rfl⟩
     | seq=>exact ⟨_,_,rfl⟩
   ·rename_i b hx
    have hxv:=aH h x
    rw[hx] at hxv
    exact go 0 ⟨_,_,hxv.aN⟩ hk
   ·rename_i i hx
    split at hk
    ·rename_i T sz n f hob
     have hxv:=aH h x
     rw[hx] at hxv
     refine go n ?_ hk
     generalize a.eval x=v at hxv
     obtain ⟨v0,xs,u,hh,hw,_⟩:=jL (h.heap.ob _ _ hob)
     cases hxv with
     | row _ _ hh2 _=>
      rw[hh] at hh2;cases hh2
      rcases hw.2 with ⟨rfl,rfl⟩ | ⟨g,cap,cur,rfl,_⟩
      ·exact ⟨_,_,rfl⟩
      ·exact ⟨_,_,rfl⟩
    ·exact hk.elim
   ·rename_i i sz lo n hx
    have hxv:=aH h x
    rw[hx] at hxv
    refine go n ?_ hk
    generalize a.eval x=v at hxv
    cases hxv with
    | sub=>exact ⟨_,_,rfl⟩
   ·rename_i i N lo n hx
    have hxv:=aH h x
    rw[hx] at hxv
    refine go n ?_ hk
    generalize a.eval x=v at hxv
    cases hxv with
    | asl=>exact ⟨_,_,rfl⟩
   ·exact hk.elim
  ·rename_i kT eT _ _ _ hi
   have hu:X.P.underlying t=some (.map kT eT):=(hTb _ _ hi).desc
   split at hk
   ·rename_i i hx
    split at hk
    ·rename_i kt n get hob
     have hxv:=aH h x
     rw[hx] at hxv
     obtain ⟨r,hh,hxe⟩:=agt hxv
     obtain ⟨r',es,clock,hh2,hw,hsz,_⟩:=(h.heap.ob i _ hob).tQ
     rw[hh] at hh2;cases hh2
     have hrl:=(abB.1 hw).1
     refine aT.mk' (v:=.int .i64 n) (fun w1 hg=>?_) (aD h hnt hd hk (.val _ _) hn)
     have hw1:w1.heap[r]?=some (.map es clock):=by
      rw[(hR w1 hg (by simp[fH,ho])).2 r hrl];exact hw
     simp[execOp,ho,resolve,invoke,builtin,Builtin.len_,run_underlying hu,hxe,goInt,MapKept.run_getObj_map hw1,hsz]
    ·exact hk.elim
   ·exact hk.elim
  ·exact hk.elim
 ·exact hk.elim
theorem ali {C:Ctx} {E:Env} {st:St} {a:Act} {w:World} {R:World→Prop} (h:aA C E st a w) {X:bB} (hnt:C.nt=X.nt) (hcm:C.m=X.m) {o:Oper} (hd:bQ X.nt o.dst=true) {x:Operand} (ho:o.op=.assign x)
  {K:St→Prop} (hk:arQ X x o.dst st K) {next:Act→World→Prop} (hn:∀st' E' a' w',K st'→aA C E' st' a' w'→next a' w'):aT R X.P o a w next:=
 aT.mk' (v:=a.eval x) (fun w1 hg=>by simp[execOp,ho]) (xJ h hnt hcm hd (aH h x) hk hn)
theorem abm {C:Ctx} {E:Env} {st:St} {a:Act} {w:World} {R:World→Prop} (h:aA C E st a w) {X:bB} (hTb:X.Tb.Ok X.P) (hnt:C.nt=X.nt) (hcm:C.m=X.m) {o:Oper} (hR:∀w1,R w1→fH o.op=true→Grow w w1) (hd:bQ X.nt o.dst=true)
  {K:St→Prop} (hk:xR X o st K) {next:Act→World→Prop} (hn:∀st' E' a' w',K st'→aA C E' st' a' w'→next a' w'):aT R X.P o a w next:=by
 unfold xR at hk
 split at hk
 ·rename_i c ho
  exact afq h hTb hnt hR hd ho hk hn
 ·exact qN h hTb hnt hR hd hk hn
 ·exact qN h hTb hnt hR hd hk hn
 ·exact qN h hTb hnt hR hd hk hn
 ·rename_i x ho
  split at hk
  ·exact ali h hnt hcm hd ho hk hn
  ·exact wG h hTb hnt hR hd hk hn
 ·exact wG h hTb hnt hR hd hk hn
theorem aio {gr:Bool} {C:Ctx} {E:Env} {st:St} {a:Act} {w:World} (h:aA C E st a w) {X:bB} (hTb:X.Tb.Ok X.P) (hnt:C.nt=X.nt) (hro:C.ro=X.ro) {F:Fence} (hcm:CX C X F) {o:Oper} (hd:bQ X.nt o.dst=true)
  (hF:gY F) {K:St→Prop} (hk:afu X gr o st K) {next:Act→World→Prop} {Q:Exit→Act→World→Prop}
  (hn:∀st' E' a' w',K st'→aA C E' st' a' w'→(gr=true→iD o.op=true→Grow w w')→next a' w'):o.wpIn F 9 X.P a w next Q:=by
 unfold afu at hk
 split at hk
 ·rename_i c ho
  exact adU h hTb hnt hro hcm hd ho hF hk hn
 ·split at hk
  ·exact aec h hTb hnt hd hF hk fun st' E' a' w' hk' h' hg=>hn st' E' a' w' hk' h' fun _=>hg
  ·exact afs h hTb hnt hro hd hF hk fun st' E' a' w' hk' h' hg=>hn st' E' a' w' hk' h' fun _=>hg
theorem afp (s:ByteArray) (cap j:Nat) (hj:j<s.size):(bytesRow s cap)[j]?=some (.int .u8 (s.data.getD j 0).toNat):=by
 rw[bytesRow_at s cap j hj]
 have:s.data.getD j 0=s.data[j]:=by simp[Array.getD];exact dif_pos hj
 rw[this]
theorem bq.anL {C:Ctx} {E:Env} {st:St} {w w':World} (h:bq C E st w) {g:Nat} {cs:Array Value} {T:TypeId} {fr fr':Nat×Nat} (hg:E.mem g=some cs) (hm:E.mine g) (hw:w.heap[g]?=some (.cells cs T fr)) (hw':w'.heap[g]?=some (.cells cs T fr'))
  (hk:∀k,k≠g→w'.heap[k]?=w.heap[k]?) (hos:w'.os=w.os) (htape:w'.tape=w.tape) (hout:w'.output=w.output) (hsz:w'.heap.size=w.heap.size):bq C E st w':=by
 refine ⟨fun i o ho=>(h.ob i o ho).world fun b hb=>hk b fun e=>?_,h.sep,h.own,fun b cs' hb=>?_,h.mem0,h.memnew,h.new,h.base,⟨hos.trans h.fr.os,htape.trans h.fr.tape,hout.trans h.fr.output,h.fr.bsz,by rw[hsz];exact h.fr.wsz,h.fr.wos,h.fr.isz,fun k hk1 hI=>?_,h.fr.sync⟩,h.hd0,h.mno,h.mkh,h.kk⟩
 ·subst e
  have:=(h.own i o b ho hb).1
  rw[hg] at this;cases this
 ·by_cases e:b=g
  ·subst e
   rw[hg] at hb;cases hb
   exact ⟨T,fr',hw'⟩
  ·rw[hk b e];exact h.mem b cs' hb
 ·have e:k≠g:=fun e=>by
   subst e
   rcases hm with hx | hx
   ·omega
   ·exact hI hx
  rw[hk k e];exact h.fr.block k hk1 hI
theorem amf {P:Program} {w:World} {s e g:Nat} {n cap:Nat} {cs:Array Value} {T:TypeId} (hs:P.underlying s=some (.slice e)) (he:P.underlying e=some (.int .u8)) (hw:w.heap[g]?=some (.cells cs T (0,0))) :
  (convert s s (.slice (some ⟨g,0,none⟩) n cap)).run P w=.ok (.slice (some ⟨g,0,none⟩) n cap) (w.freeze ⟨g,cs.size,none⟩ 1):=by
 have hsh:w.shape? g=some (T,cs.size):=by simp[World.shape?,hw]
 simp[convert,run_underlying hs,run_underlying he,markStringish,hsh]
theorem aif {w:World} {g n:Nat} {cs:Array Value} {T:TypeId} (hw:w.heap[g]?=some (.cells cs T (0,0))):(w.freeze ⟨g,n,none⟩ 1).heap[g]?=some (.cells cs T (n,n+1)):=by
 have hg:=(abB.1 hw).1
 unfold World.freeze
 rw[if_neg (by decide)]
 show (w.heap.modify g _)[g]?=_
 rw[asH,if_pos rfl,hw];rfl
theorem wz {w:World} {g n k:Nat} (hk:k≠g):(w.freeze ⟨g,n,none⟩ 1).heap[k]?=w.heap[k]?:=by
 unfold World.freeze
 rw[if_neg (by decide)]
 show (w.heap.modify g _)[k]?=_
 rw[asH,if_neg (fun e=>hk e.symm)]
theorem ac3 {C:Ctx} {E:Env} {st:St} {a:Act} {w:World} (h:aA C E st a w) {X:bB} (hTb:X.Tb.Ok X.P) (hnt:C.nt=X.nt) (hcm:C.m=X.m) (htr:X.nw=true→∀b,C.base≤b→C.tm b) {o:Oper} (hd:bQ X.nt o.dst=true)
  {F:Fence} (hF:gY F) {K:St→Prop} (hk:vI X o st K) {next:Act→World→Prop} {Q:Exit→Act→World→Prop}
  (hn:∀st' E' a' w',K st'→aA C E' st' a' w'→next a' w'):o.wpIn F 9 X.P a w next Q:=by
 unfold vI at hk
 split at hk
 ·rename_i s t x ho
  split at hk
  ·rename_i e _ _ _ hi1 hi2
   split at hk
   ·rename_i hie
    split at hk
    ·rename_i _ v hx
     obtain ⟨hmax,hk⟩:=hk
     have hxv:=aH h x
     rw[hx] at hxv
     have hxe:=hxv.aN
     have hs:X.P.underlying s=some .string:=(hTb _ _ hi1).desc
     have hd2:X.P.underlying t=some (.slice e):=(hTb _ _ hi2).desc
     have he8:X.P.underlying e=some (.int .u8):=(hTb _ _ hie).desc
     have hrun:=run_bytes_of_string (P:=X.P) w s t e v hs hd2 he8
     generalize hcap:grownCap w v.size 0 e=cap at hrun
     generalize hcs:bytesRow v cap=cs at hrun
     have hnew:(w.drew.alloc (.cells cs e (cs.size,cs.size+1))).heap[w.heap.size]?=some (.cells cs e (cs.size,cs.size+1)):=by
      show (w.heap.push _)[w.heap.size]?=_
      simp
     have hkeep:∀k,k<w.heap.size→(w.drew.alloc (.cells cs e (cs.size,cs.size+1))).heap[k]?=w.heap[k]?:=fun k hk=>RowKit.Below.heap_alloc w.drew _ k hk
     obtain ⟨hh,hle⟩:=h.heap.adl hnew rfl rfl rfl (by show w.heap.size≤(w.heap.push _).size;simp) hkeep
     have hM:=h.fQ (st':=st) hle rfl hh ⟨rfl,rfl⟩ (iF w.drew _)
     have hb0:C.base≤w.heap.size:=aln h.heap.fr.bsz h.heap.fr.wsz
     have hvle:v.size≤cap:=by
      rw[←hcap];exact grownCap_ge w v.size 0 e
     refine dH hF (by simp[ho]) (by simp[execOp,ho,hxe,hrun]) (aD hM hnt hd hk (.p X.nw _ _ (.seq w.heap.size 0 v.size cap 1 _ cs (fun j _=>.int .u8 (v.data.getD j 0).toNat) ?_ hvle hmax (fun j hj=>rfl) (fun j k s hj hs=>?_) (fun j k s hj hs=>?_))) hn)
     ·have hmm:(E.fO w.heap.size cs).mem w.heap.size=some cs:=by simp[Env.fO]
      cases hnw:X.nw with
      | false=>exact hmm
      | true=>
       simp only[Env.m]
       rw[if_pos (show (E.fO w.heap.size cs).tm w.heap.size from by show E.tm w.heap.size;rw[h.heap.base];exact htr hnw _ hb0)]
       exact hmm
     ·cases k with
      | zero=>
       simp only[aiF,apT,atm]
       rw[←hcs,afp v cap j hj]
       exact ⟨rfl,rfl⟩
      | succ k=>simp[kN] at hs
     ·cases k with
      | zero=>obtain rfl:=Option.some.inj hs;exact .val _
      | succ k=>simp[kN] at hs
    ·exact hk.elim
   ·exact hk.elim
  ·rename_i e _ _ _ e' _ _ _ hi1 hi2
   split at hk
   ·rename_i hst hie
    obtain rfl:=agf hst
    split at hk
    ·rename_i i hx
     split at hk
     ·rename_i T sz n f hmi hob
      obtain ⟨hn0,hk⟩:=hk
      have hmi:=aiT hmi
      have hxv:=aH h x
      rw[hx] at hxv
      have hs:X.P.underlying s=some (.slice e):=(hTb _ _ hi1).desc
      have he8:X.P.underlying e=some (.int .u8):=(hTb _ _ hie).desc
      obtain ⟨v0,xs,u,hh,hw,hmax,hl,hc,he⟩:=jL (h.heap.ob _ _ hob)
      have hv:a.eval x=v0:=by
       generalize hae:a.eval x=v at hxv
       cases hxv with | row _ _ hh2 _=>rw[hh] at hh2;cases hh2;rfl
      rcases hw.2 with ⟨_,hz⟩ | ⟨g,cap,cur,hv0,_,hgw,_⟩
      ·omega
      ·obtain ⟨E',hle,hsame,hH,hfz⟩:=h.heap.freeze hob (by rw[hcm];exact hmi)
       have hP:=hfz _ hxv
       rw[hv,hv0] at hP
       have hEg:E'.mem g=some cur:=by
        cases hP with
        | emp=>omega
        | seq b o n cap sz f cs u hm=>
         obtain ⟨T',fr',hw'⟩:=hH.mem _ _ hm
         rw[hgw] at hw';cases hw';exact hm
       have hbk:E.blk i=some g:=by simp[Env.blk,hh,hv0,aG]
       obtain ⟨q1,q2,q3⟩:=h.heap.own i _ g hob hbk
       have hmine:E'.mine g:=by
        have:E.mine g:=q3.resolve_right (fun x=>by omega)
        unfold Env.mine at this ⊢
        rw[hsame.1,hsame.2];exact this
       have hH2:=hH.anL (w':=w.freeze ⟨g,cur.size,none⟩ 1) hEg hmine hgw (aif hgw) (fun k hk=>wz hk) rfl rfl rfl (by unfold World.freeze;rw[if_neg (by decide)];simp)
       have hM:=h.fQ (st':=st.bX i none) hle rfl hH2 hsame (lX hgw fun k hk=>wz hk)
       exact dH hF (by simp[ho]) (by simp[execOp,ho,hv,hv0,amf hs he8 hgw]) (aD hM hnt hd hk (.p false _ _ hP) hn)
     ·exact hk.elim
    ·exact hk.elim
   ·exact hk.elim
  ·exact hk.elim
 ·exact hk.elim
theorem ahW {gr:Bool} {C:Ctx} {E:Env} {st:St} {a:Act} {w:World} (h:aA C E st a w) {X:bB} (hTb:X.Tb.Ok X.P) (hnt:C.nt=X.nt) (hro:C.ro=X.ro) {F:Fence} (hcm:CX C X F) {o:Oper}
  (hF:gY F) {K:St→Prop} (hk:step0 X gr o st K) {next:Act→World→Prop} {Q:Exit→Act→World→Prop}
  (hn:∀st' E' a' w',K st'→aA C E' st' a' w'→(gr=true→iD o.op=true→Grow w w')→next a' w'):o.wpIn F 9 X.P a w next Q:=by
 unfold step0 at hk
 split at hk
 ·rename_i hd hf
  have hk':xR X o st K∨(gr=false∧vI X o st K):=by
   split at hk
   ·split at hk
    ·exact .inr ⟨rfl,hk⟩
    ·exact .inl hk
   ·exact .inl hk
  clear hk
  rcases hk' with hk | ⟨hgr,hk⟩
  case inr=>exact ac3 h hTb hnt hcm.m hcm.nw hd hF hk fun st' E' a' w' hk' h'=>hn st' E' a' w' hk' h' fun hg _=>by rw[hgr] at hg;cases hg
  by_cases hdef:∃c,o.op=.defer c
  ·obtain ⟨c,hc⟩:=hdef
   simp[xR,uj,hc] at hk
  ·obtain ⟨v,hv,hnx⟩:=abm (R:=Grow w) (next:=fun a' w'=>w'=w→next a' w') h hTb hnt hcm.m (fun _ hg _=>hg) hd hk (fun st' E' a' w' hk' h' hw=>hn st' E' a' w' hk' h' fun _ _=>hw▸Grow.refl w)
   exact dH hF (fun c hc=>hdef ⟨c,hc⟩) (hv w (Grow.refl w)) (hnx rfl)
 ·rename_i hd hf
  exact aio h hTb hnt hro hcm hd hF hk hn
 ·exact hk.elim
theorem ahq (a:Act) (t:Nat):a.put (some t) (a.tmps.getD t undef)=a:=by
 cases a with
 | mk tmps defers=>
  simp only[Act.put]
  congr 1
  apply atY
  intro k
  rw[atu]
  by_cases e:t=k
  ·subst e
   rw[if_pos rfl]
   by_cases hk:t<tmps.size
   ·rw[if_pos hk,aeC,aex hk];rfl
   ·rw[if_neg hk,aoB (by omega)]
  ·rw[if_neg e]
theorem xE {C:Ctx} {E:Env} {st:St} {a:Act} {w:World} (h:aA C E st a w) {X:bB} (hnt:C.nt=X.nt) (hcm:C.m=X.m) {d:Option Nat} (hd:bQ X.nt d=true)
  {K:St→Prop} (hk:agx X d st K) {next:Act→World→Prop} (hn:∀st' E' a' w',K st'→aA C E' st' a' w'→w'=w→next a' w'):next a w:=by
 unfold agx at hk
 split at hk
 ·rename_i t
  split at hk
  ·have:=xJ h hnt hcm hd (h.slot t) hk (next:=fun a2 w2=>w2=w→next a2 w2) hn rfl
   rwa [ahq] at this
  ·exact hn _ _ _ _ hk h rfl
 ·exact hn _ _ _ _ hk h rfl
theorem aac {C:Ctx} {E:Env} {st:St} {a:Act} {w:World} {R:World→Prop} (h:aA C E st a w) {X:bB} (hTb:X.Tb.Ok X.P) (hnt:C.nt=X.nt) (hcm:C.m=X.m) {o:Oper} (hR:∀w1,R w1→fH o.op=true→Grow w w1) (hd:bQ X.nt o.dst=true)
  {K:St→Prop} (hk:xR X o st fun st'=>agx X o.dst st' K) {next:Act→World→Prop} (hn:∀st' E' a' w',K st'→aA C E' st' a' w'→next a' w'):aT R X.P o a w next:=
 abm h hTb hnt hcm hR hd hk fun _ _ _ _ hk' h'=>xE h' hnt hcm hd hk' fun st2 E2 a2 w2 hk2 h2 _=>hn st2 E2 a2 w2 hk2 h2
theorem acu {gr:Bool} {C:Ctx} {E:Env} {st:St} {a:Act} {w:World} (h:aA C E st a w) {X:bB} (hTb:X.Tb.Ok X.P) (hnt:C.nt=X.nt) (hro:C.ro=X.ro) {F:Fence} (hcm:CX C X F) {o:Oper}
  (hF:gY F) {K:St→Prop} (hk:step X gr o st K) {next:Act→World→Prop} {Q:Exit→Act→World→Prop}
  (hn:∀st' E' a' w',K st'→aA C E' st' a' w'→(gr=true→iD o.op=true→Grow w w')→next a' w'):o.wpIn F 9 X.P a w next Q:=by
 unfold step at hk
 have hd:bQ X.nt o.dst=true:=by
  cases hd:bQ X.nt o.dst with
  | true=>rfl
  | false=>
   unfold step0 at hk
   rw[hd] at hk
   split at hk
   ·rename_i e _;cases e
   ·rename_i e _;cases e
   ·exact hk.elim
 refine ahW h hTb hnt hro hcm hF hk fun st' E' a' w' hk' h' hg=>?_
 exact xE h' hnt hcm.m hd hk' fun st2 E2 a2 w2 hk2 h2 hw=>hn st2 E2 a2 w2 hk2 h2 (by rw[hw];exact hg)
theorem apS {want lit:Bool} {A B:Prop} (h:akf want lit A B):(lit=want∧A)∨(lit≠want∧B):=by
 cases want<;>cases lit<;>first | exact .inl ⟨rfl,h⟩ | exact .inr ⟨by simp,h⟩
theorem aA.apE {C:Ctx} {E:Env} {st:St} {a:Act} {w:World} (h:aA C E st a w) {d:Nat} {b:Bool} (hv:a.tmps.getD d undef=.bool b):aA C E (st.put d (.p true (.val (.bool b)))) a w:=by
 refine ⟨h.size,fun t=>?_,⟨h.heap.ob,h.heap.sep,h.heap.own,h.heap.mem,h.heap.mem0,h.heap.memnew,h.heap.new,h.heap.base,h.heap.fr,h.heap.hd0,h.heap.mno,h.heap.mkh,h.heap.kk⟩,h.marks⟩
 rw[get_put]
 by_cases e:d=t
 ·subst e;rw[if_pos rfl,hv];exact .val _ _
 ·rw[if_neg e];exact h.slot t
theorem akm {C:Ctx} {E:Env} {st:St} {a:Act} {w:World} (h:aA C E st a w) {all:Array Oper} {j d:Nat} {oj:Oper} {b t:Bool} (hoj:nth all.toList j=some oj) (hdj:oj.dst=some d) (hget:st.get d=.p b (.val (.bool t))) :
  a.tmps.getD d undef=.bool t∧yielded all a.tmps j=some t:=by
 have hv:a.tmps.getD d undef=.bool t:=by
  have:=h.slot d
  rw[hget] at this
  exact this.aN
 refine ⟨hv,?_⟩
 have hlt:d<a.tmps.size:=by
  rcases asE d a.tmps.size with h1 | h1
  ·exact h1
  ·rw[aeC,aoB h1] at hv
   simp[undef] at hv
 rw[d9] at hoj
 have hoj':all[j]?=some oj:=by simpa using hoj
 rw[aeC] at hv
 have hv':a.tmps[d]?=some (.bool t):=by
  rw[aex hlt] at hv ⊢
  simpa using hv
 simp[yielded,hoj',hdj,hv']
theorem vO {gr:Bool} {C:Ctx} {E:Env} {st:St} {a:Act} {w:World} (h:aA C E st a w) {X:bB} {all:Array Oper} {o:Oper} {K:St→Prop} (hk:stepG X gr all.toList o st K) :
  (Region.wanted o (yielded all a.tmps)=true∧∃st1,aA C E st1 a w∧step X gr o st1 K) ∨
  (Region.wanted o (yielded all a.tmps)=false∧bQ X.nt o.dst=true∧∃st1,aA C E st1 a w∧aS st1 o.dst skipped K):=by
 unfold stepG at hk
 split at hk
 ·rename_i hg
  exact .inl ⟨by simp[Region.wanted,hg],st,h,hk⟩
 ·rename_i j want hg
  split at hk
  ·rename_i oj hoj
   split at hk
   ·rename_i d hdj
    split at hk
    ·rename_i b t hget hdo
     obtain ⟨hv,hy⟩:=akm h hoj hdj hget
     have fin:∀(lit:Bool),t=lit→akf want lit (step X gr o (st.put d (.p true (.val (.bool lit)))) K) (aS (st.put d (.p true (.val (.bool lit)))) o.dst skipped K) →
       ((Region.wanted o (yielded all a.tmps)=true∧∃st1,aA C E st1 a w∧step X gr o st1 K) ∨
       (Region.wanted o (yielded all a.tmps)=false∧bQ X.nt o.dst=true∧∃st1,aA C E st1 a w∧aS st1 o.dst skipped K)):=by
      intro lit hlit hsel
      subst hlit
      have hM:=h.apE hv
      rcases apS hsel with ⟨h1,h2⟩ | ⟨h1,h2⟩
      ·exact .inl ⟨by simp[Region.wanted,hg,hy,h1],_,hM,h2⟩
      ·exact .inr ⟨by simp[Region.wanted,hg,hy,h1],hdo,_,hM,h2⟩
     rcases yj hk with ⟨h1,h2⟩ | ⟨h1,h2⟩
     ·rw[wF] at h2;exact fin true h1 h2
     ·rw[wF] at h2;exact fin false h1 h2
    ·rename_i b hget hdo
     have hk:aS st o.dst skipped K:=hk
     refine .inr ⟨?_,hdo,st,h,hk⟩
     have hv:a.tmps.getD d undef=undef:=by
      have:=h.slot d
      rw[hget] at this
      exact this.aN
     have hy:yielded all a.tmps j=none:=by
      rw[d9] at hoj
      have hoj':all[j]?=some oj:=by simpa using hoj
      rw[aeC] at hv
      simp only[yielded,hoj',aum,hdj]
      cases hq:a.tmps[d]? with
      | none=>rfl
      | some q=>rw[hq] at hv;simp only[Option.getD_some] at hv;subst hv;rfl
     simp[Region.wanted,hg,hy]
    ·exact hk.elim
   ·exact hk.elim
  ·exact hk.elim
theorem abl {C:Ctx} {X:bB} (hTb:X.Tb.Ok X.P) (hnt:C.nt=X.nt) (hro:C.ro=X.ro) {F:Fence} (hcm:CX C X F) (hF:gY F) (all:Array Oper) {K:St→Prop} {Q:Exit→Act→World→Prop}
  (hn:∀st' E' a' w',K st'→aA C E' st' a' w'→Q .normal a' w'):∀(ops:List Oper) (st:St) (E:Env) (a:Act) (w:World),ac4 X all.toList ops st K→aA C E st a w→wpListIn F 9 X.P all Q ops a w
 | [],st,E,a,w,hk,h=>hn st E a w hk h
 | o :: rest,st,E,a,w,hk,h=>by
  rw[akl] at hk
  simp only[wpListIn]
  have ih:=abl hTb hnt hro hcm hF all hn rest
  rcases vO h hk with ⟨h1,st1,h2,h3⟩ | ⟨h1,hdo,st1,h2,h3⟩
  ·rw[if_pos h1]
   exact acu h2 hTb hnt hro hcm hF h3 fun st' E' a' w' hk' h' _=>ih st' E' a' w' hk' h'
  ·rw[if_neg (by simp[h1])]
   exact ⟨fun f _=>hF.fn f,aD h2 hnt hdo h3 (.val true undef) fun st' E' a' w' hk' h'=>ih st' E' a' w' hk' h'⟩
section
variable {F : Fence} {n : Nat} {P : Program} {ops : Array Oper} {Q : Exit → Act → World → Prop} {md : Region.Mode}
def jK (P:Program) (ops:Array Oper) (R:World→Prop) (o:Oper) (v:Value) (a:Act):Prop:=
 (Region.wanted o (yielded ops a.tmps)=true∧(∀c,o.op≠.defer c)∧∀w,R w→(execOp a.eval o).run P w=.ok (.value v) w) ∨
 (Region.wanted o (yielded ops a.tmps)=false∧v=undef)
theorem jK.same {R:World→Prop} {o:Oper} {v:Value} {a a':Act} (h:jK P ops R o v a) (he:execOp a'.eval o=execOp a.eval o) (hw:Region.wanted o (yielded ops a'.tmps)=Region.wanted o (yielded ops a.tmps)):jK P ops R o v a':=by
 unfold jK at *;rw[he,hw];exact h
theorem jK.op (hF:gY F) {R:World→Prop} {w:World} {i:Nat} {o:Oper} {v:Value} {a:Act} (hi:ops[i]?=some o) (h:jK P ops R o v a) (hg:R w) {K:Act→World→Prop} (hk:K (a.put o.dst v) w):wpOpIn F 9 P ops Q i K a w:=by
 unfold wpOpIn
 simp only[hi]
 rcases h with ⟨h1,h2,h3⟩ | ⟨h1,rfl⟩
 ·rw[if_pos h1];exact dH hF h2 (h3 w hg) hk
 ·rw[if_neg (by simp[h1])];exact ⟨fun f _=>hF.fn f,hk⟩
theorem an4 (hF:gY F) {w0:World→Prop} {j:Nat} {oi oj:Oper} {v:Value} (hj:ops[j]?=some oj) (hap:oi.apart ops oj=true) (hsi:∀cs b,oi.op≠.select cs b) (hsj:∀cs b,oj.op≠.select cs b) (hdj:∀c,oj.op≠.defer c)
  (hQ:∀c a w,¬Q (.panic c) a w) {K:Act→World→Prop} {a:Act} {w:World} (hy:jK P ops w0 oi v a) (h:wpOpIn F 9 P ops Q j K (a.put oi.dst v) w) :
  wpOpIn F 9 P ops Q j (fun a' w'=>jK P ops w0 oi v a'∧K (a'.put oi.dst v) w') a w:=by
 obtain ⟨p1,p2,p3⟩:=Oper.apart_spec hap
 have keep:∀u,jK P ops w0 oi v (a.put oj.dst u):=fun u=>hy.same (execOp_put oi hsi a oj.dst u p3) (wanted_put oi a oj.dst u p3)
 have swap:∀u w',K ((a.put oi.dst v).put oj.dst u) w'→jK P ops w0 oi v (a.put oj.dst u)∧K ((a.put oj.dst u).put oi.dst v) w':=fun u w' hk=>⟨keep u,by rw[←Act.put_comm a v u p2];exact hk⟩
 unfold wpOpIn at *
 simp only[hj] at *
 rw[wanted_put oj a oi.dst v p1] at h
 by_cases hw:Region.wanted oj (yielded ops a.tmps)=true
 ·rw[if_pos hw] at h ⊢
  refine ⟨fun f _=>hF.fn f,?_⟩
  have h2:=h.2
  rw[Oper.semAt_plain F _ _ hdj] at h2 ⊢
  rw[execOp_put oj hsj a oi.dst v p1] at h2
  generalize (execOp a.eval oj).run P w=r at h2 ⊢
  cases r with
  | halt x w'=>cases x<;>simp only[Oper.uponIn] at h2 ⊢;exact absurd h2 (hQ _ _ _)
  | ok x w'=>
   cases x<;>simp only[Oper.uponIn] at h2 ⊢
   case value u=>exact swap u w' h2
   case skip=>exact swap undef w' h2
   case defer d=>
    refine ⟨(keep undef).same (by cases oj.dst<;>rfl) (by cases oj.dst<;>rfl),?_⟩
    rw[←Act.put_comm _ v undef p2,←Act.put_defers]
    exact h2
   case enter f args=>
    refine ⟨h2.1,CallsIn.mono h2.2 fun e w'' he=>?_⟩
    cases e with
    | returned u=>exact swap u w'' he
    | panicked c=>exact absurd he (hQ _ _ _)
    | outgrown=>exact he
   case row row args=>exact ⟨h2.1,RowsIn.mono h2.2 fun u w'' he=>swap u w'' he⟩
   case round l f tmps assign body=>
    refine ⟨h2.1,RoundIn.mono h2.2 fun e w'' he=>?_⟩
    cases e with
    | returned u=>exact swap u w'' he
    | panicked c=>exact absurd he (hQ _ _ _)
    | outgrown=>exact he
 ·rw[if_neg hw] at h ⊢
  exact ⟨fun f _=>hF.fn f,swap undef w h.2⟩
def lV (F:Fence) (P:Program) (md:Region.Mode) (ops:Array Oper) (Q:Exit→Act→World→Prop) (g:Nat→World→World→Prop):Nat→Array Bool→Act→World→Prop
 | 0,listed,a,w=>Region.ready md ops listed=[]∧Q .normal a w
 | fuel+1,listed,a,w=>
  (Region.ready md ops listed=[]→Q .normal a w) ∧
  ∀i∈Region.ready md ops listed,wpOpIn F 9 P ops Q i (fun a' w'=>g i w w'∧lV F P md ops Q g fuel (listed.setIfInBounds i true) a' w') a w
theorem agV {g:Nat→World→World→Prop}:∀(fuel:Nat) (listed:Array Bool) (a:Act) (w:World),lV F P md ops Q g fuel listed a w→wpAnyIn F 9 P md ops Q fuel listed a w
 | 0,_,_,_,h=>h
 | fuel+1,_,_,_,h=>⟨h.1,fun i hi=>wpOpIn_mono (fun a' w' h'=>agV fuel _ a' w' h'.2) (h.2 i hi)⟩
def iW (md:Region.Mode) (ops:Array Oper) (i:Nat):Nat→Nat
 | 0=>0
 | k+1=>match ops[k]? with
  | none=>iW md ops i k
  | some o=>bif o.after.toList.any (fun e=>Region.binds md e&&(Nat.beq e.on i||Nat.testBit (iW md ops i k) e.on)) then Nat.lor (iW md ops i k) (Nat.shiftLeft 1 k) else iW md ops i k
def waits (md:Region.Mode) (ops:Array Oper) (i j:Nat):Bool:=Nat.testBit (iW md ops i ops.size) j
theorem aa7 (a b i:Nat):Nat.testBit (Nat.lor a b) i=(Nat.testBit a i||Nat.testBit b i):=Nat.testBit_or a b i
theorem aku (k i:Nat):Nat.testBit (Nat.shiftLeft 1 k) i=decide (i=k):=by
 show Nat.testBit (1 <<< k) i=_
 rw[Nat.testBit_shiftLeft]
 by_cases h:i=k
 ·subst h;simp
 ·by_cases h2:k≤i
  ·rw[decide_eq_true h2,decide_eq_false h,aiI]
   obtain ⟨d,hd⟩:∃d,i-k=d+1:=⟨i-k-1,by omega⟩
   rw[hd];simp[Nat.testBit_succ]
  ·simp[h,h2]
theorem abf {i k x:Nat} (h:Nat.testBit (iW md ops i k) x=true):Nat.testBit (iW md ops i (k+1)) x=true:=by
 rw[iW]
 split
 ·exact h
 ·cases (Array.toList _).any _ with
  | true=>simp only[cond_true];rw[aa7,h,alh]
  | false=>exact h
theorem yZ {i j k:Nat} (h:Nat.testBit (iW md ops i (k+1)) j=true):Nat.testBit (iW md ops i k) j=true∨∃o,ops[j]?=some o∧∃e∈o.after,Region.binds md e=true∧(e.on=i∨Nat.testBit (iW md ops i k) e.on=true):=by
 rw[iW] at h
 split at h
 ·exact .inl h
 ·rename_i o ho
  cases hc:o.after.toList.any (fun e=>Region.binds md e&&(Nat.beq e.on i||Nat.testBit (iW md ops i k) e.on)) with
  | false=>rw[hc] at h;exact .inl h
  | true=>
   rw[hc] at h
   simp only[cond_true] at h
   rw[aa7,aku,aqK,decide_eq_true_eq] at h
   rcases h with h | h
   ·exact .inl h
   ·subst h
    obtain ⟨e,he,h1⟩:=atj.1 hc
    simp only[agw,aqK] at h1
    exact .inr ⟨o,ho,e,by simpa using he,h1.1,h1.2.imp agf id⟩
theorem aa8 {i j:Nat}:∀{k:Nat},Nat.testBit (iW md ops i k) j=true→∃o,ops[j]?=some o∧∃e∈o.after,Region.binds md e=true∧(e.on=i∨Nat.testBit (iW md ops i k) e.on=true)
 | 0,h=>by simp[iW] at h
 | k+1,h=>by
  rcases yZ h with h | ⟨o,ho,e,he,hb,h1⟩
  ·obtain ⟨o,ho,e,he,hb,h1⟩:=aa8 h
   exact ⟨o,ho,e,he,hb,h1.imp id abf⟩
  ·exact ⟨o,ho,e,he,hb,h1.imp id abf⟩
theorem acX {i j:Nat} (h:waits md ops i j=true):∃o,ops[j]?=some o∧∃e∈o.after,Region.binds md e=true∧(e.on=i∨waits md ops i e.on=true):=aa8 h
def xC (md:Region.Mode) (ops:Array Oper) (g:Nat→Bool) (listed:Array Bool) (i:Nat):Bool:=
 match ops[i]? with
 | none=>false
 | some oi=>(List.range ops.size).all fun j=>j==i||match listed.getD j true with
  | true=>!waits md ops i j
  | false=>match ops[j]? with
   | some oj=>waits md ops i j||(oi.apart ops oj&&(g j||!fH oi.op))
   | none=>true
theorem yQ {g:Nat→Bool} {i:Nat} {oi:Oper} {listed:Array Bool} (hi:ops[i]?=some oi) (h:xC md ops g listed i=true) :
  (∀j,j≠i→listed.getD j true=true→waits md ops i j=false) ∧
  ∀(j:Nat) (oj:Oper),ops[j]?=some oj→j≠i→listed.getD j true=false→waits md ops i j=false→oi.apart ops oj=true∧(g j||!fH oi.op)=true:=by
 simp only[xC,hi,ak7,List.mem_range] at h
 constructor
 ·intro j hne hl
  cases hw:waits md ops i j with
  | false=>rfl
  | true=>
   obtain ⟨o,ho,_⟩:=acX hw
   have h1:=h j (abB.1 ho).1
   simp[hne,hl,hw] at h1
 ·intro j oj hj hne hun hw
  have h1:=h j (abB.1 hj).1
  simp only[aqK,beq_iff_eq,hne,false_or,hun,hj,hw,Bool.false_eq_true,agw] at h1
  exact ⟨h1.1,by simpa using h1.2⟩
theorem adf (hF:gY F) {g:Nat→World→World→Prop} (hgr:∀i w,g i w w) {i:Nat} {oi:Oper} {v:Value} {R:World→Prop} {ok:Nat→Bool} (hRs:∀(j:Nat) (w w':World),R w→g j w w'→ok j=true→R w')
  (hi:ops[i]?=some oi) (hsel:∀(j:Nat) (o:Oper),ops[j]?=some o→(∀cs b,o.op≠.select cs b)∧∀c,o.op≠.defer c) (hQ:∀c a w,¬Q (.panic c) a w) :
  ∀(fuel:Nat) (listed:Array Bool) (a:Act) (w:World),
   (∀j,j≠i→listed.getD j true=true→waits md ops i j=false) →
   (∀j oj,ops[j]?=some oj→j≠i→listed.getD j true=false→waits md ops i j=false→oi.apart ops oj=true∧ok j=true) →
   i∈Region.ready md ops listed→jK P ops R oi v a→R w→lV F P md ops Q g fuel (listed.setIfInBounds i true) (a.put oi.dst v) w→lV F P md ops Q g (fuel+1) listed a w:=by
 intro fuel
 induction fuel with
 | zero=>
  intro listed a w _ _ hr hy hg H
  refine ⟨fun h=>(by rw[h] at hr;cases hr),fun j hj=>?_⟩
  by_cases hji:j=i
  ·subst hji;exact hy.op hF hi hg ⟨hgr _ w,H⟩
  ·have:=ready_mono hj hji
   rw[H.1] at this
   cases this
 | succ fuel ih=>
  intro listed a w hdone hfree hr hy hg H
  refine ⟨fun h=>(by rw[h] at hr;cases hr),fun j hj=>?_⟩
  by_cases hji:j=i
  ·subst hji;exact hy.op hF hi hg ⟨hgr _ w,H⟩
  ·have h1:=H.2 j (ready_mono hj hji)
   obtain ⟨hjun,oj,hoj,hall⟩:=mem_ready.1 hj
   have hnot:waits md ops i j=false:=by
    cases hw:waits md ops i j with
    | false=>rfl
    | true=>
     exfalso
     obtain ⟨o,ho,e,he,hb,h2⟩:=acX hw
     obtain rfl:oj=o:=by rw[hoj] at ho;exact Option.some.inj ho
     have h3:=hall e he hb
     have h0:=(mem_ready.1 hr).1
     have h4:listed.getD e.on true=true:=by
      rcases asE e.on listed.size with h' | h'
      ·simp[h'] at h3 ⊢;exact h3
      ·simp[aoB h'] at h3
     rcases h2 with h2 | h2
     ·rw[h2,h0] at h4;cases h4
     ·have hne:e.on≠i:=fun e1=>by rw[e1,h0] at h4;cases h4
      rw[hdone _ hne h4] at h2;cases h2
   obtain ⟨hap,hgj⟩:=hfree j oj hoj hji hjun hnot
   have h2:=an4 hF hoj hap (hsel i oi hi).1 (hsel j oj hoj).1 (hsel j oj hoj).2 hQ hy h1
   refine wpOpIn_mono (fun a' w' ⟨h3,h4,h5⟩=>⟨h4,?_⟩) h2
   refine ih (listed.setIfInBounds j true) a' w' (fun k hki hk=>?_) (fun k ok hk hki hun hno=>?_) (ready_mono hr (Ne.symm hji)) h3 (hRs j w w' hg h4 hgj) ?_
   ·by_cases hjk:j=k
    ·subst hjk;exact hnot
    ·rw[getD_set_ne true hjk] at hk;exact hdone k hki hk
   ·refine hfree k ok hk hki ?_ hno
    by_cases hjk:j=k
    ·subst hjk;exact hjun
    ·rw[getD_set_ne true hjk] at hun;exact hun
   ·rw[Array.setIfInBounds_comm _ _ hji];exact h5
end
def aaU (ops:Array Oper) (i:Nat):Bool:=match ops[i]? with | some o=>iD o.op | none=>true
def OT.heads:OT→List Nat
 | .alt i _ u=>i :: u.heads
 | .altw i _ u=>i :: u.heads
 | _=>[]
def OT.yt:OT→List Nat
 | .nm t=>t.yt
 | .lim l _=>l
 | .set _ t=>t.yt
 | .rd _ _ t=>t.yt
 | .one _ t=>t.yt
 | .alt _ t u=>t.yt++u.yt
 | .altw i t u=>i :: (t.yt++u.yt)
 | .wr i t=>i :: t.yt
 | _=>[]
def xX (ops:Array Oper) (l:List Nat) (i:Nat):Bool:=aaU ops i&&!(gX i l)
def ag2 (ops:Array Oper) (i:Nat):Bool:=match ops[i]? with
 | some o=>aek o.op
 | none=>false
def isLoad:Op→Bool
 | .load _ _=>true
 | _=>false
def kK:List Nat→Bool
 | []=>true
 | d :: l=>!(gX d l)&&kK l
def apF (ops:Array Oper) (j:Nat):Bool:=match ops[j]? with
 | some o=>match o.dst with
  | some _=>true
  | none=>false
 | none=>false
def qV (ops:Array Oper) (j:Nat):List Nat:=match ops[j]? with
 | some o=>aat o
 | none=>[]
def abE (ops:Array Oper):List Nat→Array Bool→Bool
 | [],_=>true
 | i :: l,listed=>(qV ops i).all (fun e=>listed.getD e false)&&abE ops l (listed.setIfInBounds i true)
def kG (l:List Nat) (listed:Array Bool):Array Bool:=l.foldl (fun a i=>a.setIfInBounds i true) listed
def af9 (ops:Array Oper) (A:mq) (listed:Array Bool):Bool:=
 listed.size.beq ops.size&&(A.l.all (fun j=>j.blt ops.size&&(!(listed.getD j true)&&apF ops j))&&(kK A.l&&(kK (A.l.map (ow ops.toList))&&(A.own.all (fun q=>gX q A.l) &&
 (A.l.all (fun i=>(A.u i).all fun q=>gX q A.own&&((q.beq i)||(qV ops i).any fun k=>gX k A.l&&gX q (A.u k))) &&
 (abE ops A.l listed&&((List.range ops.size).all (fun j=>gX j A.l||(listed.getD j true||A.l.all fun i=>waits .any ops i j)) &&
 (List.range ops.size).all (fun k=>!(listed.getD k false)||(qV ops k).all fun e=>listed.getD e false))))))))
def eB (ops:Array Oper) (g:Nat→Bool):OT→Bool→Nat→Array Bool→Bool
 | .done,first,fuel,listed=>first&&(Nat.beq fuel 0&&(Region.ready .any ops listed).isEmpty)
 | .one i t,first,fuel+1,listed=>
  first&&((match ops[i]? with
  | some o=>match ny o.op with
   | true=>(Region.ready .any ops listed).contains i&&xC .any ops g listed i
   | false=>Region.ready .any ops listed==[i]
  | none=>false)&&eB ops g t true fuel (listed.setIfInBounds i true))
 | .wr i t,first,fuel+1,listed=>
  first&&((match ops[i]? with
  | some o=>match ny o.op with
   | true=>false
   | false=>Region.ready .any ops listed==[i]&&!(g i)
  | none=>false)&&eB ops g t true fuel (listed.setIfInBounds i true))
 | .alt i t u,first,fuel+1,listed=>
  (!first||Region.ready .any ops listed==i :: u.heads)&&(eB ops g t true fuel (listed.setIfInBounds i true)&&eB ops g u false (fuel+1) listed)
 | .altw i t u,first,fuel+1,listed=>
  (!first||Region.ready .any ops listed==i :: u.heads)&&((match ops[i]? with
  | some o=>!(ny o.op)&&!(g i)
  | none=>false)&&(eB ops g t true fuel (listed.setIfInBounds i true)&&eB ops g u false (fuel+1) listed))
 | .rd i l t,first,fuel+1,listed=>
  first&&(((match ops[i]? with
  | some o=>isLoad o.op&&((Region.ready .any ops listed).contains i&&xC .any ops (fun j=>g j||(ag2 ops j&&l.contains j)) listed i)
  | none=>false))&&eB ops g t true fuel (listed.setIfInBounds i true))
 | .nm t,first,fuel,listed=>first&&eB ops g t true fuel listed
 | .lim _ t,first,fuel,listed=>first&&eB ops g t true fuel listed
 | .set A t,first,fuel,listed=>first&&(af9 ops A listed&&(Nat.ble A.l.length fuel&&eB ops g t true (fuel-A.l.length) (kG A.l listed)))
 | .stop,first,_,_=>!first
 | _,_,_,_=>false
def akn (ops:Array Oper) (ord:OT):Bool:=
 (ops.all fun o=>match o.op with | .select ..=>false | .defer _=>false | _=>true)&&eB ops (xX ops ord.yt) ord true ops.size (Array.replicate ops.size false)
def jY (Ts:Nat→Bool) (w w':World):Prop:=w.heap.size≤w'.heap.size∧∀b,b<w.heap.size→(∀cs T fr,w.heap[b]?=some (.cells cs T fr)→Ts T=false)→w'.heap[b]?=w.heap[b]?
theorem jY.refl (Ts:Nat→Bool) (w:World):jY Ts w w:=⟨aha _,fun _ _ _=>rfl⟩
theorem jY.trans {Ts:Nat→Bool} {a b c:World} (h:jY Ts a b) (k:jY Ts b c):jY Ts a c:=
 ⟨aln h.1 k.1,fun x hx hT=>(k.2 x (aov hx h.1) (fun cs T fr e=>hT cs T fr ((h.2 x hx hT).symm.trans e))).trans (h.2 x hx hT)⟩
theorem Grow.nQ {Ts:Nat→Bool} {w w':World} (h:Grow w w'):jY Ts w w':=⟨h.1,fun b hb _=>h.2 b hb⟩
theorem oD.nQ {Ts:Nat→Bool} {e:Nat} {w w':World} (h:oD e w w') (he:Ts e=true):jY Ts w w':=
 ⟨h.1,fun b hb hT=>h.2 b hb fun cs fr hc=>by rw[hT cs e fr hc] at he;cases he⟩
def iU (Tb:Tab) (ops:Array Oper) (g:Nat→Bool) (i:Nat) (w w':World):Prop:=(g i=true→Grow w w')∧(∀o,ops[i]?=some o→aek o.op=true→jY (qm Tb [o]) w w')
theorem iU.refl {Tb:Tab} {ops:Array Oper} {g:Nat→Bool} (i:Nat) (w:World):iU Tb ops g i w w:=⟨fun _=>Grow.refl w,fun _ _ _=>jY.refl _ w⟩
theorem aiz {Tb:Tab} {o:Oper} {s x:Operand} {t t':TypeId} {e:Nat} (ho:o.op=.call ⟨.builtin .append,⟨[s,x]⟩,⟨[t,t']⟩⟩) (he:elemOf Tb t=some e):∀{l:List Oper},o∈l→qm Tb l e=true
 | [],h=>by cases h
 | p :: l,h=>by
  unfold elemOf at he
  split at he
  case h_2=>cases he
  rename_i _ _ _ _ hl
  cases he
  rcases ai0.1 h with rfl | h
  ·unfold qm
   rw[ho]
   simp only[hl]
   simp
  ·have ih:=aiz (Tb:=Tb) ho (e:=e) (by unfold elemOf;rw[hl]) h
   unfold qm
   split
   ·split
    ·rw[ih,Bool.or_true]
    ·exact ih
   ·exact ih
theorem aiC {Tb:Tab} {o:Oper} {T:Nat} (h:qm Tb [o] T=true):∀{l:List Oper},o∈l→qm Tb l T=true
 | [],hm=>by cases hm
 | p :: l,hm=>by
  rcases ai0.1 hm with rfl | hm
  ·unfold qm at h ⊢
   split
   ·rename_i ho
    rw[ho] at h
    simp only at h
    split
    ·rename_i hl
     rw[hl] at h
     simp only[qm,atQ] at h
     rw[h];rfl
    ·rename_i hl
     split at h
     ·rename_i hl2;exact absurd hl2 (by intro e;exact hl _ _ _ _ e)
     ·simp[qm] at h
   ·rename_i ho
    split at h
    ·rename_i ho2;exact absurd ho2 (by intro e;exact ho _ _ _ _ e)
    ·simp[qm] at h
  ·have ih:=aiC h hm
   unfold qm
   split
   ·split
    ·rw[ih,Bool.or_true]
    ·exact ih
   ·exact ih
theorem jY.sub {Ts Us:Nat→Bool} {w w':World} (h:jY Ts w w') (hs:∀T,Ts T=true→Us T=true):jY Us w w':=
 ⟨h.1,fun b hb hT=>h.2 b hb fun cs T fr e=>by
  have:=hT cs T fr e
  cases ht:Ts T with
  | false=>rfl
  | true=>rw[hs T ht] at this;cases this⟩
theorem aeH {all:List Oper} {j:Nat} {o:Oper} (ho:nth all j=some o):∀{l:List Nat},j∈l→o∈picks all l
 | [],h=>by cases h
 | i :: l,h=>by
  unfold picks
  rcases ai0.1 h with rfl | h
  ·rw[ho];exact aoP ..
  ·have ih:=aeH ho h
   split
   ·exact aoI _ ih
   ·exact ih
theorem afX {gr:Bool} {C:Ctx} {E:Env} {st:St} {a:Act} {w:World} (h:aA C E st a w) {X:bB} (hTb:X.Tb.Ok X.P) (hnt:C.nt=X.nt) (hro:C.ro=X.ro) {F:Fence} (hcm:CX C X F) {o:Oper} (hap:aek o.op=true)
  {all:List Oper} (hmem:o∈all) (hF:gY F) {K:St→Prop} (hk:step X gr o st K) {next:Act→World→Prop} {Q:Exit→Act→World→Prop}
  (hn:∀st' E' a' w',K st'→aA C E' st' a' w'→jY (qm X.Tb all) w w'→next a' w'):o.wpIn F 9 X.P a w next Q:=by
 unfold aek at hap
 split at hap
 case h_2=>cases hap
 rename_i s x t t' ho
 have hnd:∀c',o.op≠.defer c':=by simp[ho]
 have hfl:ny o.op=false:=by rw[ho];rfl
 unfold step step0 at hk
 rw[hfl] at hk
 cases hd:bQ X.nt o.dst with
 | false=>simp[hd] at hk
 | true=>
  simp only[hd,afu,ho,xG] at hk
  have hn2:∀st' E' a' w',agx X o.dst st' K→aA C E' st' a' w'→(∃e,elemOf X.Tb t=some e∧oD e w w')→next a' w':=by
   intro st' E' a' w' hk' h' ⟨e,he,hg⟩
   exact xE h' hnt hcm.m hd hk' fun st2 E2 a2 w2 hk2 h2 hw=>hn st2 E2 a2 w2 hk2 h2 (by rw[hw];exact hg.nQ (aiz ho he hmem))
  cases htt:t.beq t' with
  | false=>
   simp only[htt] at hk
   obtain ⟨v',w',hr,hnx⟩:=yx h hTb hnt hcm.m hd (aH h s) (aH h x) hk hn2 o.type
   refine dH hF hnd (v:=v') (w':=w') ?_ hnx
   simp only[execOp,ho,resolve,invoke,builtin,Sem.run_bind,Sem.run_pure,Result.andThen_ok,atV,aoM,atU,hr]
  | true=>
   obtain rfl:=agf htt
   simp only[htt] at hk
   obtain ⟨v',w',hr,hnx⟩:=yS h hTb hnt hro hcm.m hd (aH h s) (aH h x) hk hn2 o.type
   refine dH hF hnd (v:=v') (w':=w') ?_ hnx
   simp only[execOp,ho,resolve,invoke,builtin,Sem.run_bind,Sem.run_pure,Result.andThen_ok,atV,aoM,atU,hr]
theorem ag3 {C:Ctx} {E:Env} {st:St} {a:Act} {w:World} (h:aA C E st a w) {X:bB} (hTb:X.Tb.Ok X.P) (hnt:C.nt=X.nt) {o:Oper} {all:List Oper} {K:St→Prop} (hk:adv X all o st K) {next:Act→World→Prop}
  (hn:∀st' E' a' w',K st'→aA C E' st' a' w'→next a' w'):o.guard=none∧aT (jY (qm X.Tb all) w) X.P o a w next:=by
 unfold adv at hk
 split at hk
 case h_2=>exact hk.elim
 rename_i T x hg ho hd
 refine ⟨hg,?_⟩
 split at hk
 case h_2=>exact hk.elim
 rename_i d size _ _ hi
 split at hk
 case h_2=>exact hk.elim
 rename_i i off hbig hx
 split at hk
 case h_2=>exact hk.elim
 rename_i T' cs hob
 split at hk
 case h_2=>exact hk.elim
 rename_i hap
 split at hk
 case h_2=>exact hk.elim
 rename_i s hr
 have hxv:=aH h x
 rw[hx] at hxv
 obtain ⟨b,hb,hxe⟩:=fF hxv
 obtain ⟨b',vs,hb',hw,hA⟩:=(h.heap.ob i _ hob).iR
 rw[hb] at hb';cases hb'
 have hc:mo E (fun k=>w.cell? ⟨b,0+k,none⟩) cs:=fun k s hs=>by
  obtain ⟨u,hu,h1,h2⟩:=hA.at k s hs
  exact ⟨u,by simp[World.cell?,hw];exact hu,h1,h2⟩
 obtain ⟨v,hv,hs⟩:=uL (hTb _ _ hi) hc hr
 refine aT.mk' (v:=v) (fun w1 hg1=>?_) (aD h hnt hd hk hs hn)
 have hsame:w1.heap[b]?=w.heap[b]?:=hg1.2 b (abB.1 hw).1 fun cs2 T2 fr2 e2=>by rw[hw] at e2;cases e2;exact hap
 have:=hv w1 (fun k=>by simp only[World.cell?,hsame])
 simp only[aiF] at this
 simp[execOp,ho,Instr.loadAt,hxe,Instr.sureAddr,this]
theorem aA.weak {C:Ctx} {E:Env} {st st':St} {a:Act} {w:World} (h:aA C E st a w) (hs:∀t,st'.get t=st.get t∨st'.get t=.any) (ho:st'.ob=st.ob) (hno:st'.no=st.no) (hk:st'.k=st.k):aA C E st' a w:=by
 have ho:∀i,st'.obj i=st.obj i:=fun i=>by unfold St.obj;rw[ho]
 refine ⟨h.size,fun t=>?_,⟨fun i o hi=>h.heap.ob i o ((ho i).symm.trans hi),fun i j o o' b hi hj=>h.heap.sep i j o o' b ((ho i).symm.trans hi) ((ho j).symm.trans hj),fun i o b hi=>h.heap.own i o b ((ho i).symm.trans hi),h.heap.mem,h.heap.mem0,h.heap.memnew,by rw[hno];exact h.heap.new,h.heap.base,h.heap.fr,h.heap.hd0,by rw[hno];exact h.heap.mno,h.heap.mkh,by rw[hk];exact h.heap.kk⟩,h.marks⟩
 rcases hs t with e | e
 ·rw[e];exact h.slot t
 ·rw[e];exact .any _
theorem abz {all:List Oper} {g g':Nat→SV} {fr:List (Nat×SV)} {i t:Nat} (ht:t≠ow all i):∀{l:List Nat},(∀j∈l,j≠i→g' j=g j)→look (mG all g' fr l) t=look (mG all g fr l) t
 | [],_=>rfl
 | j :: l,h=>by
  simp only[mG,bC]
  by_cases e:ow all j=t
  ·rw[if_pos e,if_pos e]
   have:j≠i:=fun ji=>by subst ji;exact ht e.symm
   rw[h j (aoP ..) this]
  ·rw[if_neg e,if_neg e];exact abz ht fun j hj=>h j (aoI _ hj)
theorem abp {all:List Oper} {g:Nat→SV} {fr:List (Nat×SV)} {i:Nat}:∀{l:List Nat},i∈l→kK (l.map (ow all))=true→look (mG all g fr l) (ow all i)=some (g i)
 | j :: l,hi,ha=>by
  simp only[mG,bC]
  simp only[aoM,kK,agw,aoW] at ha
  rcases ai0.1 hi with rfl | hi
  ·rw[if_pos rfl]
  ·rw[if_neg,abp hi ha.2]
   intro e
   have:gX (ow all j) (l.map (ow all))=true:=(eZ _ _).2 (e▸List.mem_map_of_mem hi)
   rw[ha.1] at this;cases this
theorem zl {all:List Oper} {g:Nat→SV} {fr:List (Nat×SV)} {t:Nat}:∀{l:List Nat},(∀j∈l,g j=.any)→look (mG all g fr l) t=look fr t∨look (mG all g fr l) t=some .any
 | [],_=>.inl rfl
 | j :: l,h=>by
  simp only[mG,bC]
  by_cases e:ow all j=t
  ·rw[if_pos e];exact .inr (by rw[h j (aoP ..)])
  ·rw[if_neg e];exact zl fun j hj=>h j (aoI _ hj)
theorem vK {all:List Oper} {g g':Nat→SV} {fr:List (Nat×SV)}:∀{l:List Nat},(∀j∈l,g' j=g j)→mG all g' fr l=mG all g fr l
 | [],_=>rfl
 | j :: l,h=>by simp only[mG];rw[h j (aoP ..),vK fun j hj=>h j (aoI _ hj)]
theorem xO {P:Nat→Prop}:∀{l:List Nat} {i:Nat},uS P l→i∈l→P i
 | j :: l,i,h,hi=>by
  rcases ai0.1 hi with rfl | hi
  ·exact h.1
  ·exact xO h.2 hi
theorem agc {p q:Nat}:∀{l:List Nat},q∈l→q≠p→q∈abK p l
 | j :: l,hq,hne=>by
  unfold abK
  cases hb:j.beq p with
  | true=>
   rcases ai0.1 hq with rfl | hq
   ·exact absurd (agf hb) hne
   ·exact hq
  | false=>
   rcases ai0.1 hq with rfl | hq
   ·exact aoP ..
   ·exact aoI _ (agc hq hne)
theorem abw {p:Nat}:∀{l:List Nat},p∈l→(abK p l).length+1=l.length
 | j :: l,hp=>by
  unfold abK
  cases hb:j.beq p with
  | true=>rfl
  | false=>
   rcases ai0.1 hp with rfl | hp
   ·simp at hb
   ·simp only[ai1,abw hp]
theorem acJ {P:List Nat→Prop}:∀(n:Nat) (own σ ρ:List Nat),own.length=n→rO P n own ρ→σ.Nodup→(∀q∈σ,q∈own)→P (σ.reverse++ρ)
 | 0,own,σ,ρ,hl,h,hn,hs=>by
  cases σ with
  | nil=>exact h
  | cons p σ=>have:=hs p (aoP ..);rw[aqH.1 hl] at this;cases this
 | n+1,own,σ,ρ,hl,h,hn,hs=>by
  cases σ with
  | nil=>exact h.1
  | cons p σ=>
   have hp:=hs p (aoP ..)
   rw[atZ] at hn
   have:=acJ n (abK p own) σ (p :: ρ) (by have:=abw hp;omega) (xO h.2 hp) hn.2 fun q hq=>agc (hs q (aoI _ hq)) fun e=>hn.1 (e▸hq)
   simpa using this
theorem acj {P:List Nat→Prop} {own ρ:List Nat} (h:rO P own.length own []) (hn:ρ.Nodup) (hs:∀q∈ρ,q∈own):P ρ:=by
 have:=acJ own.length own ρ.reverse [] rfl h (List.pairwise_reverse.2 (hn.imp Ne.symm)) fun q hq=>hs q (List.mem_reverse.1 hq)
 simpa using this
theorem amx {no i:Nat} {ρ us:List Nat} (hi:i∉ρ) (hu:∀q∈us,q∈ρ):nums no (i :: ρ) us=nums no ρ us:=by
 unfold nums
 refine List.map_congr_left fun q hq=>?_
 have:i.beq q=false:=by cases hb:i.beq q with | false=>rfl | true=>exact absurd (hu q hq) ((agf hb)▸hi)
 simp only[numOf,this]
def oQ (ops:Array Oper) (listed:Array Bool):Prop:=∀k o,ops[k]?=some o→listed.getD k false=true→∀e∈o.after,Region.binds .any e=true→listed.getD e.on false=true
theorem oQ.reach {ops:Array Oper} {listed:Array Bool} (h:oQ ops listed) {i:Nat}:∀(k j:Nat),Nat.testBit (iW .any ops i k) j=true→(∀o,ops[j]?=some o→∀e∈o.after,Region.binds .any e=true→listed.getD e.on false=true)→listed.getD i false=true
 | 0,j,hw,_=>by simp[iW] at hw
 | k+1,j,hw,hd=>by
  rcases yZ hw with hw | ⟨o,ho,e,he,hb,h1⟩
  ·exact oQ.reach h k j hw hd
  ·have h2:=hd o ho e he hb
   rcases h1 with h1 | h1
   ·rw[←h1];exact h2
   ·exact oQ.reach h k e.on h1 fun o' ho' e' he' hb'=>h e.on o' ho' h2 e' he' hb'
theorem oQ.waits {ops:Array Oper} {listed:Array Bool} (h:oQ ops listed) {i:Nat} (j:Nat) (hw:waits .any ops i j=true) (hd:∀o,ops[j]?=some o→∀e∈o.after,Region.binds .any e=true→listed.getD e.on false=true):listed.getD i false=true:=h.reach _ j hw hd
theorem ajk {l:Array Bool} {i:Nat} (h:l.getD i true=false):l.getD i false=false:=by
 rcases asE i l.size with h' | h'
 ·simp[h'] at h ⊢;exact h
 ·simp[aoB h'] at h
theorem aiQ {l:Array Bool} {i:Nat} (h:l.getD i false=true):l.getD i true=true:=by
 rcases asE i l.size with h' | h'
 ·simp[h'] at h ⊢;exact h
 ·simp[aoB h'] at h
theorem agR {l:Array Bool} {i:Nat} (h:l.getD i false=false) (hi:i<l.size):l.getD i true=false:=by
 simp[hi] at h ⊢;exact h
theorem ak5 {l:Array Bool} {i:Nat} (h:l.getD i true=false):i<l.size:=by
 rcases asE i l.size with h' | h'
 ·exact h'
 ·simp[aoB h'] at h
theorem lN {l:Array Bool} {i j:Nat}:(l.setIfInBounds i true).getD j true=if i=j then true else l.getD j true:=by
 by_cases e:i=j
 ·subst e
  rw[if_pos rfl]
  rcases asE i l.size with h' | h'
  ·simp[h']
  ·rw[aeC,aoB (by simpa using h')];rfl
 ·rw[if_neg e,getD_set_ne true e]
theorem adT {l:List Nat} {j:Nat}:∀{a:Array Bool},(kG l a).getD j true=if j∈l then true else a.getD j true:=by
 induction l with
 | nil=>intro a;simp[kG]
 | cons i l ih=>
  intro a
  have:kG (i :: l) a=kG l (a.setIfInBounds i true):=rfl
  rw[this,ih,lN]
  by_cases e:j∈l
  ·simp[e]
  ·by_cases e2:i=j
   ·simp[e2]
   ·simp[e,e2,Ne.symm e2]
theorem aee {l:List Nat}:∀{a:Array Bool},(kG l a).size=a.size:=by
 induction l with
 | nil=>intro a;rfl
 | cons i l ih=>intro a;exact (ih (a:=a.setIfInBounds i true)).trans (by simp)
theorem aiv {listed:Array Bool} {i:Nat} (hu:listed.getD i true=false):∀{l:List Nat},kK l=true→i∈l→(l.filter fun j=>!(listed.setIfInBounds i true).getD j true).length+1=(l.filter fun j=>!listed.getD j true).length
 | j :: l,ha,hi=>by
  simp only[kK,agw,aoW] at ha
  by_cases e:i=j
  ·subst e
   rw[aui (by rw[lN];simp),auj (by rw[hu];rfl),ai1]
   congr 2
   refine List.filter_congr fun k hk=>?_
   rw[lN,if_neg]
   intro e;subst e
   rw[(eZ _ _).2 hk] at ha
   cases ha.1
  ·have hi:=(ai0.1 hi).resolve_left e
   have ih:=aiv hu ha.2 hi
   cases hj:listed.getD j true with
   | true=>rw[aui (by rw[lN,if_neg e,hj];simp),aui (by rw[hj];simp)];exact ih
   | false=>rw[auj (by rw[lN,if_neg e,hj];rfl),auj (by rw[hj];rfl),ai1,ai1,ih]
theorem wQ {o:Oper} {k:Nat}:k∈aat o↔∃e∈o.after,Region.binds .any e=true∧e.on=k:=by
 unfold aat
 simp only[asJ,List.mem_filter,at5]
 constructor
 ·rintro ⟨e,⟨h1,h2⟩,h3⟩;exact ⟨e,h1,h2,h3⟩
 ·rintro ⟨e,h1,h2,h3⟩;exact ⟨e,⟨h1,h2⟩,h3⟩
theorem acP {ops:Array Oper} {listed:Array Bool}:∀(l:List Nat) (lx:Array Bool),abE ops l lx=true→(∀k,lx.getD k false=true→listed.getD k false=true)→(∀j∈l,j<ops.size)→listed.size=ops.size→(∃j∈l,listed.getD j true=false)→Region.ready .any ops listed≠[]
 | [],_,_,_,_,_,⟨j,hj,_⟩=>by cases hj
 | i :: l,lx,ht,hx,hs,hz,⟨j,hj,hu⟩=>by
  simp only[abE,agw,ak7] at ht
  have hi:=hs i (aoP ..)
  cases hl:listed.getD i true with
  | false=>
   intro h0
   have:i∈Region.ready .any ops listed:=mem_ready.2 ⟨hl,ops[i],aex hi,fun e he hb=>hx _ (ht.1 _ (by
    unfold qV;rw[aex hi];exact wQ.2 ⟨e,he,hb,rfl⟩))⟩
   rw[h0] at this;cases this
  | true=>
   refine acP l _ ht.2 (fun k hk=>?_) (fun j hj=>hs j (aoI _ hj)) hz ⟨j,(ai0.1 hj).resolve_left (fun e=>by subst e;rw[hl] at hu;cases hu),hu⟩
   by_cases e:i=k
   ·subst e
    cases h:listed.getD i false with
    | true=>rfl
    | false=>rw[agR h (by omega)] at hl;cases hl
   ·rw[getD_set_ne false e] at hk;exact hx k hk
structure ati (ops:Array Oper) (A:mq) (listed0 listed:Array Bool) (ρ:List Nat):Prop where
 size:listed.size=ops.size
 out:∀j,j∉A.l→listed.getD j true=listed0.getD j true
 closed:oQ ops listed
 nodup:ρ.Nodup
 own:∀q∈ρ,q∈A.own∧listed.getD q true=true
 all:∀q∈A.own,listed.getD q true=true→q∈ρ
 use:∀j∈A.l,listed.getD j true=true→∀q∈A.u j,q∈ρ
def mV (A:mq) (no:Nat) (ρ:List Nat) (listed:Array Bool) (j:Nat):SV:=bif listed.getD j true then A.f j (nums no ρ (A.u j)) else .any
structure arW (ops:Array Oper) (A:mq) (listed:Array Bool):Prop where
 size:listed.size=ops.size
 un:∀j∈A.l,j<ops.size∧listed.getD j true=false
 nd:kK A.l=true
 nd2:kK (A.l.map (ow ops.toList))=true
 own:∀q∈A.own,q∈A.l
 use:∀i∈A.l,∀q∈A.u i,q∈A.own∧(q=i∨∃k∈qV ops i,k∈A.l∧q∈A.u k)
 abE:abE ops A.l listed=true
 others:∀j,j<ops.size→j∉A.l→listed.getD j true=false→∀i∈A.l,waits .any ops i j=true
 closed:oQ ops listed
theorem ah3 {ops:Array Oper} {A:mq} {listed:Array Bool} (h:af9 ops A listed=true):arW ops A listed:=by
 simp only[af9,agw,aqK,ak7,atj,List.mem_range,aoW,eZ,Nat.beq_eq_true_eq] at h
 obtain ⟨h1,h2,h3,h4,h5,h6,h7,h8,h9⟩:=h
 refine ⟨agf h1,fun j hj=>⟨by have:=(h2 j hj).1;simpa [atB] using this,(h2 j hj).2.1⟩,h3,h4,h5,fun i hi q hq=>⟨(h6 i hi q hq).1,(h6 i hi q hq).2.imp agf id⟩,h7,fun j hj hn hu i hi=>?_,fun k o ho hl e he hb=>?_⟩
 ·rcases h8 j hj with h | h | h
  ·exact absurd h hn
  ·rw[hu] at h;cases h
  ·exact h i hi
 ·have hk:=(abB.1 ho).1
  rcases h9 k hk with h | h
  ·rw[hl] at h;cases h
  ·exact h e.on (by unfold qV;rw[ho];exact wQ.2 ⟨e,he,hb,rfl⟩)
section
variable {C : Ctx} {X : bB} (hTb : X.Tb.Ok X.P) (hnt : C.nt = X.nt) (hro : C.ro = X.ro) {F : Fence} (hcm : CX C X F) (hF : gY F) (ops : Array Oper) (hsel : ∀ (j : Nat) (o : Oper), ops[j]? = some o → (∀ cs b, o.op ≠ .select cs b) ∧ ∀ c, o.op ≠ .defer c)
  {K:St→Prop} {Q:Exit→Act→World→Prop} (hQ:∀c a w,¬Q (.panic c) a w) {g:Nat→Bool} (hg0:∀i,g i=true→aaU ops i=true)
include hTb hnt hro hcm hF hsel hQ hg0
theorem mY {gr:Bool} {i fuel:Nat} {o:Oper} (hgr:gr=true∨(g i=false∧ny o.op=false)) (hoi:ops[i]?=some o) {st:St} {E:Env} {a:Act} {w:World} {listed:Array Bool} {V:St→Prop}
  (ih:∀st' E' a' w',V st'→aA C E' st' a' w'→lV F X.P .any ops Q (iU X.Tb ops g) fuel (listed.setIfInBounds i true) a' w')
  (hk:stepG X gr ops.toList o st V) (h:aA C E st a w) :
  wpOpIn F 9 X.P ops Q i (fun a' w'=>iU X.Tb ops g i w w'∧lV F X.P .any ops Q (iU X.Tb ops g) fuel (listed.setIfInBounds i true) a' w') a w:=by
 rcases vO h hk with ⟨h1,st1,h2,h3⟩ | ⟨h1,hdo,st1,h2,h3⟩
 ·cases hfl:ny o.op with
  | true=>
   obtain rfl:gr=true:=hgr.resolve_right (by simp[hfl])
   unfold step step0 at h3
   rw[hfl] at h3
   cases hd:bQ X.nt o.dst with
   | false=>simp[hd] at h3
   | true=>
    simp only[hd] at h3
    obtain ⟨v,hv,hnx⟩:=aac (R:=Grow w) (next:=fun a' w'=>lV F X.P .any ops Q (iU X.Tb ops g) fuel (listed.setIfInBounds i true) a' w') h2 hTb hnt hcm.m (fun _ hg _=>hg) hd h3 (fun st' E' a' w' hk' h'=>ih st' E' a' w' hk' h')
    exact jK.op hF hoi (.inl ⟨h1,(hsel i o hoi).2,hv⟩) (Grow.refl w) ⟨iU.refl i w,hnx⟩
  | false=>
   unfold wpOpIn
   simp only[hoi]
   rw[if_pos h1]
   cases hap:aek o.op with
   | true=>
    have hng:¬g i=true:=fun hgi=>by
     have:=hg0 i hgi
     simp only[aaU,hoi] at this
     unfold aek at hap
     split at hap
     ·rename_i ho;rw[ho] at this;simp[iD] at this
     ·cases hap
    exact afX (all:=[o]) h2 hTb hnt hro hcm hap (aoP ..) hF h3 fun st' E' a' w' hk' h' hT=>⟨⟨fun hgi=>absurd hgi hng,fun o2 ho2 _=>by rw[hoi] at ho2;cases ho2;exact hT⟩,ih st' E' a' w' hk' h'⟩
   | false=>
    exact acu h2 hTb hnt hro hcm hF h3 fun st' E' a' w' hk' h' hg=>⟨⟨fun hgi=>hg (hgr.resolve_right (by simp[hgi])) (by simpa [aaU,hoi] using hg0 i hgi),fun o2 ho2 hA=>by rw[hoi] at ho2;cases ho2;rw[hap] at hA;cases hA⟩,ih st' E' a' w' hk' h'⟩
 ·unfold wpOpIn
  simp only[hoi]
  rw[if_neg (by simp[h1])]
  exact ⟨fun f _=>hF.fn f,dM (next:=fun a' w'=>iU X.Tb ops g i w w'∧lV F X.P .any ops Q (iU X.Tb ops g) fuel (listed.setIfInBounds i true) a' w') h2 hnt hdo h3 (.val true undef) fun st' E' a' w' hk' h' hw=>⟨by rw[hw];exact iU.refl i w,ih st' E' a' w' hk' h'⟩⟩
theorem afd {A:mq} {st0:St} {listed0:Array Bool} {fuel0:Nat} (hc:arW ops A listed0) (hgo:rO (fun ρ=>uS (fun i=>tL X ops.toList A st0 ρ i) A.l) A.own.length A.own [])
  (hleaf:∀ρ E a w,ρ.Nodup→(∀q∈ρ,q∈A.own)→(∀q∈A.own,q∈ρ)→aA C E (aaT ops.toList A st0 ρ) a w→lV F X.P .any ops Q (iU X.Tb ops g) fuel0 (kG A.l listed0) a w) :
  ∀(n:Nat) (listed:Array Bool) (ρ:List Nat) (E:Env) (a:Act) (w:World),ati ops A listed0 listed ρ→(A.l.filter fun j=>!listed.getD j true).length=n →
   aA C E (setSt ops.toList A st0 (mV A st0.no ρ listed) ρ) a w→lV F X.P .any ops Q (iU X.Tb ops g) (n+fuel0) listed a w
 | 0,listed,ρ,E,a,w,hi,hn,hM=>by
  have hall:∀j∈A.l,listed.getD j true=true:=fun j hj=>by
   have:=List.filter_eq_nil_iff.1 (aqH.1 hn) j hj
   simpa using this
  have e:listed=kG A.l listed0:=by
   refine Array.ext (by rw[aee,hc.size,hi.size]) fun k h1 h2=>?_
   have h3:listed.getD k true=(kG A.l listed0).getD k true:=by
    rw[adT]
    by_cases hk:k∈A.l
    ·rw[if_pos hk,hall k hk]
    ·rw[if_neg hk,hi.out k hk]
   simpa [h1,h2] using h3
  rw[aiF,e]
  refine hleaf ρ E a w hi.nodup (fun q hq=>(hi.own q hq).1) (fun q hq=>hi.all q hq (hall q (hc.own q hq))) ?_
  have:setSt ops.toList A st0 (mV A st0.no ρ listed) ρ=aaT ops.toList A st0 ρ:=by
   have:=vK (all:=ops.toList) (g:=fun j=>A.f j (nums st0.no ρ (A.u j))) (g':=mV A st0.no ρ listed) (fr:=st0.fr) (l:=A.l) fun j hj=>by unfold mV;rw[hall j hj];rfl
   unfold aaT setSt
   rw[this]
  rw[←this];exact hM
 | n+1,listed,ρ,E,a,w,hi,hn,hM=>by
  obtain ⟨i0,hi0,hu0⟩:∃j∈A.l,listed.getD j true=false:=by
   cases hf:A.l.filter fun j=>!listed.getD j true with
   | nil=>rw[hf] at hn;simp at hn
   | cons j t=>
    have:j∈A.l.filter fun j=>!listed.getD j true:=by rw[hf];exact aoP ..
    rw[List.mem_filter] at this
    exact ⟨j,this.1,by simpa using this.2⟩
  rw[Nat.succ_add]
  refine ⟨fun h0=>absurd h0 (acP A.l listed0 hc.abE (fun k hk=>?_) (fun j hj=>(hc.un j hj).1) hi.size ⟨i0,hi0,hu0⟩),fun i hr=>?_⟩
  ·have hkl:k∉A.l:=fun h=>by have:=ajk (hc.un k h).2;rw[hk] at this;cases this
   have h1:=hi.out k hkl
   rw[aiQ hk] at h1
   cases h:listed.getD k false with
   | true=>rfl
   | false=>
    have hks:k<listed0.size:=by
     rcases asE k listed0.size with h' | h'
     ·exact h'
     ·simp[aoB h'] at hk
    rw[agR h (by have:=hi.size;have:=hc.size;omega)] at h1;cases h1
  ·obtain ⟨hu,oi,hoi,hdep⟩:=mem_ready.1 hr
   have his:=(abB.1 hoi).1
   have hil:i∈A.l:=by
    rcases Classical.em (i∈A.l) with h | h
    ·exact h
    ·exfalso
     have:=hi.closed.waits i (hc.others i his h ((hi.out i h).symm.trans hu) i0 hi0) fun o ho e he hb=>by rw[hoi] at ho;cases ho;exact hdep e he hb
     rw[ajk hu0] at this;cases this
   have hir:i∉ρ:=fun h=>by have:=(hi.own i h).2;rw[hu] at this;cases this
   have hdl:∀k∈qV ops i,listed.getD k true=true:=fun k hk=>by
    unfold qV at hk
    rw[hoi] at hk
    obtain ⟨e,he,hb,rfl⟩:=wQ.1 hk
    exact aiQ (hdep e he hb)
   have huse:∀q∈A.u i,q=i∨q∈ρ:=fun q hq=>(hc.use i hil q hq).2.imp id fun ⟨k,hk,hkl,hqk⟩=>hi.use k hkl (hdl k hk) q hqk
   have hgoal:tL X ops.toList A st0 ρ i:=xO (acj (P:=fun ρ=>uS (fun i=>tL X ops.toList A st0 ρ i) A.l) hgo hi.nodup fun q hq=>(hi.own q hq).1) hil
   unfold tL at hgoal
   have e1:gX i ρ=false:=by cases h:gX i ρ with | false=>rfl | true=>exact absurd ((eZ _ _).1 h) hir
   have e2:af4 A i ρ=true:=by
    unfold af4
    rw[ak7]
    intro q hq
    rcases huse q hq with h | h
    ·rw[h];simp
    ·rw[(eZ _ _).2 h];simp
   rw[e1,e2] at hgoal
   simp only[d9,aeX,hoi] at hgoal
   have hgoal:=hgoal (mV A st0.no ρ listed)
   have eg:∀j∈A.l,aef A st0.no ρ i oi (mV A st0.no ρ listed) j=mV A st0.no ρ listed j:=by
    intro j hj
    unfold aef
    cases hd:gX j (aat oi) with
    | true=>
     have:j∈qV ops i:=by unfold qV;rw[hoi];exact (eZ _ _).1 hd
     unfold mV;rw[hdl j this];rfl
    | false=>
     cases hb:j.beq i with
     | true=>obtain rfl:=agf hb;unfold mV;rw[hu];rfl
     | false=>rfl
   have est:setSt ops.toList A st0 (aef A st0.no ρ i oi (mV A st0.no ρ listed)) ρ=setSt ops.toList A st0 (mV A st0.no ρ listed) ρ:=by unfold setSt;rw[vK eg]
   rw[est] at hgoal
   refine mY hTb hnt hro hcm hF ops hsel hQ hg0 (.inl rfl) hoi (fun st' E' a' w' hk' h'=>?_) hgoal hM
   have hsz:i<listed.size:=ak5 hu
   have hsub:∀q∈kH A i ρ,q=i∨q∈ρ:=fun q hq=>by
    unfold kH at hq
    split at hq
    ·exact ai0.1 hq
    ·exact .inr hq
   have hsup:∀q∈ρ,q∈kH A i ρ:=fun q hq=>by
    unfold kH
    split
    ·exact aoI _ hq
    ·exact hq
   have hself:i∈A.own→i∈kH A i ρ:=fun h=>by unfold kH;rw[(eZ _ _).2 h];exact aoP ..
   refine afd hc hgo hleaf n (listed.setIfInBounds i true) (kH A i ρ) E' a' w' ⟨by simp[hi.size],fun j hj=>?_,fun k o ho hl e he hb=>?_,?_,fun q hq=>?_,fun q hq hl=>?_,fun j hj hl q hq=>?_⟩ ?_ ?_
   ·rw[getD_set_ne true (fun e:i=j=>hj (by subst e;exact hil))];exact hi.out j hj
   ·by_cases eq:i=k
    ·subst eq;rw[hoi] at ho;cases ho;exact getD_set_true (hdep e he hb)
    ·rw[getD_set_ne false eq] at hl;exact getD_set_true (hi.closed k o ho hl e he hb)
   ·unfold kH
    split
    ·exact atZ.2 ⟨hir,hi.nodup⟩
    ·exact hi.nodup
   ·have h1:q∈A.own:=by
     unfold kH at hq
     split at hq
     ·rename_i ho
      rcases ai0.1 hq with rfl | hq
      ·exact (eZ _ _).1 ho
      ·exact (hi.own q hq).1
     ·exact (hi.own q hq).1
    refine ⟨h1,?_⟩
    rw[lN]
    split
    ·rfl
    ·rename_i hne;exact (hi.own q ((hsub q hq).resolve_left (Ne.symm hne))).2
   ·rw[lN] at hl
    by_cases e:i=q
    ·subst e;exact hself hq
    ·rw[if_neg e] at hl;exact hsup q (hi.all q hq hl)
   ·rw[lN] at hl
    by_cases e:i=j
    ·subst e
     rcases huse q hq with h | h
     ·subst h;exact hself (hc.use q hil q hq).1
     ·exact hsup q h
    ·rw[if_neg e] at hl;exact hsup q (hi.use j hj hl q hq)
   ·have:=aiv hu hc.nd hil;omega
   ·refine h'.weak (fun t=>.inl ?_) (by rw[hk'.ob];rfl) (by rw[hk'.no];rfl) (by rw[hk'.k];rfl)
    unfold St.get
    rw[hk'.fr]
    have hkeep:∀j∈A.l,j≠i→mV A st0.no (kH A i ρ) (listed.setIfInBounds i true) j=aef A st0.no ρ i oi (mV A st0.no ρ listed) j:=by
     intro j hj hne
     rw[eg j hj]
     unfold mV
     rw[getD_set_ne true (Ne.symm hne)]
     cases hl:listed.getD j true with
     | false=>rfl
     | true=>
      simp only[cond_true]
      unfold kH
      split
      ·rw[amx hir (hi.use j hj hl)]
      ·rfl
    by_cases e:t=ow ops.toList i
    ·subst e
     rw[bC,if_pos rfl]
     simp only[setSt]
     rw[abp hil hc.nd2]
     unfold mV
     rw[lN,if_pos rfl];rfl
    ·rw[bC,if_neg (Ne.symm e)]
     simp only[setSt]
     rw[abz e hkeep]
theorem gy (hn : ∀ st' E' a' w', K st' → aA C E' st' a' w' → Q .normal a' w') : ∀ (t : OT) (first : Bool) (fuel : Nat) (listed : Array Bool) (st : St) (E : Env) (a : Act) (w : World), eB ops g t first fuel listed = true → gM X ops.toList t st K → aA C E st a w →
      (first = true → lV F X.P .any ops Q (iU X.Tb ops g) fuel listed a w) ∧
      ∀ n, fuel = n + 1 → ∀ i ∈ t.heads, wpOpIn F 9 X.P ops Q i (fun a' w' => iU X.Tb ops g i w w' ∧ lV F X.P .any ops Q (iU X.Tb ops g) n (listed.setIfInBounds i true) a' w') a w
  | .done, first, fuel, listed, st, E, a, w, ho, hk, h => by
    simp only [eB, agw, List.isEmpty_iff] at ho
    obtain ⟨rfl, hf, he⟩ := ho
    obtain rfl := agf hf
    exact ⟨fun _ => ⟨he, hn st E a w hk h⟩, fun n hn => by omega⟩
  | .stop, first, fuel, listed, st, E, a, w, ho, hk, h => by
    cases first with
    | true => simp [eB] at ho
    | false => exact ⟨fun h => (by cases h), fun n _ i hi => (by cases hi)⟩
  | .one i t, first, 0, listed, st, E, a, w, ho, hk, h => by simp [eB] at ho
  | .wr i t, first, 0, listed, st, E, a, w, ho, hk, h => by simp [eB] at ho
  | .wr i rest, first, fuel + 1, listed, st, E, a, w, ho, hk, h => by
    refine ⟨fun _ => ?_, fun n _ j hj => by cases hj⟩
    simp only [eB, agw] at ho
    obtain ⟨-, ho, hrest⟩ := ho
    simp only [acp, ae7, xk, d9, aeX] at hk
    have ih := fun st' E' a' w' hk' h' => (gy hn rest true fuel (listed.setIfInBounds i true) st' E' a' w' hrest hk' h').1 rfl
    cases hoi : ops[i]? with
    | none => simp [hoi] at ho
    | some o =>
      simp only [hoi] at ho hk
      cases hfl : ny o.op with
      | true => simp [hfl] at ho
      | false =>
        simp only [hfl, agw, beq_iff_eq, aoW] at ho
        refine ⟨fun h0 => (by rw [ho.1] at h0; cases h0), fun j hj => ?_⟩
        rw [ho.1] at hj
        obtain rfl : j = i := by simpa using hj
        exact mY hTb hnt hro hcm hF ops hsel hQ hg0 (.inr ⟨ho.2, hfl⟩) hoi ih hk h
  | .alt i t u, first, 0, listed, st, E, a, w, ho, hk, h => by simp [eB] at ho
  | .alt i t u, first, fuel + 1, listed, st, E, a, w, ho, hk, h => by
    simp only [eB, agw, aqK, aoW, beq_iff_eq] at ho
    obtain ⟨hr, h1, h2⟩ := ho
    rw [xk] at hk
    obtain ⟨hk1, hk2⟩ := hk
    have ih1 := gy hn t
    have ih2 := (gy hn u false (fuel + 1) listed st E a w h2 hk2 h).2
    simp only [d9, aeX] at hk1
    have all : ∀ n, fuel + 1 = n + 1 → ∀ j ∈ (OT.alt i t u).heads, wpOpIn F 9 X.P ops Q j (fun a' w' => iU X.Tb ops g j w w' ∧ lV F X.P .any ops Q (iU X.Tb ops g) n (listed.setIfInBounds j true) a' w') a w := by
      intro n hnn j hj
      obtain rfl : fuel = n := by omega
      rcases ai0.1 hj with rfl | hj
      · cases hoi : ops[j]? with
        | none => simp [hoi] at hk1
        | some o =>
          simp only [hoi] at hk1
          exact mY hTb hnt hro hcm hF ops hsel hQ hg0 (.inl rfl) hoi (fun st' E' a' w' hk' h' => (ih1 true fuel _ st' E' a' w' h1 hk' h').1 rfl) hk1 h
      · exact ih2 fuel rfl j hj
    refine ⟨fun hf => ?_, all⟩
    subst hf
    have hr : Region.ready .any ops listed = i :: u.heads := by simpa using hr
    refine ⟨fun h0 => (by rw [hr] at h0; cases h0), fun j hj => ?_⟩
    rw [hr] at hj
    exact all fuel rfl j hj
  | .altw i t u, first, 0, listed, st, E, a, w, ho, hk, h => by simp [eB] at ho
  | .altw i t u, first, fuel + 1, listed, st, E, a, w, ho, hk, h => by
    simp only [eB, agw, aqK, aoW, beq_iff_eq] at ho
    obtain ⟨hr, hw, h1, h2⟩ := ho
    rw [ahX] at hk
    obtain ⟨hk1, hk2⟩ := hk
    have ih1 := gy hn t
    have ih2 := (gy hn u false (fuel + 1) listed st E a w h2 hk2 h).2
    simp only [d9, aeX] at hk1
    have all : ∀ n, fuel + 1 = n + 1 → ∀ j ∈ (OT.altw i t u).heads, wpOpIn F 9 X.P ops Q j (fun a' w' => iU X.Tb ops g j w w' ∧ lV F X.P .any ops Q (iU X.Tb ops g) n (listed.setIfInBounds j true) a' w') a w := by
      intro n hnn j hj
      obtain rfl : fuel = n := by omega
      rcases ai0.1 hj with rfl | hj
      · cases hoi : ops[j]? with
        | none => simp [hoi] at hk1
        | some o =>
          simp only [hoi] at hk1 hw
          simp only [agw, aoW] at hw
          exact mY hTb hnt hro hcm hF ops hsel hQ hg0 (.inr ⟨hw.2, hw.1⟩) hoi (fun st' E' a' w' hk' h' => (ih1 true fuel _ st' E' a' w' h1 hk' h').1 rfl) hk1 h
      · exact ih2 fuel rfl j hj
    refine ⟨fun hf => ?_, all⟩
    subst hf
    have hr : Region.ready .any ops listed = i :: u.heads := by simpa using hr
    refine ⟨fun h0 => (by rw [hr] at h0; cases h0), fun j hj => ?_⟩
    rw [hr] at hj
    exact all fuel rfl j hj
  | .nm t, first, fuel, listed, st, E, a, w, ho, hk, h => by
    refine ⟨fun _ => ?_, fun n _ j hj => by cases hj⟩
    simp only [eB, agw] at ho
    rw [alr] at hk
    exact (gy hn t true fuel listed _ E a w ho.2 hk.out h.norm).1 rfl
  | .lim l t, first, fuel, listed, st, E, a, w, ho, hk, h => by
    refine ⟨fun _ => ?_, fun n _ j hj => by cases hj⟩
    simp only [eB, agw] at ho
    rw [aks] at hk
    exact (gy hn t true fuel listed st E a w ho.2 hk h).1 rfl
  | .set A t, first, fuel, listed, st, E, a, w, ho, hk, h => by
    refine ⟨fun _ => ?_, fun n _ j hj => by cases hj⟩
    simp only [eB, agw, Nat.ble_eq] at ho
    obtain ⟨-, hc, hle, hrest⟩ := ho
    have hc := ah3 hc
    rw [ajP] at hk
    have hun : A.l.filter (fun j => !listed.getD j true) = A.l := List.filter_eq_self.2 fun j hj => by rw [(hc.un j hj).2]; rfl
    have := afd hTb hnt hro hcm hF ops hsel hQ hg0 hc hk.1 (fun ρ E a w hnd hsub hall hM => by
      refine (gy hn t true (fuel - A.l.length) _ _ E a w hrest ?_ hM).1 rfl
      have := acj hk.2 hnd hsub
      unfold adW at this
      rw [ak7.2 fun q hq => (eZ _ _).2 (hall q hq)] at this
      exact this) A.l.length listed [] E a w ⟨hc.size, fun _ _ => rfl, hc.closed, atz, (fun q hq => by cases hq), (fun q hq hl => by rw [(hc.un q (hc.own q hq)).2] at hl; cases hl), (fun j hj hl => by rw [(hc.un j hj).2] at hl; cases hl)⟩ (by rw [hun]) (h.weak (fun t => by
        unfold St.get
        rcases zl (all := ops.toList) (g := mV A st.no [] listed) (fr := st.fr) (t := t) (l := A.l) fun j hj => by unfold mV; rw [(hc.un j hj).2]; rfl with e | e
        · left; simp only [setSt]; rw [e]
        · right; simp only [setSt]; rw [e]) rfl rfl rfl)
    rw [Nat.add_sub_cancel' hle] at this
    exact this
  | .rd i l t, first, 0, listed, st, E, a, w, ho, hk, h => by simp [eB] at ho
  | .rd i l rest, first, fuel + 1, listed, st, E, a, w, ho, hk, h => by
    refine ⟨fun _ => ?_, fun n _ j hj => by cases hj⟩
    simp only [eB, agw] at ho
    obtain ⟨-, ho, hrest⟩ := ho
    simp only [alb] at hk
    rw [d9] at hk
    simp only [aeX] at hk
    have ih := fun st' E' a' w' hk' h' => (gy hn rest true fuel (listed.setIfInBounds i true) st' E' a' w' hrest hk' h').1 rfl
    cases hoi : ops[i]? with
    | none => simp [hoi] at ho
    | some o =>
      simp only [hoi] at ho hk
      simp only [agw, atD, decide_eq_true_eq] at ho
      obtain ⟨hld, hrdy, hcl⟩ := ho
      obtain ⟨hc1, hc2⟩ := yQ hoi hcl
      obtain ⟨hgn, v, hv, hnx⟩ := ag3 (next := fun a' w' => lV F X.P .any ops Q (iU X.Tb ops g) fuel (listed.setIfInBounds i true) a' w') h hTb hnt hk (fun st' E' a' w' hk' h' => ih st' E' a' w' hk' h')
      have hrh : fH o.op = true := by
        unfold isLoad at hld
        split at hld
        · rename_i ho; rw [ho]; rfl
        · cases hld
      refine adf (ok := fun j => g j || (ag2 ops j && decide (j ∈ l))) (R := jY (qm X.Tb (picks ops.toList l)) w) hF iU.refl (fun j w1 w2 h1 hr hj => h1.trans ?_) hoi hsel hQ fuel listed a w hc1 (fun j oj hj hji hun hno => ?_) hrdy (.inl ⟨by simp [Region.wanted, hgn], (hsel i o hoi).2, hv⟩) (jY.refl _ w) hnx
      · rcases Bool.or_eq_true_iff.1 hj with hj | hj
        · exact (hr.1 hj).nQ
        · simp only [agw, decide_eq_true_eq] at hj
          obtain ⟨h1, h2⟩ := hj
          unfold ag2 at h1
          split at h1
          · rename_i oj hoj
            exact (hr.2 oj hoj h1).sub fun T hT => aiC hT (aeH (by rw [d9, aeX]; exact hoj) h2)
          · cases h1
      · have := hc2 j oj hj hji hun hno
        rw [hrh] at this
        exact ⟨this.1, by simpa using this.2⟩
  | .one i rest, first, fuel + 1, listed, st, E, a, w, ho, hk, h => by
    refine ⟨fun _ => ?_, fun n _ j hj => by cases hj⟩
    simp only [eB, agw] at ho
    obtain ⟨-, ho, hrest⟩ := ho
    simp only [acp, ae7, xk, d9, aeX] at hk
    have ih := fun st' E' a' w' hk' h' => (gy hn rest true fuel (listed.setIfInBounds i true) st' E' a' w' hrest hk' h').1 rfl
    cases hoi : ops[i]? with
    | none => simp [hoi] at ho
    | some o =>
      simp only [hoi] at ho hk
      cases hfl : ny o.op with
      | true =>
        simp only [hfl, agw, atD, decide_eq_true_eq] at ho
        obtain ⟨R, hRw, hRr, hRs⟩ : ∃ R : World → Prop, R w ∧ (∀ w1, R w1 → fH o.op = true → Grow w w1) ∧ ∀ (j : Nat) (w1 w2 : World), R w1 → iU X.Tb ops g j w1 w2 → (g j || !fH o.op) = true → R w2 := by
          cases hrh : fH o.op with
          | true => exact ⟨Grow w, Grow.refl w, fun _ h _ => h, fun b w1 w2 h hb hbb => h.trans (hb.1 (by simpa using hbb))⟩
          | false => exact ⟨fun _ => True, trivial, fun _ _ h => (by cases h), fun _ _ _ _ _ _ => trivial⟩
        obtain ⟨hc1, hc2⟩ := yQ hoi ho.2
        have go : ∀ v, jK X.P ops R o v a → lV F X.P .any ops Q (iU X.Tb ops g) fuel (listed.setIfInBounds i true) (a.put o.dst v) w → lV F X.P .any ops Q (iU X.Tb ops g) (fuel + 1) listed a w := fun v hy H =>
          adf (ok := fun j => g j || !fH o.op) hF iU.refl hRs hoi hsel hQ fuel listed a w hc1 hc2 ho.1 hy hRw H
        rcases vO h hk with ⟨h1, st1, h2, h3⟩ | ⟨h1, hdo, st1, h2, h3⟩
        · unfold step step0 at h3
          rw [hfl] at h3
          cases hd : bQ X.nt o.dst with
          | false => simp [hd] at h3
          | true =>
            simp only [hd] at h3
            obtain ⟨v, hv, hnx⟩ := aac (R := R) (next := fun a' w' => lV F X.P .any ops Q (iU X.Tb ops g) fuel (listed.setIfInBounds i true) a' w') h2 hTb hnt hcm.m hRr hd h3 (fun st' E' a' w' hk' h' => ih st' E' a' w' hk' h')
            exact go v (.inl ⟨h1, (hsel i o hoi).2, hv⟩) hnx
        · exact go undef (.inr ⟨h1, rfl⟩) (aD (next := fun a' w' => lV F X.P .any ops Q (iU X.Tb ops g) fuel (listed.setIfInBounds i true) a' w') h2 hnt hdo h3 (.val true undef) fun st' E' a' w' hk' h' => ih st' E' a' w' hk' h')
      | false =>
        simp only [hfl, beq_iff_eq] at ho
        refine ⟨fun h0 => (by rw [ho] at h0; cases h0), fun j hj => ?_⟩
        rw [ho] at hj
        obtain rfl : j = i := by simpa using hj
        exact mY hTb hnt hro hcm hF ops hsel hQ hg0 (.inl rfl) hoi ih hk h
end
theorem aA.drew {C:Ctx} {E:Env} {st:St} {a:Act} {w:World} (h:aA C E st a w):aA C E st a { w with drawn:=w.drawn+1 }:=
 ⟨h.size,h.slot,⟨fun i o ho=>(h.heap.ob i o ho).world fun _ _=>rfl,h.heap.sep,h.heap.own,h.heap.mem,h.heap.mem0,h.heap.memnew,h.heap.new,h.heap.base,⟨h.heap.fr.os,h.heap.fr.tape,h.heap.fr.output,h.heap.fr.bsz,h.heap.fr.wsz,h.heap.fr.wos,h.heap.fr.isz,h.heap.fr.block,h.heap.fr.sync⟩,h.heap.hd0,h.heap.mno,h.heap.mkh,h.heap.kk⟩,h.marks⟩
def adJ (Q:Exit→Act→World→Prop):Exit→Act→World→Prop
 | .panic _,_,_=>False
 | e,a,w=>Q e a w
theorem aij {Q:Exit→Act→World→Prop} (e:Exit) (a:Act) (w:World) (h:adJ Q e a w):Q e a w:=by
 cases e<;>first | exact h | exact h.elim
theorem aa6 {C:Ctx} {X:bB} (hm:X.P.follows .mixedOrders=true) (hTb:X.Tb.Ok X.P) (hnt:C.nt=X.nt) (hro:C.ro=X.ro) {F:Fence} (hcm:CX C X F) (hF:gY F) {id:Nat} {ops:Array Oper} {ord:OT} (ho:akn ops ord=true)
  {K:St→Prop} {Q:Exit→Act→World→Prop} (hn:∀st' E' a' w',K st'→aA C E' st' a' w'→Q .normal a' w') {st:St} {E:Env} {a:Act} {w:World} (hk:gM X ops.toList ord st K) (h:aA C E st a w) :
  (Code.region id ops true).wpIn F 9 X.P Q a w:=by
 simp only[akn,agw] at ho
 obtain ⟨h1,h3⟩:=ho
 refine wpIn_mono (Q:=adJ Q) (wpIn_region_any hm (agV (g:=iU X.Tb ops (xX ops ord.yt)) _ _ _ _ ?_)) aij
 refine (gy (Q:=adJ Q) hTb hnt hro hcm hF ops (fun j o hj=>?_) (fun c a w h=>h) (g:=xX ops ord.yt) (fun i hi=>by simp only[xX,agw] at hi;exact hi.1) (fun st' E' a' w' hk' h'=>hn st' E' a' w' hk' h') ord true _ _ st E a _ h3 hk h.drew).1 rfl
 have:=aul.1 h1 o (atO hj)
 refine ⟨fun cs b e=>by simp[e] at this,fun c e=>by simp[e] at this⟩
theorem afK {C:Ctx} {X:bB} (hTb:X.Tb.Ok X.P) (hnt:C.nt=X.nt) (hro:C.ro=X.ro) {F:Fence} (hcm:CX C X F) (hF:gY F) {id:Nat} {ops:Array Oper}
  {K:St→Prop} {Q:Exit→Act→World→Prop} (hn:∀st' E' a' w',K st'→aA C E' st' a' w'→Q .normal a' w') {st:St} {E:Env} {a:Act} {w:World} (hk:ac4 X ops.toList ops.toList st K) (h:aA C E st a w) :
  (Code.region id ops false).wpIn F 9 X.P Q a w:=
 wpIn_region_list (abl hTb hnt hro hcm hF ops hn ops.toList st E a w hk h)
inductive gW:PV→PV→Prop
 | refl (d:PV):gW d d
 | nil (f:Nat→List PV):gW (.val (.slice none 0 0)) (.seq 0 f)
 | seq (n:Nat) (f g:Nat→List PV) (hl:∀j,j<n→(f j).length=(g j).length)
   (he:∀(j k:Nat) (s s':PV),j<n→(f j)[k]?=some s→(g j)[k]?=some s'→gW s s'):gW (.seq n f) (.seq n g)
 | pt (l l':List PV) (o:Nat) (hl:l.length=l'.length) (he:∀(k:Nat) (s s':PV),l[k]?=some s→l'[k]?=some s'→gW s s'):gW (.pt l o) (.pt l' o)
 | agg (l l':List PV) (hl:l.length=l'.length) (he:∀(k:Nat) (s s':PV),l[k]?=some s→l'[k]?=some s'→gW s s'):gW (.agg l) (.agg l')
 | tup (l l':List PV) (hl:l.length=l'.length) (he:∀(k:Nat) (s s':PV),l[k]?=some s→l'[k]?=some s'→gW s s'):gW (.tup l) (.tup l')
theorem ko {α:Type} {l m:List α} (h:l.length=m.length) {k:Nat} {s:α} (hs:m[k]?=some s):∃t,l[k]?=some t:=
 ⟨_,abn (by rw[h];exact (abA.1 hs).1)⟩
theorem rA {μ:Nat→Option (Array Value)} {d d':PV} (h:gW d d'):∀{v:Value},aO μ v d→aO μ v d':=by
 induction h with
 | refl d=>exact fun h=>h
 | nil f=>intro v h;cases h;exact .nil f
 | seq n f g hl he ih=>
  intro v h
  cases h with
  | nil=>exact .nil g
  | emp a cap=>exact .emp a cap g
  | seq b o n cap sz f cs u hm hcap hmax hl' hc he'=>
   refine .seq b o n cap sz g cs u hm hcap hmax (fun j hj=>(hl j hj).symm.trans (hl' j hj)) (fun j k s hj hs=>?_) (fun j k s hj hs=>?_)
   ·obtain ⟨t,ht⟩:=ko (hl j hj) hs
    exact hc j k t hj ht
   ·obtain ⟨t,ht⟩:=ko (hl j hj) hs
    exact ih j k t s hj ht hs (he' j k t hj ht)
 | pt l l' o hl he ih=>
  intro v h
  cases h with
  | pt b o off l cs u hm hc he'=>
   refine .pt b o _ l' cs u hm (fun k s hs=>?_) (fun k s hs=>?_)
   ·obtain ⟨t,ht⟩:=ko hl hs
    exact hc k t ht
   ·obtain ⟨t,ht⟩:=ko hl hs
    exact ih k t s ht hs (he' k t ht)
 | agg l l' hl he ih=>
  intro v h
  cases h with
  | agg vs l hl' h1 he'=>
   refine .agg vs l' (hl'.trans hl) h1 (fun k u s hu hs=>?_)
   obtain ⟨t,ht⟩:=ko hl hs
   exact ih k t s ht hs (he' k u t hu ht)
 | tup l l' hl he ih=>
  intro v h
  cases h with
  | tup vs l hl' he'=>
   refine .tup vs l' (hl'.trans hl) (fun k u s hu hs=>?_)
   obtain ⟨t,ht⟩:=ko hl hs
   exact ih k t s ht hs (he' k u t hu ht)
def bN (l m:List PV):Prop:=l.length=m.length∧∀(k:Nat) (s s':PV),l[k]?=some s→m[k]?=some s'→gW s s'
theorem bN.rfl' (l:List PV):bN l l:=⟨rfl,fun k s s' h h'=>by rw[h] at h';cases h';exact .refl _⟩
theorem bN.of {l m:List PV} (h:l=m):bN l m:=h▸bN.rfl' l
def aal:List Oper→List Nat
 | []=>[]
 | o :: l=>match o.dst with
  | some d=>d :: aal l
  | none=>aal l
def oP:Code→List Nat
 | .region _ ops _=>aal ops.toList
 | .seq a b=>oP a++oP b
 | .cond _ a b=>oP a++oP b
 | .block _ c=>oP c
 | .loop c=>oP c
 | _=>[]
def dropKeys (W:List Nat):List (Nat×SV)→List (Nat×SV)
 | []=>[]
 | (t,s) :: l=>match gX t W with
  | true=>dropKeys W l
  | false=>(t,s) :: dropKeys W l
def fM:Nat→List LV→List SV
 | _,[]=>[]
 | no,.s s :: l=>s :: fM no l
 | no,.ob _ :: l=>.any :: fM no l
 | no,.rw _ _ _ _ :: l=>.row no :: fM (no+1) l
 | no,.rws _ _ _ _ :: l=>.row no :: fM (no+1) l
 | no,.ps d :: l=>.p false d :: fM no l
end Go.Sx
