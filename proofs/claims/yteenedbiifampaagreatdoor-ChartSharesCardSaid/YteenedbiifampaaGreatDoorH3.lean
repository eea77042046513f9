/- ChartShares, part 3 of its proof: declarations that the last part uses. -/
import Derived.Test.YteenedbiifampaaGreatDoorH2
set_option maxHeartbeats 1000000
set_option maxRecDepth 4000
set_option linter.unusedSimpArgs false
set_option linter.unusedVariables false
set_option linter.unusedSectionVars false
namespace Go.Sx
open Go
def rowsOf:Nat→List LV→List (Nat×Option Ob)
 | _,[]=>[]
 | no,.s _ :: l=>rowsOf no l
 | no,.ob _ :: l=>rowsOf no l
 | no,.rw T sz n f :: l=>(no,some (.row T sz n f)) :: rowsOf (no+1) l
 | no,.rws T sz n f :: l=>(no,some (.row T sz n f)) :: rowsOf (no+1) l
 | no,.ps _ :: l=>rowsOf no l
def fP:Nat→List LV→Nat
 | no,[]=>no
 | no,.s _ :: l=>fP no l
 | no,.ob _ :: l=>fP no l
 | no,.rw _ _ _ _ :: l=>fP (no+1) l
 | no,.rws _ _ _ _ :: l=>fP (no+1) l
 | no,.ps _ :: l=>fP no l
def keysOf {α:Type}:List (Nat×α)→List Nat
 | []=>[]
 | (t,_) :: l=>t :: keysOf l
def bR {α:Type}:List (Nat×α)→List α
 | []=>[]
 | (_,v) :: l=>v :: bR l
def vT:List Nat→List SV→List (Nat×SV)
 | t :: ts,s :: ss=>(t,s) :: vT ts ss
 | _,_=>[]
structure UO where
 i:Nat
 T:TypeId
 l:List LV
def kZ:List LV→Option Ob
 | [.ob o]=>some o
 | _=>none
def kr:Nat→List UO→List (Nat×Option Ob)
 | _,[]=>[]
 | no,u :: us=>match kZ u.l with
  | some o=>(u.i,some o) :: kr no us
  | none=>(u.i,some (.cells u.T (fM no u.l))) :: (rowsOf no u.l++kr (fP no u.l) us)
def aaS:Nat→List UO→Nat
 | no,[]=>no
 | no,u :: us=>aaS (fP no u.l) us
def dh:List UO→List Nat
 | []=>[]
 | u :: us=>u.i :: dh us
def gN (st : St) (W G : List Nat) (ups : List (Nat × LV)) (uos : List UO) (c : Option Nat) : St :=
  { fr := vT (keysOf ups) (fM st.no (bR ups)) ++ dropKeys W st.fr
    ob := rowsOf st.no (bR ups) ++ (kr (fP st.no (bR ups)) uos ++ mW G st.ob)
    no := aaS (fP st.no (bR ups)) uos
    k := c }
def afH (no:Nat):SV→Bool
 | .p _ _=>true
 | .own i _=>i.blt no
 | .any=>true
 | .mp i=>i.blt no
 | _=>false
def afE (no:Nat):List SV→Bool
 | []=>true
 | s :: l=>(afH no s).and (afE no l)
def amQ (s c:SV):Prop:=
 match c with
 | .any=>True
 | .p b d=>match s with
  | .p b' d'=>(b=true→b'=true)∧ak d' d
  | _=>False
 | .own i o=>match s with
  | .own i' o'=>i'=i∧o'=o
  | _=>False
 | .mp i=>match s with
  | .mp i'=>i'=i
  | _=>False
 | _=>False
def pO (st:St) (no:Nat) (s:SV):LV→Prop
 | .s (.fn f l)=>s=.fn f l∧afE no l=true
 | .s c=>amQ s c∧afH no c=true
 | .rw T sz n f=>match s with
  | .row j=>match st.obj j with
   | some (.row T' sz' n' f')=>T'=T∧sz'=sz∧n'=n∧∀k,k<n'→f' k=f k
   | _=>False
  | .p _ (.val (.slice none 0 0))=>n=0
  | _=>False
 | .ob _=>False
 | .rws T sz n f=>match s with
  | .row j=>match st.obj j with
   | some (.row T' sz' n' f')=>T'=T∧sz'=sz∧n'=n∧∀k,k<n'→bN (f' k) (f k)
   | _=>False
  | .p _ (.val (.slice none 0 0))=>n=0
  | _=>False
 | .ps d=>match s with
  | .p _ d'=>gW d' d
  | _=>False
def iZ (st:St) (no:Nat):List SV→List LV→Prop
 | [],[]=>True
 | [s],[c]=>pO st no s c
 | s :: ss,c :: cs=>pO st no s c∧iZ st no ss cs
 | _,_=>False
def dz:List SV→List LV→List Nat
 | .row j :: ss,.rw _ _ _ _ :: cs=>j :: dz ss cs
 | .row j :: ss,.rws _ _ _ _ :: cs=>j :: dz ss cs
 | _ :: ss,_ :: cs=>dz ss cs
 | _,_=>[]
def getAll (st:St):List Nat→List SV
 | []=>[]
 | t :: l=>st.get t :: getAll st l
def eY (st:St) (i:Nat) (T:TypeId):Option (List SV):=
 match st.obj i with
 | some (.cells T' cs)=>match T'.beq T with
  | true=>some cs
  | false=>none
 | _=>none
def pR (st:St) (i:Nat) (o:Ob):Prop:=
 match o with
 | .cells _ _=>False
 | .row _ _ _ _=>False
 | .arr T n f=>match st.obj i with
  | some (.arr T' n' f')=>T'=T∧n'=n∧∀k,k<n→f' k=f k
  | _=>False
 | .map kt n get=>match st.obj i with
  | some (.map kt' n' get')=>kt'=kt∧n'=n∧∀k,get' k=get k
  | _=>False
def qo (st:St) (no:Nat):List UO→Prop
 | []=>True
 | u :: us=>(match kZ u.l with
  | some o=>pR st u.i o
  | none=>match eY st u.i u.T with
   | some cs=>iZ st no cs u.l
   | none=>False)∧qo st no us
def iw (st:St):List UO→List Nat
 | []=>[]
 | u :: us=>(match eY st u.i u.T with
  | some cs=>dz cs u.l
  | none=>[])++iw st us
def allRows (st:St) (ups:List (Nat×LV)) (uos:List UO):List Nat:=dz (getAll st (keysOf ups)) (bR ups)++iw st uos
def acS (no:Nat):List Nat→Bool
 | []=>true
 | j :: l=>(j.blt no).and (acS no l)
def abV (ro no:Nat):List Nat→Bool
 | []=>true
 | u :: us=>((ro.ble u).and (u.blt no)).and (abV ro no us)
def yX {α:Type}:List α→List α→Nat
 | _ :: a,_ :: b=>yX a b
 | a,[]=>a.length
 | [],_=>0
def aau {α:Type} (no:Nat) (P:List Nat):Nat→List (Nat×α)→Bool
 | 0,_=>true
 | _+1,[]=>true
 | n+1,(t,_) :: l=>((no.ble t).or (gX t P)).and (aau no P n l)
def alA (X:bB) (st:St) (W G:List Nat) (ups:List (Nat×LV)) (uos:List UO):Prop:=
 (distinct (keysOf ups)=true∧acS X.nt (keysOf ups)=true∧distinct (dh uos)=true∧abV X.ro st.no (dh uos)=true∧distinct G=true∧nD X.m G=true) ∧
  iZ st st.no (getAll st (keysOf ups)) (bR ups)∧qo st st.no uos
def alp (st0 hd st:St) (W:List Nat) (ups:List (Nat×LV)) (uos:List UO):Prop:=
 dropKeys W st.fr=dropKeys W hd.fr ∧
 (dJ (yX st.ob hd.ob) st.ob=hd.ob∧aau st0.no (dh uos) (yX st.ob hd.ob) st.ob=true) ∧
 (distinct (allRows st ups uos)=true∧nD st0.no (allRows st ups uos)=true) ∧
 iZ st st0.no (getAll st (keysOf ups)) (bR ups)∧qo st st0.no uos
def vZ:List SV→(List SV→Prop)→Prop
 | [],K=>K []
 | s :: l,K=>zy s fun s=>vZ l fun l=>K (s :: l)
theorem xK:∀(l:List SV) (K:List SV→Prop),vZ l K=K l
 | [],K=>rfl
 | s :: l,K=>by simp only[vZ,aai,xK]
def agZ (o:Option Ob) (K:Option Ob→Prop):Prop:=
 match o with
 | none=>K none
 | some (.cells T cs)=>vZ cs fun cs=>K (some (.cells T cs))
 | some (.row T sz n f)=>K (some (.row T sz n f))
 | some (.arr T n f)=>K (some (.arr T n f))
 | some (.map kt n get)=>K (some (.map kt n get))
theorem alM (o:Option Ob) (K:Option Ob→Prop):agZ o K=K o:=by
 unfold agZ;split<;>first | rfl | exact xK _ _
def aaQ:List (Nat×SV)→(List (Nat×SV)→Prop)→Prop
 | [],K=>K []
 | (t,s) :: l,K=>zy s fun s=>aaQ l fun l=>K ((t,s) :: l)
theorem acR:∀(l:List (Nat×SV)) (K:List (Nat×SV)→Prop),aaQ l K=K l
 | [],K=>rfl
 | (t,s) :: l,K=>by simp only[aaQ,aai,acR]
def aaK:List (Nat×Option Ob)→(List (Nat×Option Ob)→Prop)→Prop
 | [],K=>K []
 | (t,s) :: l,K=>agZ s fun s=>aaK l fun l=>K ((t,s) :: l)
theorem acr:∀(l:List (Nat×Option Ob)) (K:List (Nat×Option Ob)→Prop),aaK l K=K l
 | [],K=>rfl
 | (t,s) :: l,K=>by simp only[aaK,alM,acr]
def aly (n:Nat) (K:Nat→Prop):Prop:=match n with | 0=>K 0 | n+1=>K (n+1)
theorem alH (n:Nat) (K:Nat→Prop):aly n K=K n:=by cases n<;>rfl
def akY (n:Option Nat) (K:Option Nat→Prop):Prop:=match n with | none=>K none | some n=>K (some n)
theorem alo (n:Option Nat) (K:Option Nat→Prop):akY n K=K n:=by cases n<;>rfl
def tJ (st:St) (K:St→Prop):Prop:=aaQ st.fr fun fr=>aaK st.ob fun ob=>aly st.no fun no=>akY st.k fun k=>K ⟨fr,ob,no,k⟩
theorem sO (st:St) (K:St→Prop):tJ st K=K st:=by simp only[tJ,acR,acr,alH,alo]
noncomputable def rounds (f:St→(Exit→St→Prop)→Prop) (Q:Exit→St→Prop) (n:Nat):St→Prop:=
 Nat.rec (motive:=fun _=>St→Prop) (fun _=>False) (fun _ ih st=>f st fun e st'=>match e with
  | .normal=>ih st'
  | e=>Q e st') n
structure arT where
 X:Type
 up:X→List (Nat×LV)
 uo:X→List UO
 inv:X→Prop
 meas:X→Nat
 x0:X
 cnt:X→Option Nat:=fun _=>none
inductive bE:Type 1
 | unroll (n:Nat)
 | inv (i:arT)
def ap3 (X:bB) (f:St→(Exit→St→Prop)→Prop) (Q:Exit→St→Prop) (st:St) (L:arT) (W G:List Nat):Prop:=
 (alA X st W G (L.up L.x0) (L.uo L.x0)∧st.k=L.cnt L.x0)∧L.inv L.x0 ∧
  ∀x,L.inv x→tJ (gN st W G (L.up x) (L.uo x) (L.cnt x)) fun hd=>f hd fun e st'=>match e with
   | .normal=>∃x',(keysOf (L.up x')=keysOf (L.up x)∧dh (L.uo x')=dh (L.uo x))∧(alp st hd st' W (L.up x') (L.uo x')∧st'.k=L.cnt x')∧L.inv x'∧L.meas x'<L.meas x
   | e=>Q e st'
structure oU where
 A:Type
 capt:A→List PV
 pre:A→Prop
 xs:A→List (List PV)
def as7 (P:Program) (f:Nat):Prop:=∃fn,P.funcs[f]?=some fn∧fn.body.isSome=true∧(fn.name=="runtime.NumGoroutine")=false
def adg (P:Program) (g:Nat) (S:oU):Prop:=
 as7 P g∧∀a,S.pre a→∀(μ:Nat→Option (Array Value)) (lb:Array Value),
  lb.size=(S.capt a).length→(∀(k:Nat) (u:Value) (s:PV),lb[k]?=some u→(S.capt a)[k]?=some s→aO μ u s)→ajl P g lb μ (S.xs a)
structure RInv where
 X:Type
 uo:X→List UO
 inv:Nat→X→Prop
 x0:X
def ak8 (st0 hd st:St) (uos:List UO):Prop:=
 (dJ (yX st.ob hd.ob) st.ob=hd.ob∧aau st0.no (dh uos) (yX st.ob hd.ob) st.ob=true) ∧
 (distinct (iw st uos)=true∧nD st0.no (iw st uos)=true)∧qo st st0.no uos
def afv:PV→Bool
 | .val _=>true
 | .agg l=>gu l
 | _=>false
def ac7:List Nat→List PV→St→(St→Prop)→Prop
 | [],[],st,K=>K st
 | p :: ps,v :: vs,st,K=>aS st (some p) (.p (afv v) v) fun st=>ac7 ps vs st K
 | _,_,_,_=>False
def ajp (X:bB) (st:St) (g:Operand) (ps:Array Tmp) (fa fb:St→(Exit→St→Prop)→Prop) (Q:Exit→St→Prop):Prop:=
 match st.ev g with
 | .p _ (.fn gf capt)=>(X.rnd=false∧acS X.nt ps.toList=true)∧∃S:oU,adg X.P gf S∧∃a:S.A,sN capt (S.capt a)∧S.pre a∧(∀x∈S.xs a,x.length=ps.size)∧∃L:RInv,
   (distinct (dh (L.uo L.x0))=true∧abV X.ro st.no (dh (L.uo L.x0))=true∧distinct (iw st (L.uo L.x0))=true∧nD X.m (iw st (L.uo L.x0))=true) ∧
   qo st st.no (L.uo L.x0)∧L.inv 0 L.x0 ∧
   (∀(k:Nat) (x:L.X) (vs:List PV),L.inv k x→(S.xs a)[k]?=some vs→tJ (gN st [] (iw st (L.uo L.x0)) [] (L.uo x) st.k) fun hd=>ac7 ps.toList vs hd fun hd'=>fa hd' fun e st1=>match e with
    | .normal=>fb st1 fun e st2=>match e with
     | .normal=>∃x',dh (L.uo x')=dh (L.uo x)∧ak8 st hd st2 (L.uo x')∧L.inv (k+1) x'
     | .ret=>Q .ret ⟨hd.fr,st2.ob,st2.no,st2.k⟩
     | .exit id=>Q (.exit id) ⟨hd.fr,st2.ob,st2.no,st2.k⟩
     | _=>False
    | _=>False) ∧
   ∀x,L.inv (S.xs a).length x→tJ (gN st [] (iw st (L.uo L.x0)) [] (L.uo x) st.k) fun hd=>Q .normal hd
 | _=>False
noncomputable def vc (c:Code):bB→St→(Exit→St→Prop)→Prop:=
 Code.rec (motive:=fun _=>bB→St→(Exit→St→Prop)→Prop)
  (fun _ st Q=>Q .normal st)
  (fun _ ops draw X st Q=>match draw with
   | false=>ac4 X ops.toList ops.toList st fun st'=>Q .normal st'
   | true=>∃ord:OT,akn ops ord=true∧gM X ops.toList ord st fun st'=>Q .normal st')
  (fun _ _ fa fb X st Q=>fa X st fun e st'=>match e with
   | .normal=>fb X st' Q
   | e=>Q e st')
  (fun c _ _ fa fb X st Q=>match st.ev c with
   | .p _ (.val (.bool t))=>sW t (fa X st Q) (fb X st Q)
   | _=>False)
  (fun id _ f X st Q=>f X st fun e st'=>match e with
   | .exit j=>match j.beq id with
    | true=>Q .normal st'
    | false=>Q (.exit j) st'
   | e=>Q e st')
  (fun c f X st Q=>∃L:bE,match L with
   | .unroll n=>rounds (f X) Q n st
   | .inv L=>ap3 X (f X) Q st L (oP c++keysOf (L.up L.x0)) (allRows st (L.up L.x0) (L.uo L.x0)))
  (fun g ps _ _ fa fb X st Q=>ajp X st g ps (fa { X with rnd:=true,yl:=none }) (fb { X with rnd:=true,yl:=none }) Q)
  (fun id _ st Q=>Q (.exit id) st)
  (fun _ _ _ _ _=>False)
  (fun _ _ _ _=>False)
  (fun _ _ _ _=>False)
  (fun _ st Q=>Q .ret st)
  (fun _ _ _ _=>False) c
theorem ap4 (c:Operand) (a b:Code) (X:bB) (st:St) (Q:Exit→St→Prop):vc (.cond c a b) X st Q=match st.ev c with
  | .p _ (.val (.bool t))=>sW t (vc a X st Q) (vc b X st Q)
  | _=>False:=rfl
inductive nV (no:Nat):SV→Prop
 | p (b d):nV no (.p b d)
 | own (i off) (h:i<no):nV no (.own i off)
 | row (i) (h:i<no):nV no (.row i)
 | el (i sz j off) (h:i<no):nV no (.el i sz j off)
 | sub (i sz lo n) (h:i<no):nV no (.sub i sz lo n)
 | agg (l) (h:∀(k:Nat) s,l[k]?=some s→nV no s):nV no (.agg l)
 | tup (l) (h:∀(k:Nat) s,l[k]?=some s→nV no s):nV no (.tup l)
 | fn (f l) (h:∀(k:Nat) s,l[k]?=some s→nV no s):nV no (.fn f l)
 | full (n f):nV no (.full n f)
 | any:nV no .any
 | asl (i N lo n) (h:i<no):nV no (.asl i N lo n)
 | mp (i) (h:i<no):nV no (.mp i)
theorem aM.lt {E:Env} {no:Nat} (hnew:∀i,no≤i→E.hd i=none) {v:Value} {s:SV} (h:aM E v s):nV no s:=by
 have one:∀i u,E.hd i=some u→i<no:=fun i u hu=>by
  rcases asE i no with h1 | h1
  ·exact h1
  ·rw[hnew i h1] at hu;cases hu
 have vget:∀(vs:Array Value) (l:List SV),vs.size=l.length→∀(k:Nat) s,l[k]?=some s→∃u,vs[k]?=some u:=fun vs l hl k s hs=>⟨_,aex (by rw[hl];exact (abA.1 hs).1)⟩
 induction h with
 | p=>exact .p _ _
 | own i off b hb=>exact .own _ _ (one _ _ hb)
 | row i v hv _=>exact .row _ (one _ _ hv)
 | el i sz j off b n cap hv=>exact .el _ _ _ _ (one _ _ hv)
 | sub i sz lo n b n' cap c a hv _ _ _ _=>exact .sub _ _ _ _ (one _ _ hv)
 | agg vs l hl _ _ ih=>exact .agg _ fun k s hs=>by obtain ⟨u,hu⟩:=vget vs l hl k s hs;exact ih k u s hu hs
 | tup vs l hl _ ih=>exact .tup _ fun k s hs=>by obtain ⟨u,hu⟩:=vget vs l hl k s hs;exact ih k u s hu hs
 | fn f vs l hl _ ih=>exact .fn _ _ fun k s hs=>by obtain ⟨u,hu⟩:=vget vs l hl k s hs;exact ih k u s hu hs
 | full a n f h=>exact .full _ _
 | any=>exact .any
 | asl i N lo n b c a hb _ _ _=>exact .asl _ _ _ _ (one _ _ hb)
 | mp i r hb=>exact .mp _ (one _ _ hb)
theorem aO.move {E E':Env} (hmem:∀b cs,E.mem b=some cs→E'.mem b=some cs) (hbase:E'.tm=E.tm) {fr:Bool} {v:Value} {d:PV} (h:aO (E.m fr) v d):aO (E'.m fr) v d:=by
 refine h.mono fun b cs hb=>?_
 cases fr with
 | false=>exact hmem b cs hb
 | true=>
  simp only[Env.m] at hb ⊢
  rw[hbase]
  split at hb
  ·rename_i hx;rw[if_pos hx];exact hmem b cs hb
  ·cases hb
theorem aM.move {E E':Env} {no:Nat} (hhd:∀i,i<no→E'.hd i=E.hd i) (hmem:∀b cs,E.mem b=some cs→E'.mem b=some cs) (hbase:E'.tm=E.tm) {v:Value} {s:SV} (h:aM E v s):nV no s→aM E' v s:=by
 induction h with
 | p fr v d h=>exact fun _=>.p fr v d (h.move hmem hbase)
 | own i off b hb=>intro hs;cases hs with | own _ _ hi=>exact .own _ _ b (by rw[hhd i hi];exact hb)
 | row i v hv hsl=>intro hs;cases hs with | row _ hi=>exact .row _ _ (by rw[hhd i hi];exact hv) hsl
 | el i sz j off b n cap hb=>intro hs;cases hs with | el _ _ _ _ hi=>exact .el _ _ _ _ b n cap (by rw[hhd i hi];exact hb)
 | sub i sz lo n b n' cap c a hb hle hc hr ha=>intro hs;cases hs with | sub _ _ _ _ hi=>exact .sub _ _ _ _ b n' cap c a (by rw[hhd i hi];exact hb) hle hc hr ha
 | agg vs l hl h1 _ ih=>intro hs;cases hs with | agg _ hh=>exact .agg vs l hl h1 fun k u s hu hs=>ih k u s hu hs (hh k s hs)
 | tup vs l hl _ ih=>intro hs;cases hs with | tup _ hh=>exact .tup vs l hl fun k u s hu hs=>ih k u s hu hs (hh k s hs)
 | fn f vs l hl _ ih=>intro hs;cases hs with | fn _ _ hh=>exact .fn f vs l hl fun k u s hu hs=>ih k u s hu hs (hh k s hs)
 | full a n f h=>exact fun _=>.full a n f (h.move (fr:=false) hmem hbase)
 | any v=>exact fun _=>.any v
 | asl i N lo n b c a hb hle hc ha=>intro hs;cases hs with | asl _ _ _ _ hi=>exact .asl _ _ _ _ b c a (by rw[hhd i hi];exact hb) hle hc ha
 | mp i r hb=>intro hs;cases hs with | mp _ hi=>exact .mp _ r (by rw[hhd i hi];exact hb)
def OLt (no:Nat):Ob→Prop
 | .cells _ cs=>∀(k:Nat) s,cs[k]?=some s→nV no s
 | .row _ _ _ _=>True
 | .arr _ _ _=>True
 | .map _ _ _=>True
theorem cZ.lt {E:Env} {no:Nat} (hnew:∀i,no≤i→E.hd i=none) {w:World} {i:Nat} {o:Ob} (h:cZ E w i o):OLt no o:=by
 cases h with
 | cells b T vs cs hh hw hl h1 he=>
  intro k s hs
  have hk:k<vs.size:=by rw[hl];exact (abA.1 hs).1
  exact (he k _ s (aex hk) hs).lt hnew
 | row=>trivial
 | arr=>trivial
 | map=>trivial
theorem cZ.move {E E':Env} {no:Nat} (hhd:∀i,i<no→E'.hd i=E.hd i) (hmem:∀b cs,E.mem b=some cs→E'.mem b=some cs) (hbase:E'.tm=E.tm) {w:World} {i:Nat} (hi:i<no) {o:Ob} (h:cZ E w i o) (ho:OLt no o):cZ E' w i o:=by
 cases h with
 | cells b T vs cs hh hw hl h1 he=>exact .cells b T vs cs (by rw[hhd i hi];exact hh) hw hl h1 fun k u s hu hs=>(he k u s hu hs).move hhd hmem hbase (ho k s hs)
 | row T sz n f v xs u hh hw hmax hl hc he=>exact .row T sz n f v xs u (by rw[hhd i hi];exact hh) hw hmax hl hc fun j k s hj hs=>(he j k s hj hs).mono hmem
 | arr b T vs n f u hh hw hs hc he=>exact .arr b T vs n f u (by rw[hhd i hi];exact hh) hw hs hc fun k hk=>(he k hk).mono hmem
 | map r es clock kt n get hh hw h1 h2 h3 h4=>exact .map r es clock kt n get (by rw[hhd i hi];exact hh) hw h1 h2 h3 (h4.mono hmem)
def bF:List LV→List Ob
 | []=>[]
 | .s _ :: l=>bF l
 | .ob _ :: l=>bF l
 | .rw T sz n f :: l=>.row T sz n f :: bF l
 | .rws T sz n f :: l=>.row T sz n f :: bF l
 | .ps _ :: l=>bF l
def bZ:List LV→List Value→List Value
 | .rw _ _ _ _ :: cs,v :: vs=>v :: bZ cs vs
 | .rws _ _ _ _ :: cs,v :: vs=>v :: bZ cs vs
 | .ps _ :: cs,_ :: vs=>bZ cs vs
 | .s _ :: cs,_ :: vs=>bZ cs vs
 | .ob _ :: cs,_ :: vs=>bZ cs vs
 | _,_=>[]
def bO:List SV→List LV→List (Option Nat)
 | .row j :: ss,.rw _ _ _ _ :: cs=>some j :: bO ss cs
 | _ :: ss,.rw _ _ _ _ :: cs=>none :: bO ss cs
 | .row j :: ss,.rws _ _ _ _ :: cs=>some j :: bO ss cs
 | _ :: ss,.rws _ _ _ _ :: cs=>none :: bO ss cs
 | _ :: ss,.ps _ :: cs=>bO ss cs
 | _ :: ss,.s _ :: cs=>bO ss cs
 | _ :: ss,.ob _ :: cs=>bO ss cs
 | _,_=>[]
theorem eH:∀(n:Nat) (cs:List LV),fP n cs=n+(bF cs).length
 | n,[]=>rfl
 | n,.s _ :: cs=>by simp[fP,bF,eH n cs]
 | n,.ob _ :: cs=>by simp[fP,bF,eH n cs]
 | n,.rw _ _ _ _ :: cs=>by simp[fP,bF,eH (n+1) cs];omega
 | n,.rws _ _ _ _ :: cs=>by simp[fP,bF,eH (n+1) cs];omega
 | n,.ps _ :: cs=>by simp[fP,bF,eH n cs]
theorem gT:∀(n:Nat) (cs:List LV) (i:Nat),look (rowsOf n cs) i=if n≤i then ((bF cs)[i-n]?).map some else none
 | n,[],i=>by simp[rowsOf,look,bF]
 | n,.s _ :: cs,i=>by simp only[rowsOf,bF];exact gT n cs i
 | n,.ob _ :: cs,i=>by simp only[rowsOf,bF];exact gT n cs i
 | n,.rw T sz m f :: cs,i=>by
  simp only[rowsOf,bF,bC,gT (n+1) cs i]
  by_cases h:n=i
  ·subst h;simp
  ·rw[if_neg h]
   by_cases h2:n≤i
   ·rw[if_pos h2,if_pos (by omega),show i-n=(i-(n+1))+1 by omega];simp
   ·rw[if_neg h2,if_neg (by omega)]
 | n,.rws T sz m f :: cs,i=>by
  simp only[rowsOf,bF,bC,gT (n+1) cs i]
  by_cases h:n=i
  ·subst h;simp
  ·rw[if_neg h]
   by_cases h2:n≤i
   ·rw[if_pos h2,if_pos (by omega),show i-n=(i-(n+1))+1 by omega];simp
   ·rw[if_neg h2,if_neg (by omega)]
 | n,.ps _ :: cs,i=>by simp only[rowsOf,bF];exact gT n cs i
theorem iy:∀(cs:List LV) (vs:List Value),vs.length=cs.length→(bZ cs vs).length=(bF cs).length
 | [],_,_=>by simp[bZ,bF]
 | .s _ :: cs,[],h=>by simp at h
 | .s _ :: cs,v :: vs,h=>by simp[bZ,bF,iy cs vs (by simpa using h)]
 | .ob _ :: cs,[],h=>by simp at h
 | .ob _ :: cs,v :: vs,h=>by simp[bZ,bF,iy cs vs (by simpa using h)]
 | .rw _ _ _ _ :: cs,[],h=>by simp at h
 | .rw _ _ _ _ :: cs,v :: vs,h=>by simp[bZ,bF,iy cs vs (by simpa using h)]
 | .rws _ _ _ _ :: cs,[],h=>by simp at h
 | .rws _ _ _ _ :: cs,v :: vs,h=>by simp[bZ,bF,iy cs vs (by simpa using h)]
 | .ps _ :: cs,[],h=>by simp at h
 | .ps _ :: cs,v :: vs,h=>by simp[bZ,bF,iy cs vs (by simpa using h)]
theorem jX:∀(ss:List SV) (cs:List LV),ss.length=cs.length→(bO ss cs).length=(bF cs).length
 | [],[],_=>by simp[bO,bF]
 | [],_ :: _,h=>by simp at h
 | _ :: _,[],h=>by simp at h
 | s :: ss,.s _ :: cs,h=>by cases s<;>simp[bO,bF,jX ss cs (by simpa using h)]
 | s :: ss,.ob _ :: cs,h=>by cases s<;>simp[bO,bF,jX ss cs (by simpa using h)]
 | s :: ss,.rw _ _ _ _ :: cs,h=>by cases s<;>simp[bO,bF,jX ss cs (by simpa using h)]
 | s :: ss,.rws _ _ _ _ :: cs,h=>by cases s<;>simp[bO,bF,jX ss cs (by simpa using h)]
 | s :: ss,.ps _ :: cs,h=>by cases s<;>simp[bO,bF,jX ss cs (by simpa using h)]
theorem mM:∀(ss:List SV) (cs:List LV),(bO ss cs).filterMap id=dz ss cs
 | [],cs=>by cases cs<;>simp[bO,dz]
 | s :: ss,[]=>by cases s<;>simp[bO,dz]
 | s :: ss,.s _ :: cs=>by cases s<;>simp[bO,dz,mM ss cs]
 | s :: ss,.ob _ :: cs=>by cases s<;>simp[bO,dz,mM ss cs]
 | s :: ss,.rw _ _ _ _ :: cs=>by cases s<;>simp[bO,dz,mM ss cs]
 | s :: ss,.rws _ _ _ _ :: cs=>by cases s<;>simp[bO,dz,mM ss cs]
 | s :: ss,.ps _ :: cs=>by cases s<;>simp[bO,dz,mM ss cs]
theorem uO (st:St) (no:Nat):∀(ss:List SV) (cs:List LV),iZ st no ss cs→ss.length=cs.length∧∀(k:Nat) s c,ss[k]?=some s→cs[k]?=some c→pO st no s c
 | [],[],_=>by simp
 | [],_ :: _,h=>by simp[iZ] at h
 | _ :: _,[],h=>by simp[iZ] at h
 | [x],[y],h=>by
  refine ⟨rfl,fun k a b ha hb=>?_⟩
  cases k with
  | zero=>simp at ha hb;subst ha;subst hb;exact h
  | succ k=>simp at ha
 | [x],y :: z :: ys,h=>by simp[iZ] at h
 | x :: z :: xs,[y],h=>by simp[iZ] at h
 | x :: x2 :: xs,y :: y2 :: ys,h=>by
  simp only[iZ] at h
  obtain ⟨h1,h2⟩:=uO st no (x2 :: xs) (y2 :: ys) h.2
  refine ⟨by simpa using h1,fun k a b ha hb=>?_⟩
  cases k with
  | zero=>simp at ha hb;subst ha;subst hb;exact h.1
  | succ k=>simp only[aoz] at ha hb;exact h2 k a b ha hb
structure Grp (E:Env) (ss:List SV) (vs:List Value):Prop where
 len:vs.length=ss.length
 rep:∀(k:Nat) v s,vs[k]?=some v→ss[k]?=some s→aM E v s
theorem aeQ {no:Nat}:∀{l:List SV},afE no l=true→∀(k:Nat) s,l[k]?=some s→nV no s
 | [],_,k,s,h=>by simp at h
 | x :: l,ho,k,s,h=>by
  simp only[afE,agw] at ho
  cases k with
  | zero=>
   simp at h;subst h
   cases x<;>simp[afH] at ho
   ·exact .p _ _
   ·exact .own _ _ (by simpa [atB] using ho.1)
   ·exact .any
   ·exact .mp _ (by simpa [atB] using ho.1)
  | succ k=>exact aeQ ho.2 k s (by simpa using h)
theorem anl {E:Env} {v:Value} {s c:SV} (h:amQ s c) (hv:aM E v s):aM E v c:=by
 unfold amQ at h
 split at h
 ·exact .any v
 ·split at h
  ·cases hv with
   | p fr _ d hp=>
    have weak:∀(x y:Bool) (B:Nat) (cs:Array Value),(x=true→y=true)→E.m y B=some cs→E.m x B=some cs:=by
     intro x y B cs hxy hb
     cases x with
     | true=>rw[hxy rfl] at hb;exact hb
     | false=>exact E.eO y _ _ hb
    exact .p _ _ _ (oV h.2 (hp.mono fun b cs hb=>weak _ _ b cs h.1 hb))
  ·exact h.elim
 ·split at h
  ·obtain ⟨rfl,rfl⟩:=h;exact hv
  ·exact h.elim
 ·split at h
  ·obtain rfl:=h;exact hv
  ·exact h.elim
 ·exact h.elim
theorem tF {E1 E2:Env} {st1:St} {no0:Nat} (hhd:∀i,i<no0→E2.hd i=E1.hd i) (hmem:∀b cs,E1.mem b=some cs→E2.mem b=some cs) (hbase:E2.tm=E1.tm) :
  ∀(ss:List SV) (cs:List LV) (vs:List Value) (n:Nat),(∀(k:Nat) s c,ss[k]?=some s→cs[k]?=some c→pO st1 no0 s c)→ss.length=cs.length→Grp E1 ss vs →
   (∀p v,(bZ cs vs)[p]?=some v→E2.hd (n+p)=some v)→∀(k:Nat) v s,vs[k]?=some v→(fM n cs)[k]?=some s→aM E2 v s
 | [],[],vs,n,_,_,hg,_,k,v,s,hv,hs=>by simp[fM] at hs
 | [],_ :: _,_,_,_,hl,_,_,_,_,_,_,_=>by simp at hl
 | _ :: _,[],_,_,_,hl,_,_,_,_,_,_,_=>by simp at hl
 | x :: ss,c :: cs,[],n,_,_,hg,_,k,v,s,hv,hs=>by simp at hv
 | x :: ss,c :: cs,u :: vs,n,hM,hl,hg,hrow,k,v,s,hv,hs=>by
  have hM0:=hM 0 x c rfl rfl
  have hr0:=hg.rep 0 u x rfl rfl
  have hg':Grp E1 ss vs:=⟨by simpa using hg.len,fun k v s h1 h2=>hg.rep (k+1) v s (by simpa using h1) (by simpa using h2)⟩
  have hM':∀(k:Nat) s c,ss[k]?=some s→cs[k]?=some c→pO st1 no0 s c:=fun k s c h1 h2=>hM (k+1) s c (by simpa using h1) (by simpa using h2)
  cases c with
  | s c0=>
   have ih:=tF hhd hmem hbase ss cs vs n hM' (by simpa using hl) hg' (fun p v hp=>hrow p v (by simpa [bZ] using hp))
   cases k with
   | zero=>
    simp[fM] at hv hs;subst hv;subst hs
    unfold pO at hM0
    split at hM0
    ·rename_i hh
     cases hh
     obtain ⟨rfl,h2⟩:=hM0
     exact hr0.move hhd hmem hbase (.fn _ _ (aeQ h2))
    ·rename_i hh
     cases hh
     have:=anl hM0.1 hr0
     refine this.move hhd hmem hbase ?_
     have h2:=hM0.2
     cases c0<;>simp[afH] at h2
     ·exact .p _ _
     ·exact .own _ _ (by simpa [atB] using h2)
     ·exact .any
     ·exact .mp _ (by simpa [atB] using h2)
    all_goals first | exact hM0.elim | (rename_i hh;cases hh;done)
   | succ k=>exact ih k v s (by simpa using hv) (by simpa [fM] using hs)
  | ob o=>exact hM0.elim
  | rw T sz m f=>
   have ih:=tF hhd hmem hbase ss cs vs (n+1) hM' (by simpa using hl) hg' (fun p v hp=>by rw[show n+1+p=n+(p+1) by omega];exact hrow (p+1) v (by simpa [bZ] using hp))
   cases k with
   | zero=>
    simp[fM] at hv hs;subst hv;subst hs
    refine .row n u (hrow 0 u (by simp[bZ])) ?_
    simp only[pO] at hM0
    split at hM0
    ·cases hr0 with | row _ _ _ hs=>exact hs
    ·have:=hr0.aN;subst this;rfl
    ·exact hM0.elim
   | succ k=>exact ih k v s (by simpa using hv) (by simpa [fM] using hs)
  | rws T sz m f=>
   have ih:=tF hhd hmem hbase ss cs vs (n+1) hM' (by simpa using hl) hg' (fun p v hp=>by rw[show n+1+p=n+(p+1) by omega];exact hrow (p+1) v (by simpa [bZ] using hp))
   cases k with
   | zero=>
    simp[fM] at hv hs;subst hv;subst hs
    refine .row n u (hrow 0 u (by simp[bZ])) ?_
    simp only[pO] at hM0
    split at hM0
    ·cases hr0 with | row _ _ _ hs=>exact hs
    ·have:=hr0.aN;subst this;rfl
    ·exact hM0.elim
   | succ k=>exact ih k v s (by simpa using hv) (by simpa [fM] using hs)
  | ps d0=>
   have ih:=tF hhd hmem hbase ss cs vs n hM' (by simpa using hl) hg' (fun p v hp=>hrow p v (by simpa [bZ] using hp))
   cases k with
   | zero=>
    simp[fM] at hv hs;subst hv;subst hs
    simp only[pO] at hM0
    split at hM0
    ·have h0:aM E1 u (.p false d0):=by
      cases hr0 with
      | p fr _ d hp=>
       refine .p _ _ _ (rA hM0 (hp.mono fun b cs hb=>?_))
       exact E1.eO _ _ _ hb
     exact h0.move hhd hmem hbase (.p _ _)
    ·exact hM0.elim
   | succ k=>exact ih k v s (by simpa using hv) (by simpa [fM] using hs)
theorem afM {E1:Env} {st1:St} {no0:Nat}:∀(ss:List SV) (cs:List LV) (vs:List Value),(∀(k:Nat) s c,ss[k]?=some s→cs[k]?=some c→pO st1 no0 s c)→ss.length=cs.length→Grp E1 ss vs →
  ∀(p:Nat) (o:Ob),(bF cs)[p]?=some o→∃(v:Value) (T:TypeId) (sz n:Nat) (f:Nat→List PV),o=.row T sz n f∧(bZ cs vs)[p]?=some v ∧
   ((∃j f',(bO ss cs)[p]?=some (some j)∧E1.hd j=some v∧st1.obj j=some (.row T sz n f')∧∀k,k<n→bN (f' k) (f k))∨((bO ss cs)[p]?=some none∧v=.slice none 0 0∧n=0))
 | [],[],vs,_,_,_,p,o,h=>by simp[bF] at h
 | [],_ :: _,_,_,hl,_,_,_,_=>by simp at hl
 | _ :: _,[],_,_,hl,_,_,_,_=>by simp at hl
 | x :: ss,c :: cs,[],_,_,hg,p,o,h=>by have:=hg.len;simp at this
 | x :: ss,c :: cs,u :: vs,hM,hl,hg,p,o,h=>by
  have hM0:=hM 0 x c rfl rfl
  have hr0:=hg.rep 0 u x rfl rfl
  have hg':Grp E1 ss vs:=⟨by simpa using hg.len,fun k v s h1 h2=>hg.rep (k+1) v s (by simpa using h1) (by simpa using h2)⟩
  have hM':∀(k:Nat) s c,ss[k]?=some s→cs[k]?=some c→pO st1 no0 s c:=fun k s c h1 h2=>hM (k+1) s c (by simpa using h1) (by simpa using h2)
  have ih:=afM ss cs vs hM' (by simpa using hl) hg'
  cases c with
  | s c0=>
   obtain ⟨v,T,sz,n,f,h1,h2,h3⟩:=ih p o (by simpa [bF] using h)
   refine ⟨v,T,sz,n,f,h1,by simpa [bZ] using h2,?_⟩
   have:bO (x :: ss) (.s c0 :: cs)=bO ss cs:=by cases x<;>simp[bO]
   rw[this];exact h3
  | ob o=>exact hM0.elim
  | rw T sz m f=>
   cases p with
   | zero=>
    simp[bF] at h;subst h
    simp only[pO] at hM0
    split at hM0
    ·rename_i j
     split at hM0
     ·rename_i T' sz' n' f' hob
      obtain ⟨rfl,rfl,rfl,h4⟩:=hM0
      cases hr0 with
      | row _ _ hh _=>exact ⟨u,_,_,_,f,rfl,by simp[bZ],.inl ⟨j,f',by simp[bO],hh,hob,fun k hk=>bN.of (h4 k hk)⟩⟩
     ·exact hM0.elim
    ·have:=hr0.aN;subst this
     subst hM0
     exact ⟨_,_,_,_,f,rfl,by simp[bZ],.inr ⟨by simp[bO],rfl,rfl⟩⟩
    ·exact hM0.elim
   | succ p=>
    obtain ⟨v,T',sz',n,f',h1,h2,h3⟩:=ih p o (by simpa [bF] using h)
    refine ⟨v,T',sz',n,f',h1,by simpa [bZ] using h2,?_⟩
    have:(bO (x :: ss) (.rw T sz m f :: cs))[p+1]?=(bO ss cs)[p]?:=by cases x<;>simp[bO]
    rw[this];exact h3
  | rws T sz m f=>
   cases p with
   | zero=>
    simp[bF] at h;subst h
    simp only[pO] at hM0
    split at hM0
    ·rename_i j
     split at hM0
     ·rename_i T' sz' n' f' hob
      obtain ⟨rfl,rfl,rfl,h4⟩:=hM0
      cases hr0 with
      | row _ _ hh _=>exact ⟨u,_,_,_,f,rfl,by simp[bZ],.inl ⟨j,f',by simp[bO],hh,hob,h4⟩⟩
     ·exact hM0.elim
    ·have:=hr0.aN;subst this
     subst hM0
     exact ⟨_,_,_,_,f,rfl,by simp[bZ],.inr ⟨by simp[bO],rfl,rfl⟩⟩
    ·exact hM0.elim
   | succ p=>
    obtain ⟨v,T',sz',n,f',h1,h2,h3⟩:=ih p o (by simpa [bF] using h)
    refine ⟨v,T',sz',n,f',h1,by simpa [bZ] using h2,?_⟩
    have:(bO (x :: ss) (.rws T sz m f :: cs))[p+1]?=(bO ss cs)[p]?:=by cases x<;>simp[bO]
    rw[this];exact h3
  | ps d0=>
   obtain ⟨v,T,sz,n,f,h1,h2,h3⟩:=ih p o (by simpa [bF] using h)
   refine ⟨v,T,sz,n,f,h1,by simpa [bZ] using h2,?_⟩
   have:bO (x :: ss) (.ps d0 :: cs)=bO ss cs:=by cases x<;>simp[bO]
   rw[this];exact h3
structure qR where
 ss:List SV
 cs:List LV
 vs:List Value
def fT:List qR→List Value
 | []=>[]
 | g :: l=>bZ g.cs g.vs++fT l
def oK:List qR→List (Option Nat)
 | []=>[]
 | g :: l=>bO g.ss g.cs++oK l
def jq:List qR→List Ob
 | []=>[]
 | g :: l=>bF g.cs++jq l
structure qR.Ok (E:Env) (st:St) (no:Nat) (g:qR):Prop where
 m:iZ st no g.ss g.cs
 grp:Grp E g.ss g.vs
theorem aj7 {E1:Env} {st1:St} {no0:Nat}:∀(gs:List qR),(∀g∈gs,g.Ok E1 st1 no0)→(fT gs).length=(jq gs).length∧(oK gs).length=(jq gs).length ∧
  ∀(p:Nat) (o:Ob),(jq gs)[p]?=some o→∃(v:Value) (T:TypeId) (sz n:Nat) (f:Nat→List PV),o=.row T sz n f∧(fT gs)[p]?=some v ∧
   ((∃j f',(oK gs)[p]?=some (some j)∧E1.hd j=some v∧st1.obj j=some (.row T sz n f')∧∀k,k<n→bN (f' k) (f k))∨((oK gs)[p]?=some none∧v=.slice none 0 0∧n=0))
 | [],_=>by simp[fT,oK,jq]
 | g :: gs,h=>by
  obtain ⟨h1,h2,h3⟩:=aj7 gs fun x hx=>h x (by simp[hx])
  obtain ⟨hm,hg⟩:=h g (by simp)
  obtain ⟨hl,hget⟩:=uO _ _ _ _ hm
  have l1:=iy g.cs g.vs (by rw[hg.len,hl])
  have l2:=jX g.ss g.cs hl
  refine ⟨by simp[fT,jq,l1,h1],by simp[oK,jq,l2,h2],fun p o hp=>?_⟩
  simp only[jq] at hp
  by_cases hlt:p<(bF g.cs).length
  ·rw[afk hlt] at hp
   obtain ⟨v,T,sz,n,f,e1,e2,e3⟩:=afM g.ss g.cs g.vs hget hl hg p o hp
   refine ⟨v,T,sz,n,f,e1,by simp only[fT];rw[afk (by omega)];exact e2,?_⟩
   simp only[oK];rw[afk (by omega)];exact e3
  ·rw[agH (by omega)] at hp
   obtain ⟨v,T,sz,n,f,e1,e2,e3⟩:=h3 _ o hp
   refine ⟨v,T,sz,n,f,e1,by simp only[fT];rw[agH (by omega),l1];exact e2,?_⟩
   simp only[oK];rw[agH (by omega),l2];exact e3
def gJ (E:Env) (no:Nat) (vals:List Value):Env:=
 { E with hd:=fun i=>if i<no then E.hd i else vals[i-no]? }
theorem jU {α:Type}:∀(l:List (Option α)) (p:Nat) (a:α),l[p]?=some (some a)→a∈l.filterMap id
 | [],p,a,h=>by simp at h
 | x :: l,0,a,h=>by simp at h;subst h;simp
 | x :: l,p+1,a,h=>by
  have:=jU l p a (by simpa using h)
  cases x<;>simp[List.filterMap_cons]<;>first | (simpa using this) | (right;simpa using this)
theorem rV:∀(l:List (Option Nat)),distinct (l.filterMap id)=true→∀(p q j:Nat),l[p]?=some (some j)→l[q]?=some (some j)→p=q
 | [],_,p,q,j,h,_=>by simp at h
 | none :: l,hd,p,q,j,hp,hq=>by
  cases p with
  | zero=>simp at hp
  | succ p=>cases q with
   | zero=>simp at hq
   | succ q=>rw[rV l (by simpa using hd) p q j (by simpa using hp) (by simpa using hq)]
 | some i :: l,hd,p,q,j,hp,hq=>by
  simp only[List.filterMap_cons,id,distinct,agw,aoW] at hd
  have hi:i∉l.filterMap id:=fun hm=>by have:=(eZ i _).2 hm;rw[hd.1] at this;cases this
  cases p with
  | zero=>
   simp at hp;subst hp
   cases q with
   | zero=>rfl
   | succ q=>exact absurd (jU l q _ (by simpa using hq)) hi
  | succ p=>
   cases q with
   | zero=>simp at hq;subst hq;exact absurd (jU l p _ (by simpa using hp)) hi
   | succ q=>rw[rV l hd.2 p q j (by simpa using hp) (by simpa using hq)]
theorem amn {C:Ctx} {E1:Env} {st1 hd:St} {w:World} (h:bq C E1 st1 w) {no:Nat} (hmno:C.kh≤no) (hkk:hd.k=st1.k) {gs:List qR} (hgs:∀g∈gs,g.Ok E1 st1 no) (hdist:distinct ((oK gs).filterMap id)=true)
  (hge:∀j,j∈(oK gs).filterMap id→C.m≤j∧(j<no→hd.obj j=none))
  (hhi:∀i,no≤i→hd.obj i=(jq gs)[i-no]?) (hhno:hd.no=no+(jq gs).length)
  (hlo:∀i o,i<no→hd.obj i=some o→(∃o1,st1.obj i=some o1)∧((st1.obj i=some o∧OLt no o)∨cZ (gJ E1 no (fT gs)) w i o)) :
  bq C (gJ E1 no (fT gs)) hd w:=by
 obtain ⟨len1,len2,rows⟩:=aj7 gs hgs
 have lo:∀i,i<no→(gJ E1 no (fT gs)).hd i=E1.hd i:=fun i hi=>by simp[gJ,hi]
 have hi':∀p,(gJ E1 no (fT gs)).hd (no+p)=(fT gs)[p]?:=fun p=>by
  have:¬no+p<no:=by omega
  simp only[gJ,if_neg this,atq]
 have blkLo:∀i,i<no→(gJ E1 no (fT gs)).blk i=E1.blk i:=fun i hi=>by simp[Env.blk,lo i hi]
 -- whose block a row of the head has
 have rowBlk:∀p o,(jq gs)[p]?=some o→∀b,(gJ E1 no (fT gs)).blk (no+p)=some b→∃j o',(oK gs)[p]?=some (some j)∧st1.obj j=some o'∧E1.blk j=some b:=by
  intro p o hp b hb
  obtain ⟨v,T,sz,n,f,e1,e2,e3⟩:=rows p o hp
  have hb':aG v=some b:=by simpa [Env.blk,hi',e2] using hb
  rcases e3 with ⟨j,f',s1,s2,s3,_⟩ | ⟨_,rfl,_⟩
  ·exact ⟨j,_,s1,s3,by simp[Env.blk,s2,hb']⟩
  ·simp[aG] at hb'
 have isRow:∀i o,no≤i→hd.obj i=some o→∃p,i=no+p∧(jq gs)[p]?=some o:=fun i o hi ho=>⟨i-no,by omega,by rw[←hhi i hi];exact ho⟩
 refine ⟨fun i o ho=>?_,fun i j o o' b ho ho' hb hb'=>?_,fun i o b ho hb=>?_,h.mem,h.mem0,h.memnew,fun i hi=>?_,h.base,⟨h.fr.os,h.fr.tape,h.fr.output,h.fr.bsz,h.fr.wsz,h.fr.wos,h.fr.isz,h.fr.block,h.fr.sync⟩,fun k hk=>?_,by omega,h.mkh,h.kk.trans hkk.symm⟩
 ·by_cases hi:i<no
  ·rcases (hlo i o hi ho).2 with ⟨h1,h2⟩ | h1
   ·exact (h.ob i o h1).move (fun k hk=>lo k hk) (fun _ _ h=>h) rfl hi h2
   ·exact h1
  ·obtain ⟨p,rfl,hp⟩:=isRow i o (by omega) ho
   obtain ⟨v,T,sz,n,f,e1,e2,e3⟩:=rows p o hp
   subst e1
   rcases e3 with ⟨j,f',s1,s2,s3,s4⟩ | ⟨_,rfl,rfl⟩
   ·obtain ⟨v0,xs,u,hh,hw,hmax,hl,hc,he⟩:=jL (h.ob j _ s3)
    rw[s2] at hh;cases hh
    exact .row T sz n f v xs u (by rw[hi',e2]) hw hmax (fun j hj=>(s4 j hj).1.symm.trans (hl j hj)) (fun j k s hj hs=>by
     obtain ⟨t,ht⟩:=ko (s4 j hj).1 hs
     exact hc j k t hj ht) (fun j k s hj hs=>by
     obtain ⟨t,ht⟩:=ko (s4 j hj).1 hs
     exact rA ((s4 j hj).2 k t s ht hs) (he j k t hj ht))
   ·exact .row T sz 0 f _ [] (fun _ _=>undef) (by rw[hi',e2]) (World.ownsRow_nil w 0 T sz) (afc _) (fun j hj=>by omega) (fun j k s hj=>by omega) (fun j k s hj=>by omega)
 ·by_cases hi:i<no
  ·by_cases hj:j<no
   ·obtain ⟨o1,h1⟩:=(hlo i o hi ho).1
    obtain ⟨o2,h2⟩:=(hlo j o' hj ho').1
    rw[blkLo i hi] at hb;rw[blkLo j hj] at hb'
    exact h.sep i j o1 o2 b h1 h2 hb hb'
   ·obtain ⟨p,rfl,hp⟩:=isRow j o' (by omega) ho'
    obtain ⟨k,ok,s1,s2,s3⟩:=rowBlk p o' hp b hb'
    obtain ⟨o1,h1⟩:=(hlo i o hi ho).1
    rw[blkLo i hi] at hb
    have:=h.sep i k o1 ok b h1 s2 hb s3
    subst this
    rw[(hge i (jU _ _ _ s1)).2 hi] at ho;cases ho
  ·obtain ⟨p,rfl,hp⟩:=isRow i o (by omega) ho
   obtain ⟨k,ok,s1,s2,s3⟩:=rowBlk p o hp b hb
   by_cases hj:j<no
   ·obtain ⟨o1,h1⟩:=(hlo j o' hj ho').1
    rw[blkLo j hj] at hb'
    have:=h.sep k j ok o1 b s2 h1 s3 hb'
    subst this
    rw[(hge k (jU _ _ _ s1)).2 hj] at ho';cases ho'
   ·obtain ⟨q,rfl,hq⟩:=isRow j o' (by omega) ho'
    obtain ⟨k',ok',t1,t2,t3⟩:=rowBlk q o' hq b hb'
    have:=h.sep k k' ok ok' b s2 t2 s3 t3
    subst this
    rw[rV _ hdist p q k s1 t1]
 ·by_cases hi:i<no
  ·obtain ⟨o1,h1⟩:=(hlo i o hi ho).1
   rw[blkLo i hi] at hb
   exact h.own i o1 b h1 hb
  ·obtain ⟨p,rfl,hp⟩:=isRow i o (by omega) ho
   obtain ⟨k,ok,s1,s2,s3⟩:=rowBlk p o hp b hb
   obtain ⟨g1,g2,g3⟩:=h.own k ok b s2 s3
   have:=(hge k (jU _ _ _ s1)).1
   exact ⟨g1,.inl (g2.resolve_right (fun x=>by omega)),.inl (g3.resolve_right (fun x=>by omega))⟩
 ·rw[hhno] at hi
  have:i=no+(i-no):=by omega
  rw[this,hi',asF (by omega)]
 ·rw[lo k (by omega)];exact h.hd0 k hk
theorem iH:∀(n:Nat) (cs:List LV),(fM n cs).length=cs.length
 | n,[]=>rfl
 | n,.s _ :: cs=>by simp[fM,iH n cs]
 | n,.ob _ :: cs=>by simp[fM,iH n cs]
 | n,.rw _ _ _ _ :: cs=>by simp[fM,iH (n+1) cs]
 | n,.rws _ _ _ _ :: cs=>by simp[fM,iH (n+1) cs]
 | n,.ps _ :: cs=>by simp[fM,iH n cs]
theorem kU {α:Type}:∀(l:List (Nat×α)),(keysOf l).length=l.length∧(bR l).length=l.length
 | []=>by simp[keysOf,bR]
 | (t,v) :: l=>by simp[keysOf,bR,(kU l).1,(kU l).2]
theorem zx:∀(ts:List Nat) (ss:List SV),ts.length=ss.length→distinct ts=true→∀t,(∀k:Nat,ts[k]?=some t→look (vT ts ss) t=ss[k]?)∧(t∉ts→look (vT ts ss) t=none)
 | [],[],_,_,t=>by simp[vT,look]
 | [],_ :: _,h,_,t=>by simp at h
 | _ :: _,[],h,_,t=>by simp at h
 | i :: ts,s :: ss,h,hd,t=>by
  simp only[distinct,agw,aoW] at hd
  have hi:i∉ts:=fun hm=>by have:=(eZ i ts).2 hm;rw[hd.1] at this;cases this
  obtain ⟨h1,h2⟩:=zx ts ss (by simpa using h) hd.2 t
  refine ⟨fun k hk=>?_,fun hm=>?_⟩
  ·simp only[vT,bC]
   cases k with
   | zero=>simp at hk;subst hk;simp
   | succ k=>
    simp at hk
    have:i≠t:=fun e=>by subst e;exact hi (adh hk)
    rw[if_neg this,h1 k hk];simp
  ·simp only[ai0,not_or] at hm
   simp only[vT,bC]
   rw[if_neg (fun e=>hm.1 e.symm),h2 hm.2]
theorem jf {α:Type}:∀(a b:List (Nat×α)) (t:Nat),look (a++b) t=match look a t with | some v=>some v | none=>look b t
 | [],b,t=>by simp[look]
 | (k,v) :: a,b,t=>by
  simp only[List.cons_append,bC]
  by_cases h:k=t
  ·simp[h]
  ·simp only[h,if_false];exact jf a b t
theorem jB (W:List Nat):∀(l:List (Nat×SV)) (t:Nat),look (dropKeys W l) t=if t∈W then none else look l t
 | [],t=>by simp[dropKeys,look]
 | (k,s) :: l,t=>by
  simp only[dropKeys]
  cases hk:gX k W with
  | true=>
   have:=(eZ k W).1 hk
   rw[jB W l t,bC]
   by_cases h:t∈W
   ·simp[h]
   ·rw[if_neg h,if_neg h,if_neg (fun e:k=t=>h (e▸this))]
  | false=>
   have hn:k∉W:=fun hm=>by have:=(eZ k W).2 hm;rw[hk] at this;cases this
   rw[bC,bC,jB W l t]
   by_cases h:k=t
   ·subst h;simp[hn]
   ·simp[h]
def nX (a:Act):List Nat→List Value
 | []=>[]
 | t :: l=>a.tmps.getD t undef :: nX a l
def aaN (E:Env) (w:World) (i:Nat):List Value:=
 match E.blk i with
 | some b=>match w.heap[b]? with
  | some (.cells vs _ _)=>vs.toList
  | _=>[]
 | none=>[]
def tK (st:St) (u:UO):List SV:=match eY st u.i u.T with | some cs=>cs | none=>[]
def fG (st:St) (a:Act) (ups:List (Nat×LV)):qR:=⟨getAll st (keysOf ups),bR ups,nX a (keysOf ups)⟩
def bU (st:St) (E:Env) (w:World):List UO→List qR
 | []=>[]
 | u :: us=>match kZ u.l with
  | some _=>bU st E w us
  | none=>⟨tK st u,u.l,aaN E w u.i⟩ :: bU st E w us
theorem xW {l:List LV} {o:Ob} (h:kZ l=some o):l=[.ob o]:=by
 unfold kZ at h
 split at h
 ·cases h;rfl
 ·cases h
theorem acH (st:St):∀(l:List Nat) (k:Nat),(getAll st l)[k]?=(l[k]?).map st.get
 | [],k=>by simp[getAll]
 | t :: l,0=>by simp[getAll]
 | t :: l,k+1=>by simp[getAll,acH st l k]
theorem xL (a:Act):∀(l:List Nat) (k:Nat),(nX a l)[k]?=(l[k]?).map fun t=>a.tmps.getD t undef
 | [],k=>by simp[nX]
 | t :: l,0=>by simp[nX]
 | t :: l,k+1=>by simp[nX,xL a l k]
theorem acg (st:St):∀(l:List Nat),(getAll st l).length=l.length
 | []=>rfl
 | t :: l=>by simp[getAll,acg st l]
theorem yh (a:Act):∀(l:List Nat),(nX a l).length=l.length
 | []=>rfl
 | t :: l=>by simp[nX,yh a l]
theorem tT {st:St} {i:Nat} {T:TypeId} {cs:List SV} (h:eY st i T=some cs):st.obj i=some (.cells T cs):=by
 unfold eY at h
 split at h
 ·rename_i T' cs' ho
  split at h
  ·rename_i hb
   cases h;rw[ho,agf hb]
  ·cases h
 ·cases h
theorem adO {st:St} {no:Nat}:∀{uos:List UO},qo st no uos→∀u∈uos,(kZ u.l=none∧∃cs,eY st u.i u.T=some cs∧iZ st no cs u.l)∨∃o,kZ u.l=some o∧pR st u.i o
 | [],_,u,hu=>by simp at hu
 | v :: uos,h,u,hu=>by
  simp only[qo] at h
  rcases ai0.1 hu with rfl | hu
  ·cases ha:kZ u.l with
   | some o=>rw[ha] at h;exact .inr ⟨o,rfl,h.1⟩
   | none=>
    rw[ha] at h
    cases hc:eY st u.i u.T with
    | some cs=>rw[hc] at h;exact .inl ⟨rfl,cs,rfl,h.1⟩
    | none=>rw[hc] at h;exact h.1.elim
  ·exact adO h.2 u hu
theorem uT {st:St} {E:Env} {w:World}:∀{uos:List UO} {g:qR},g∈bU st E w uos→∃u∈uos,kZ u.l=none∧g=⟨tK st u,u.l,aaN E w u.i⟩
 | [],g,h=>by simp[bU] at h
 | v :: us,g,h=>by
  simp only[bU] at h
  cases ha:kZ v.l with
  | some o=>
   rw[ha] at h
   obtain ⟨u,hu,h1⟩:=uT (uos:=us) h
   exact ⟨u,by simp[hu],h1⟩
  | none=>
   rw[ha] at h
   rcases ai0.1 h with rfl | h
   ·exact ⟨v,by simp,ha,rfl⟩
   ·obtain ⟨u,hu,h1⟩:=uT (uos:=us) h
    exact ⟨u,by simp[hu],h1⟩
theorem adx {C:Ctx} {E:Env} {st:St} {w:World} (h:bq C E st w) {u:UO} {cs:List SV} (hc:eY st u.i u.T=some cs) :
  ∃b vs,E.hd u.i=some (.pointer (some ⟨b,0,none⟩))∧w.heap[b]?=some (.cells vs u.T (0,0))∧jG E vs cs∧aaN E w u.i=vs.toList:=by
 obtain ⟨b,vs,h1,h2,h3⟩:=(h.ob _ _ (tT hc)).iR
 exact ⟨b,vs,h1,h2,h3,by simp[aaN,Env.blk,h1,aG,h2]⟩
theorem amA {C:Ctx} {E:Env} {st:St} {a:Act} {w:World} (h:aA C E st a w) {no:Nat} {ups:List (Nat×LV)} {uos:List UO} (h1:iZ st no (getAll st (keysOf ups)) (bR ups)) (h2:qo st no uos) :
  ∀g∈fG st a ups :: bU st E w uos,g.Ok E st no:=by
 intro g hg
 rcases ai0.1 hg with rfl | hg
 ·refine ⟨h1,by simp[fG,yh,acg],fun k v s hv hs=>?_⟩
  simp only[fG,xL,acH] at hv hs
  cases hk:(keysOf ups)[k]? with
  | none=>simp[hk] at hv
  | some t=>simp[hk] at hv hs;subst hv;subst hs;simpa using h.slot t
 ·obtain ⟨u,hu,hna,rfl⟩:=uT hg
  obtain ⟨cs,hc,hm⟩:∃cs,eY st u.i u.T=some cs∧iZ st no cs u.l:=by
   rcases adO h2 u hu with ⟨_,h⟩ | ⟨o,ho,_⟩
   ·exact h
   ·rw[hna] at ho;cases ho
  obtain ⟨b,vs,e1,e2,e3,e4⟩:=adx h.heap hc
  refine ⟨by simp only[tK,hc];exact hm,by simp only[tK,hc,e4];simpa using e3.size,fun k v s hv hs=>?_⟩
  simp only[tK,hc,e4] at hv hs
  exact e3.rep k v s (by simpa using hv) hs
theorem aeW {st:St} {a:Act} {E:Env} {w:World} (ups:List (Nat×LV)) (uos:List UO):(oK (fG st a ups :: bU st E w uos)).filterMap id=allRows st ups uos:=by
 have h2:∀uos:List UO,(oK (bU st E w uos)).filterMap id=iw st uos:=by
  intro uos
  induction uos with
  | nil=>rfl
  | cons u us ih=>
   simp only[bU,iw]
   cases ha:kZ u.l with
   | some o=>
    simp only[ih]
    rw[xW ha]
    cases eY st u.i u.T with
    | some cs=>cases cs with
     | nil=>simp[dz]
     | cons x xs=>cases xs<;>cases x<;>simp[dz]
    | none=>simp
   | none=>
    simp only[oK,List.filterMap_append,mM]
    rw[ih]
    congr 1
    unfold tK
    cases eY st u.i u.T with
    | some cs=>rfl
    | none=>cases u.l<;>simp[dz]
 simp only[oK,List.filterMap_append,mM,h2,allRows,fG]
theorem abR {st:St} {E:Env} {w:World}:∀(n:Nat) (uos:List UO),aaS n uos=n+(jq (bU st E w uos)).length
 | n,[]=>rfl
 | n,u :: us=>by
  simp only[aaS,bU]
  rw[abR (st:=st) (E:=E) (w:=w) (fP n u.l) us,eH]
  cases ha:kZ u.l with
  | some o=>rw[xW ha];simp[bF]
  | none=>simp only[jq,aaf];omega
theorem abY {st:St} {E:Env} {w:World} {no:Nat}:∀(n:Nat) (uos:List UO),(∀u∈uos,u.i<no)→no≤n→∀i,no≤i→look (kr n uos) i=if n≤i then ((jq (bU st E w uos))[i-n]?).map some else none
 | n,[],_,_,i,hi=>by simp[kr,look,bU,jq]
 | n,u :: us,hlt,hn,i,hi=>by
  have hu:=hlt u (by simp)
  simp only[kr,bU]
  cases ha:kZ u.l with
  | some o=>
   simp only[bC,if_neg (show ¬u.i=i by omega)]
   exact abY (st:=st) (E:=E) (w:=w) n us (fun v hv=>hlt v (by simp[hv])) hn i hi
  | none=>
   simp only[bC,if_neg (show ¬u.i=i by omega),jf,gT]
   rw[abY (st:=st) (E:=E) (w:=w) (fP n u.l) us (fun v hv=>hlt v (by simp[hv])) (by rw[eH];omega) i hi,eH]
   simp only[jq]
   by_cases h:n≤i
   ·rw[if_pos h,if_pos h]
    by_cases h2:i-n<(bF u.l).length
    ·rw[afk h2,abn h2];rfl
    ·rw[agH (by omega),asF (by omega),if_pos (by omega),show i-n-(bF u.l).length=i-(n+(bF u.l).length) by omega];rfl
   ·rw[if_neg h,if_neg h,if_neg (by omega)]
theorem tX {no:Nat}:∀(n:Nat) (uos:List UO),no≤n→∀i,i<no→(∀o,look (kr n uos) i=some o→∃u∈uos,u.i=i)∧(i∉dh uos→look (kr n uos) i=none)
 | n,[],_,i,_=>by simp[kr,look]
 | n,u :: us,hn,i,hi=>by
  simp only[kr]
  cases ha:kZ u.l with
  | some ob=>
   obtain ⟨h1,h2⟩:=tX n us hn i hi
   refine ⟨fun o ho=>?_,fun hm=>?_⟩
   ·simp only[bC] at ho
    by_cases e:u.i=i
    ·exact ⟨u,by simp,e⟩
    ·rw[if_neg e] at ho
     obtain ⟨v,hv,he⟩:=h1 o ho
     exact ⟨v,by simp[hv],he⟩
   ·simp only[dh,ai0,not_or] at hm
    simp only[bC]
    rw[if_neg (fun e=>hm.1 e.symm),h2 hm.2]
  | none=>
   obtain ⟨h1,h2⟩:=tX (fP n u.l) us (by rw[eH];omega) i hi
   have hrow:look (rowsOf n u.l) i=none:=by rw[gT,if_neg (by omega)]
   refine ⟨fun o ho=>?_,fun hm=>?_⟩
   ·simp only[bC,jf,hrow] at ho
    by_cases e:u.i=i
    ·exact ⟨u,by simp,e⟩
    ·rw[if_neg e] at ho
     obtain ⟨v,hv,he⟩:=h1 o ho
     exact ⟨v,by simp[hv],he⟩
   ·simp only[dh,ai0,not_or] at hm
    simp only[bC,jf,hrow]
    rw[if_neg (fun e=>hm.1 e.symm),h2 hm.2]
theorem rQ:∀{uos:List UO} {i:Nat},i∈dh uos↔∃u∈uos,u.i=i
 | [],i=>by simp[dh]
 | u :: us,i=>by
  simp only[dh,ai0,rQ (uos:=us)]
  constructor
  ·rintro (rfl | ⟨v,hv,rfl⟩)
   ·exact ⟨u,.inl rfl,rfl⟩
   ·exact ⟨v,.inr hv,rfl⟩
  ·rintro ⟨v,(rfl | hv),rfl⟩
   ·exact .inl rfl
   ·exact .inr ⟨v,hv,rfl⟩
theorem aj5 {st:St} {i:Nat} {o:Ob} (hs:pR st i o) {T:TypeId} {sz n:Nat} {f:Nat→List PV} (h:st.obj i=some (.row T sz n f)):False:=by
 unfold pR at hs
 split at hs
 ·exact hs
 ·exact hs
 ·rw[h] at hs;exact hs
 ·rw[h] at hs;exact hs
theorem ajZ {C:Ctx} {E E2:Env} {st:St} {w:World} (h:bq C E st w) {no0 i:Nat} (hi:i<no0) (hhd:∀i,i<no0→E2.hd i=E.hd i) (hmem:∀b cs,E.mem b=some cs→E2.mem b=some cs) {o:Ob} (hs:pR st i o):cZ E2 w i o∧∃o',st.obj i=some o':=by
 unfold pR at hs
 split at hs
 ·exact hs.elim
 ·exact hs.elim
 ·rename_i T n f
  split at hs
  ·rename_i hob
   obtain ⟨rfl,rfl,hf⟩:=hs
   obtain ⟨b,vs,hh,hw,hs,hvc⟩:=(h.ob _ _ hob).fZ
   exact ⟨cZ.q8 (by rw[hhd i hi];exact hh) hw hs fun q hq=>by
    obtain ⟨u,u1,u2,u3⟩:=hvc q hq
    exact ⟨u,u1,u2,by rw[←hf q hq];exact u3.mono hmem⟩,_,hob⟩
  ·exact hs.elim
 ·rename_i kt n get
  split at hs
  ·rename_i hob
   obtain ⟨rfl,rfl,hf⟩:=hs
   obtain ⟨r,es,clock,hh,hw,h1,h2,h3,h4⟩:=(h.ob _ _ hob).tQ
   have e:=funext hf
   exact ⟨.map r es clock _ _ _ (by rw[hhd i hi];exact hh) hw h1 h2 h3 (by rw[←e];exact h4.mono hmem),_,hob⟩
  ·exact hs.elim
theorem abH {st:St} {E E2:Env} {w:World} {no0:Nat} (hhd:∀i,i<no0→E2.hd i=E.hd i) (hmem:∀b cs,E.mem b=some cs→E2.mem b=some cs) (hbase:E2.tm=E.tm) {C:Ctx} (h:bq C E st w) :
  ∀(n:Nat) (uos:List UO),distinct (dh uos)=true→(∀u∈uos,u.i<no0)→no0≤n→qo st no0 uos →
   (∀p v,(fT (bU st E w uos))[p]?=some v→E2.hd (n+p)=some v)→∀u∈uos,∃o',look (kr n uos) u.i=some (some o')∧cZ E2 w u.i o'∧∃o,st.obj u.i=some o
 | n,[],_,_,_,_,_,u,hu=>by simp at hu
 | n,v :: us,hd,hlt,hn,hM,hvals,u,hu=>by
  simp only[dh,distinct,agw,aoW] at hd
  have hni:v.i∉dh us:=fun hm=>by have:=(eZ _ _).2 hm;rw[hd.1] at this;cases this
  simp only[qo] at hM
  have hne:u∈us→¬v.i=u.i:=fun hu e=>hni (rQ.2 ⟨u,hu,e.symm⟩)
  cases ha:kZ v.l with
  | some o=>
   rw[ha] at hM
   have hv0:fT (bU st E w (v :: us))=fT (bU st E w us):=by simp only[bU,ha]
   rcases ai0.1 hu with rfl | hu
   ·obtain ⟨g1,g2⟩:=ajZ h (hlt u (by simp)) hhd hmem hM.1
    exact ⟨o,by simp[kr,ha,bC],g1,g2⟩
   ·obtain ⟨cs',r1,r2,r3⟩:=abH hhd hmem hbase h n us hd.2 (fun x hx=>hlt x (by simp[hx])) hn hM.2 (fun p x hp=>hvals p x (by rw[hv0];exact hp)) u hu
    exact ⟨cs',by simp only[kr,ha,bC,if_neg (hne hu)];exact r1,r2,r3⟩
  | none=>
   rw[ha] at hM
   cases hc:eY st v.i v.T with
   | none=>rw[hc] at hM;exact hM.1.elim
   | some cs=>
    rw[hc] at hM
    obtain ⟨b,vs,e1,e2,e3,e4⟩:=adx h hc
    obtain ⟨hl,hget⟩:=uO _ _ _ _ hM.1
    have hgrp:Grp E cs vs.toList:=⟨by simpa using e3.size,fun k x s hx hs=>e3.rep k x s (by simpa using hx) hs⟩
    have hv0:fT (bU st E w (v :: us))=bZ v.l vs.toList++fT (bU st E w us):=by simp only[bU,ha,fT,e4]
    have l1:=iy v.l vs.toList (by rw[hgrp.len,hl])
    rcases ai0.1 hu with rfl | hu
    ·refine ⟨.cells u.T (fM n u.l),by simp[kr,ha,bC],?_,_,tT hc⟩
     have hrep:=tF hhd hmem hbase cs u.l vs.toList n hget hl hgrp (fun p x hp=>hvals p x (by rw[hv0,afk (abA.1 hp).1];exact hp))
     exact .cells b u.T vs _ (by rw[hhd _ (hlt u (by simp))];exact e1) e2 (by rw[iH,←hl];exact e3.size) e3.one fun k x s hx hs=>hrep k x s (by simpa using hx) hs
    ·obtain ⟨cs',r1,r2,r3⟩:=abH hhd hmem hbase h (fP n v.l) us hd.2 (fun x hx=>hlt x (by simp[hx])) (by rw[eH];omega) hM.2 (fun p x hp=>by
      rw[eH,atI]
      refine hvals _ x ?_
      rw[hv0,agH (by omega),l1,show (bF v.l).length+p-(bF v.l).length=p by omega];exact hp) u hu
     refine ⟨cs',?_,r2,r3⟩
     have hlo:=hlt u (by simp[hu])
     simp only[kr,ha,bC,if_neg (hne hu),jf,gT,if_neg (show ¬n≤u.i by omega)]
     exact r1
theorem ag4 {ro no:Nat}:∀{l:List Nat},abV ro no l=true→∀i∈l,ro≤i∧i<no
 | [],_,u,hu=>by simp at hu
 | v :: us,h,u,hu=>by
  simp only[abV,agw] at h
  rcases ai0.1 hu with rfl | hu
  ·exact ⟨aiT h.1.1,by simpa [atB] using h.1.2⟩
  ·exact ag4 h.2 u hu
theorem aA.akK {C:Ctx} {E:Env} {st:St} {a:Act} {w:World} (h:aA C E st a w):∀t,nV st.no (st.get t):=fun t=>(h.slot t).lt h.heap.new
theorem bq.ajD {C:Ctx} {E:Env} {st:St} {w:World} (h:bq C E st w):∀i o,st.obj i=some o→i<st.no∧OLt st.no o:=fun i o ho=>⟨h.lt ho,(h.ob i o ho).lt h.new⟩
theorem acT {C:Ctx} {X:bB} (hro:C.ro=X.ro) {st0:St} (hmn:C.kh≤st0.no) (hsl:∀t,nV st0.no (st0.get t)) (hol:∀i o,st0.obj i=some o→i<st0.no∧OLt st0.no o) {st1:St} {E1:Env} {a:Act} {w:World} (h:aA C E1 st1 a w)
  {W G:List Nat} {ups:List (Nat×LV)} {uos:List UO} (hkd:distinct (keysOf ups)=true) (hud:distinct (dh uos)=true) (huo:abV X.ro st0.no (dh uos)=true)
  (hslots:∀t,t∉W→st1.get t=st0.get t) (hobjs:∀i,i<st0.no→i∉dh uos→i∉G→st1.obj i=st0.obj i)
  (hm1:iZ st1 st0.no (getAll st1 (keysOf ups)) (bR ups)) (hm2:qo st1 st0.no uos)
  {c:Option Nat} (hkk:c=st1.k) (hrd:distinct (allRows st1 ups uos)=true) (hrow:∀j,j∈allRows st1 ups uos→C.m≤j∧(j<st0.no→j∈G∧j∉dh uos)) :
  ∃vals,aA C (gJ E1 st0.no vals) (gN st0 W G ups uos c) a w:=by
 have hgs:=amA h hm1 hm2
 obtain ⟨len1,len2,_⟩:=aj7 _ hgs
 have huo':∀u∈uos,X.ro≤u.i∧u.i<st0.no:=fun u hu=>ag4 huo u.i (rQ.2 ⟨u,hu,rfl⟩)
 have hhd:∀i,i<st0.no→(gJ E1 st0.no (fT (fG st1 a ups :: bU st1 E1 w uos))).hd i=E1.hd i:=fun i hi=>by simp[gJ,hi]
 have hrw:(bZ (bR ups) (nX a (keysOf ups))).length=(bF (bR ups)).length:=iy _ _ (by rw[yh,(kU ups).1,(kU ups).2])
 have hvals:∀p v,(fT (fG st1 a ups :: bU st1 E1 w uos))[p]?=some v→(gJ E1 st0.no (fT (fG st1 a ups :: bU st1 E1 w uos))).hd (st0.no+p)=some v:=fun p v hp=>by
  have:¬st0.no+p<st0.no:=by omega
  simp only[gJ,if_neg this,atq];exact hp
 have hvals2:∀p v,(fT (bU st1 E1 w uos))[p]?=some v→(gJ E1 st0.no (fT (fG st1 a ups :: bU st1 E1 w uos))).hd (fP st0.no (bR ups)+p)=some v:=fun p v hp=>by
  rw[eH,atI]
  refine hvals _ v ?_
  simp only[fT,fG]
  rw[agH (by omega),hrw,atq];exact hp
 have hat:=abH (E2:=gJ E1 st0.no (fT (fG st1 a ups :: bU st1 E1 w uos))) hhd (fun _ _ h=>h) rfl h.heap (fP st0.no (bR ups)) uos hud (fun u hu=>(huo' u hu).2) (by rw[eH];omega) hm2 hvals2
 -- the objects of the head
 have lookup:∀i,(gN st0 W G ups uos c).obj i=match look (rowsOf st0.no (bR ups)) i with | some o=>o | none=>match look (kr (fP st0.no (bR ups)) uos) i with | some o=>o | none=>if i∈G then none else st0.obj i:=by
  intro i
  unfold gN St.obj
  simp only[jf,nW]
  cases look (rowsOf st0.no (bR ups)) i with
  | some o=>rfl
  | none=>
   simp only
   cases look (kr (fP st0.no (bR ups)) uos) i with
   | some o=>rfl
   | none=>
    simp only
    by_cases hG:i∈G<;>simp[hG]
 have hlow:∀i,i<st0.no→look (rowsOf st0.no (bR ups)) i=none:=fun i hi=>by rw[gT,if_neg (by omega)]
 refine ⟨fT (fG st1 a ups :: bU st1 E1 w uos),h.size,fun t=>?_,?_,h.marks⟩
 ·-- slots
  have hz:=zx (keysOf ups) (fM st0.no (bR ups)) (by rw[iH,(kU ups).1,(kU ups).2]) hkd t
  have hget:(gN st0 W G ups uos c).get t=match look (vT (keysOf ups) (fM st0.no (bR ups))) t with | some s=>s | none=>if t∈W then .any else st0.get t:=by
   unfold gN St.get
   simp only[jf,jB]
   cases look (vT (keysOf ups) (fM st0.no (bR ups))) t with
   | some s=>rfl
   | none=>by_cases hW:t∈W<;>simp[hW]
  rw[hget]
  by_cases hk:t∈keysOf ups
  ·obtain ⟨k,hk⟩:=asD hk
   rw[hz.1 k hk]
   have hks:k<(fM st0.no (bR ups)).length:=by rw[iH,(kU ups).2,←(kU ups).1];exact (abA.1 hk).1
   rw[abn hks]
   obtain ⟨_,hgrp⟩:=hgs (fG st1 a ups) (by simp)
   obtain ⟨hl,hg⟩:=uO _ _ _ _ hm1
   refine tF hhd (fun _ _ h=>h) rfl (getAll st1 (keysOf ups)) (bR ups) (nX a (keysOf ups)) st0.no hg hl hgrp (fun p v hp=>hvals p v ?_) k _ _ ?_ (abn hks)
   ·simp only[fT,fG]
    rw[afk (abA.1 hp).1];exact hp
   ·rw[xL,hk];rfl
  ·rw[hz.2 hk]
   by_cases hW:t∈W
   ·simp only[hW,if_true];exact .any _
   ·simp only[hW,if_false]
    have:=h.slot t
    rw[hslots t hW] at this
    exact this.move hhd (fun _ _ h=>h) rfl (hsl t)
 ·refine amn h.heap hmn hkk hgs (by rw[aeW];exact hrd) (fun j hj=>?_) (fun i hi=>?_) ?_ (fun i o hi ho=>?_)
  ·rw[aeW] at hj
   obtain ⟨g1,g2⟩:=hrow j hj
   refine ⟨g1,fun hlt=>?_⟩
   obtain ⟨g3,g4⟩:=g2 hlt
   rw[lookup,hlow j hlt,((tX (fP st0.no (bR ups)) uos (by rw[eH];omega) j hlt).2 g4)]
   simp[g3]
  ·rw[lookup,gT,if_pos hi,abY (st:=st1) (E:=E1) (w:=w) (fP st0.no (bR ups)) uos (fun u hu=>(huo' u hu).2) (by rw[eH];omega) i hi,eH]
   simp only[jq,fG]
   have hnone:st0.obj i=none:=by
    cases hs:st0.obj i with
    | none=>rfl
    | some o=>have:=(hol i o hs).1;omega
   by_cases h2:i-st0.no<(bF (bR ups)).length
   ·rw[afk h2,abn h2];rfl
   ·rw[agH (by omega),asF (by omega),if_pos (by omega),show i-st0.no-(bF (bR ups)).length=i-(st0.no+(bF (bR ups)).length) by omega]
    cases (jq (bU st1 E1 w uos))[i-(st0.no+(bF (bR ups)).length)]? with
    | some o=>rfl
    | none=>simp[hnone]
  ·show aaS (fP st0.no (bR ups)) uos=_
   rw[abR (st:=st1) (E:=E1) (w:=w),eH]
   simp only[jq,fG,aaf]
   omega
  ·rw[lookup,hlow i hi] at ho
   simp only at ho
   by_cases hu:i∈dh uos
   ·obtain ⟨u,hu1,rfl⟩:=rQ.1 hu
    obtain ⟨cs,r1,r2,r3⟩:=hat u hu1
    rw[r1] at ho
    simp only[Option.some.injEq] at ho
    subst ho
    exact ⟨r3,.inr r2⟩
   ·rw[(tX (fP st0.no (bR ups)) uos (by rw[eH];omega) i hi).2 hu] at ho
    simp only at ho
    by_cases hG:i∈G
    ·simp[hG] at ho
    ·rw[if_neg hG] at ho
     have hs:=hobjs i hi hu hG
     exact ⟨⟨o,by rw[hs];exact ho⟩,.inl ⟨by rw[hs];exact ho,(hol i o ho).2⟩⟩
theorem rowsIn_row {st:St} {no:Nat}:∀(ss:List SV) (cs:List LV),iZ st no ss cs→∀j∈dz ss cs,∃T sz n f,st.obj j=some (.row T sz n f)
 | [],cs,_,j,hj=>by cases cs<;>simp[dz] at hj
 | s :: ss,[],_,j,hj=>by cases s<;>simp[dz] at hj
 | s :: ss,c :: cs,h,j,hj=>by
  obtain ⟨hl,hg⟩:=uO _ _ _ _ h
  have h0:=hg 0 s c rfl rfl
  have hrest:iZ st no ss cs∨(ss=[]∧cs=[]):=by
   cases ss with
   | nil=>cases cs with
    | nil=>exact .inr ⟨rfl,rfl⟩
    | cons _ _=>simp at hl
   | cons x xs=>cases cs with
    | nil=>simp at hl
    | cons y ys=>simp only[iZ] at h;exact .inl h.2
  have tail:∀j∈dz ss cs,∃T sz n f,st.obj j=some (.row T sz n f):=by
   rcases hrest with h1 | ⟨rfl,rfl⟩
   ·exact rowsIn_row ss cs h1
   ·intro j hj;simp[dz] at hj
  cases c with
  | s c0=>
   have:dz (s :: ss) (.s c0 :: cs)=dz ss cs:=by cases s<;>simp[dz]
   rw[this] at hj;exact tail j hj
  | ob o=>exact h0.elim
  | rw T sz n f=>
   simp only[pO] at h0
   split at h0
   ·rename_i i
    simp only[dz,ai0] at hj
    rcases hj with rfl | hj
    ·split at h0
     ·rename_i ho;exact ⟨_,_,_,_,ho⟩
     ·exact h0.elim
    ·exact tail j hj
   ·simp only[dz] at hj;exact tail j hj
   ·exact h0.elim
  | rws T sz n f=>
   simp only[pO] at h0
   split at h0
   ·rename_i i
    simp only[dz,ai0] at hj
    rcases hj with rfl | hj
    ·split at h0
     ·rename_i ho;exact ⟨_,_,_,_,ho⟩
     ·exact h0.elim
    ·exact tail j hj
   ·simp only[dz] at hj;exact tail j hj
   ·exact h0.elim
  | ps d0=>
   have:dz (s :: ss) (.ps d0 :: cs)=dz ss cs:=by cases s<;>simp[dz]
   rw[this] at hj;exact tail j hj
theorem acf {st:St} {no:Nat}:∀{uos:List UO},qo st no uos→∀j∈iw st uos,∃T sz n f,st.obj j=some (.row T sz n f)
 | [],_,j,hj=>by simp[iw] at hj
 | u :: us,h2,j,hj=>by
  simp only[qo] at h2
  simp only[iw] at hj
  rcases ahN.1 hj with hj | hj
  ·cases hc:eY st u.i u.T with
   | none=>rw[hc] at hj;simp at hj
   | some cs=>
    rw[hc] at hj h2
    cases ha:kZ u.l with
    | none=>rw[ha] at h2;exact rowsIn_row _ _ h2.1 j hj
    | some o=>
     rw[xW ha] at hj
     cases cs with
     | nil=>simp[dz] at hj
     | cons x xs=>cases xs<;>cases x<;>simp[dz] at hj
  ·exact acf h2.2 j hj
theorem ah9 {st:St} {no:Nat} {ups:List (Nat×LV)} {uos:List UO} (h1:iZ st no (getAll st (keysOf ups)) (bR ups)) (h2:qo st no uos):∀j∈allRows st ups uos,∃T sz n f,st.obj j=some (.row T sz n f):=by
 intro j hj
 rcases ahN.1 hj with hj | hj
 ·exact rowsIn_row _ _ h1 j hj
 ·exact acf h2 j hj
theorem adp {st:St} {no:Nat} {ups:List (Nat×LV)} {uos:List UO} (h1:iZ st no (getAll st (keysOf ups)) (bR ups)) (h2:qo st no uos) {j:Nat} (hj:j∈allRows st ups uos):j∉dh uos:=by
 intro hu
 obtain ⟨u,hu1,rfl⟩:=rQ.1 hu
 obtain ⟨T,sz,n,f,hr⟩:=ah9 h1 h2 u.i hj
 rcases adO h2 u hu1 with ⟨_,cs,hc,_⟩ | ⟨o,_,hs⟩
 ·rw[tT hc] at hr;cases hr
 ·exact aj5 hs hr
theorem rM {ro:Nat} {l:List Nat} (h:nD ro l=true) {j:Nat} (hj:j∈l):ro≤j:=by
 obtain ⟨k,hk⟩:=asD hj
 exact oM l h k j hk
theorem vV {α:Type} (no:Nat) (P:List Nat):∀(n:Nat) (l:List (Nat×α)) (t:Nat),aau no P n l=true→t<no→t∉P→look l t=look (dJ n l) t
 | 0,l,t,_,_,_=>rfl
 | n+1,[],t,_,_,_=>rfl
 | n+1,(k,v) :: l,t,h,hlt,ht=>by
  simp only[aau,agw,aqK] at h
  have:¬k=t:=fun e=>by
   subst e
   rcases h.1 with h1 | h1
   ·have:=aiT h1;omega
   ·exact ht ((eZ k P).1 h1)
  rw[bC,if_neg this]
  exact vV no P n l t h.2 hlt ht
theorem anF {st:St} {W G:List Nat} {ups:List (Nat×LV)} {uos:List UO} {c:Option Nat} (hk:∀t∈keysOf ups,t∈W) (hkd:distinct (keysOf ups)=true) {t:Nat} (ht:t∉W):(gN st W G ups uos c).get t=st.get t:=by
 have hz:=(zx (keysOf ups) (fM st.no (bR ups)) (by rw[iH,(kU ups).1,(kU ups).2]) hkd t).2 (fun h=>ht (hk t h))
 unfold gN St.get
 simp only[jf,hz,jB,ht,if_false]
theorem agY {st:St} {W G:List Nat} {ups:List (Nat×LV)} {uos:List UO} {c:Option Nat} {i:Nat} (hi:i<st.no) (hu:i∉dh uos) (hG:i∉G):(gN st W G ups uos c).obj i=st.obj i:=by
 unfold gN St.obj
 simp only[jf,nW,gT,if_neg (show ¬st.no≤i by omega),(tX (fP st.no (bR ups)) uos (by rw[eH];omega) i hi).2 hu,hG,if_false]
theorem akA {C:Ctx} {X:bB} (hro:C.ro=X.ro) (hcm:C.m=X.m) {st:St} {E:Env} {a:Act} {w:World} (h:aA C E st a w) {W:List Nat} {ups:List (Nat×LV)} {uos:List UO} {c:Option Nat} (hcc:c=st.k) (he:alA X st W (allRows st ups uos) ups uos) :
  ∃E2,aA C E2 (gN st W (allRows st ups uos) ups uos c) a w:=by
 obtain ⟨⟨h1,_,h3,h4,h5,h6⟩,h7,h8⟩:=he
 obtain ⟨vals,hh⟩:=acT hro h.heap.mno h.akK h.heap.ajD h h1 h3 h4 (fun _ _=>rfl) (fun _ _ _ _=>rfl) h7 h8 hcc h5 fun j hj=>⟨by rw[hcm];exact rM h6 hj,fun _=>⟨hj,adp h7 h8 hj⟩⟩
 exact ⟨_,hh⟩
theorem akL {C:Ctx} {X:bB} (hro:C.ro=X.ro) (hcm:C.m=X.m) (hrm:C.ro≤C.m) {st:St} {E:Env} {a0:Act} {w0:World} (h0:aA C E st a0 w0) {W G:List Nat} {ups ups':List (Nat×LV)} {uos uos':List UO} {c c':Option Nat} (hk:∀t∈keysOf ups,t∈W)
  (hkk:keysOf ups'=keysOf ups) (huu:dh uos'=dh uos) (hkd:distinct (keysOf ups)=true) (hud:distinct (dh uos)=true) (huo:abV X.ro st.no (dh uos)=true)
  {st1:St} {E1:Env} {a:Act} {w:World} (h:aA C E1 st1 a w) (hcc:c'=st1.k) (ha:alp st (gN st W G ups uos c) st1 W ups' uos'):∃E2,aA C E2 (gN st W G ups' uos' c') a w:=by
 obtain ⟨h1,⟨h3,h4⟩,⟨h5,h6⟩,h7,h8⟩:=ha
 refine (fun ⟨vals,hh⟩=>⟨_,hh⟩:(∃vals,aA C (gJ E1 st.no vals) (gN st W G ups' uos' c') a w)→_) (acT hro h0.heap.mno h0.akK h0.heap.ajD h (by rw[hkk];exact hkd) (by rw[huu];exact hud) (by rw[huu];exact huo) (fun t ht=>?_) (fun i hi hu hG=>?_) h7 h8 hcc h5 fun j hj=>⟨?_,fun hlt=>?_⟩)
 ·rw[←anF (st:=st) (G:=G) (uos:=uos) hk hkd ht]
  unfold St.get
  have e1:=jB W st1.fr t
  have e2:=jB W (gN st W G ups uos c).fr t
  rw[if_neg ht] at e1 e2
  rw[←e1,h1,e2]
 ·rw[huu] at hu h4
  rw[←agY (st:=st) (W:=W) (ups:=ups) hi hu hG]
  unfold St.obj
  rw[vV st.no (dh uos) _ st1.ob i h4 hi hu,h3]
 ·have:=rM h6 hj;have:=h0.heap.mno;have:=h0.heap.mkh;omega
 ·have:=rM h6 hj;omega
def ajI (c:Code):Prop:=∀(C:Ctx) (X:bB) (F:Fence),X.P.follows .mixedOrders=true→X.Tb.Ok X.P→C.nt=X.nt→C.ro=X.ro→CX C X F→C.ro≤C.m→gY F →
 ∀(st:St) (Q:Exit→St→Prop) (E:Env) (a:Act) (w:World),vc c X st Q→aA C E st a w →
  ∀(Qw:Exit→Act→World→Prop),(∀e st' E' a' w',Q e st'→aA C E' st' a' w'→Qw e a' w')→c.wpIn F 9 X.P Qw a w
def zw (C:Ctx) (no:Nat) (k:Option Nat) (E1:Env) (I:Nat→Prop) (W:World):Ctx:=
 { C with kh:=no,hd0:=E1.hd,mem0:=E1.mem,wk:=W,nm:=true,J:=fun k' I1 ws=>k'=k∧I1=(fun b=>E1.mine b∧b<W.heap.size∧¬I b)∧ws=W }
structure Mid (C:Ctx) (E:Env) (no:Nat) (w:World) (l0:List Nat) (st:St) (E1:Env) (I:Nat→Prop) (W:World):Prop where
 heap:bq C E1 st W
 marks:∀D∈l0,W.heap[D]?=some (.deferred (some []))
 knc:iC C.wk W
 le:E.Le E1
 ws:E1.ws=E.ws
 I_:E1.I=E.I
 k:E1.k=E.k
 lo:∀b,I b→w.heap.size≤b
 own:∀i o b,st.obj i=some o→E1.blk i=some b→¬I b
 mem:∀b cs,E1.mem b=some cs→¬I b
 no_:no≤st.no
theorem cZ.eY {E:Env} {w:World} {i:Nat} {o:Ob} (h:cZ E w i o) {b:Nat} (hb:E.blk i=some b):∃ob,w.heap[b]?=some ob∧yu ob=true:=by
 cases h with
 | cells b' T vs cs hh hw _ _ _=>simp[Env.blk,hh,aG] at hb;subst hb;exact ⟨_,hw,rfl⟩
 | row T sz n f v xs u hh hw _ _ _ _=>
  rcases hw.2 with ⟨rfl,_⟩ | ⟨g,cap,cur,rfl,_,hg,_⟩
  ·simp[Env.blk,hh,aG] at hb
  ·simp[Env.blk,hh,aG] at hb;subst hb;exact ⟨_,hg,rfl⟩
 | arr b' T vs n f u hh hw _ _ _=>simp[Env.blk,hh,aG] at hb;subst hb;exact ⟨_,hw,rfl⟩
 | map r es clock kt n get hh hw _ _ _ _=>simp[Env.blk,hh,aG] at hb;subst hb;exact ⟨_,hw,rfl⟩
theorem Mid.ab1 {C:Ctx} {E:Env} {st0:St} {no:Nat} {w:World} {a0:Act} (h0:aA C E st0 a0 w) {l0:List Nat} (hl0:∀D∈l0,D<w.heap.size) {st:St} {E1:Env} {I I':Nat→Prop} {W W':World} (h:Mid C E no w l0 st E1 I W)
  (h1:∀b,I b→I' b) (h2:∀b,I' b→I b∨W.heap.size≤b) (hos:W'.os=W.os) (htape:W'.tape=W.tape) (hout:W'.output=W.output) (hsz:W.heap.size≤W'.heap.size) (hwz:w.heap.size≤W.heap.size)
  (hs:∀b o,W.heap[b]?=some o→¬I b→(b<w.heap.size∨yu o=true)→W'.heap[b]?=some o):Mid C E no w l0 st E1 I' W':=by
 have low:∀b,b<w.heap.size→W'.heap[b]?=W.heap[b]?:=fun b hb=>by
  have hx:=aex (xs:=W.heap) (i:=b) (by omega)
  rw[hx];exact hs b _ hx (fun hi=>by have:=h.lo b hi;omega) (.inl hb)
 have grow:∀b,b<W.heap.size→¬I b→¬I' b:=fun b hb hn hi=>(h2 b hi).elim hn (fun x=>by omega)
 refine ⟨⟨fun i o ho=>(h.heap.ob i o ho).world fun b hb=>?_,h.heap.sep,h.heap.own,fun b cs hb=>?_,h.heap.mem0,h.heap.memnew,h.heap.new,h.heap.base,⟨hos.trans h.heap.fr.os,htape.trans h.heap.fr.tape,hout.trans h.heap.fr.output,h.heap.fr.bsz,aln h.heap.fr.wsz hsz,h.heap.fr.wos,h.heap.fr.isz,fun k hk hI=>?_,h.heap.fr.sync⟩,h.heap.hd0,h.heap.mno,h.heap.mkh,h.heap.kk⟩,
  fun D hD=>?_,fun D o hD ho=>?_,h.le,h.ws,h.I_,h.k,fun b hb=>?_,fun i o b ho hb=>?_,fun b cs hb=>?_,h.no_⟩
 ·obtain ⟨ob,hob,hc⟩:=(h.heap.ob i o ho).eY hb
  rw[hs b ob hob (h.own i o b ho hb) (.inr hc),hob]
 ·obtain ⟨T,fr,hw⟩:=h.heap.mem b cs hb
  exact ⟨T,fr,hs b _ hw (h.mem b cs hb) (.inr rfl)⟩
 ·have:k<w.heap.size:=by rw[h.ws] at hk;exact aov hk h0.heap.fr.wsz
  rw[low k this];exact h.heap.fr.block k hk hI
 ·rw[low D (hl0 D hD)];exact h.marks D hD
 ·have hD2:=h0.marks.1 D o hD ho
  rw[low D (abB.1 hD2).1];exact h.knc D o hD ho
 ·rcases h2 b hb with x | x
  ·exact h.lo b x
  ·omega
 ·exact grow b ((h.heap.ob i o ho).gq hb) (h.own i o b ho hb)
 ·exact grow b (h.heap.lY hb) (h.mem b cs hb)
theorem Mid.into {C:Ctx} {E:Env} {no:Nat} {w:World} {l0:List Nat} {st:St} {E1:Env} {I:Nat→Prop} {W:World} (h:Mid C E no w l0 st E1 I W) (hkno:C.m≤no) {a:Act} (hsz:a.tmps.size=C.nt) (hsl:∀t,aM E1 (a.tmps.getD t undef) (st.get t)) (hd:a.defers=[]) :
  aA (zw C no E.k E1 I W) { E1 with ws:=W,I:=fun b=>E1.mine b∧b<W.heap.size∧¬I b } st a W:=by
 have hle:E1.Le { E1 with ws:=W,I:=fun b=>E1.mine b∧b<W.heap.size∧¬I b }:=⟨fun _ _ h=>h,fun _ _ h=>h,rfl⟩
 refine ⟨hsz,fun t=>(hsl t).mono hle,⟨fun i o ho=>(h.heap.ob i o ho).mono hle,h.heap.sep,fun i o b ho hb=>?_,h.heap.mem,fun _ _ h=>h,fun b cs hb=>.inl hb,h.heap.new,h.heap.base,⟨h.heap.fr.os,h.heap.fr.tape,h.heap.fr.output,aln h.heap.fr.bsz h.heap.fr.wsz,aha _,⟨h.heap.fr.os,h.heap.fr.tape,h.heap.fr.output⟩,fun b hb=>hb.2.1,fun _ _ _=>rfl,h.k,rfl,rfl⟩,fun _ _=>rfl,h.no_,hkno,h.heap.kk⟩,
  fun D o hD _=>hD,[],fun _=>rfl,by simp[hd],atz,by simp⟩
 obtain ⟨g1,g2,g3⟩:=h.heap.own i o b ho hb
 exact ⟨g1,g2,g3.imp_left fun hm=>.inr ⟨hm,(h.heap.ob i o ho).gq hb,h.own i o b ho hb⟩⟩
theorem Mid.aj1 {C:Ctx} {E:Env} {no:Nat} {w:World} {l0:List Nat} {st:St} {E1:Env} {I:Nat→Prop} {W:World} (h:Mid C E no w l0 st E1 I W) (hIs:∀b,I b→b<W.heap.size) (hE:∀i v,E.hd i=some v→i<no) (hkno:C.kh≤no) (hkm:C.m≤C.kh) (hrom:C.ro≤C.m) (hwsz:w.heap.size≤W.heap.size) (hwb:C.base≤w.heap.size) (hlent:∀i b,i<C.m→(C.hd0 i).bind aG=some b→b<C.base)
  {st2:St} {E2:Env} {a2:Act} {W2:World} (h2:aA (zw C no E.k E1 I W) E2 st2 a2 W2) :
  Mid C E no w l0 st2 { E2 with ws:=E.ws,I:=E.I,k:=E.k } I W2∧kC W W2∧gI I E.mem W W2∧(∀t,aM { E2 with ws:=E.ws,I:=E.I,k:=E.k } (a2.tmps.getD t undef) (st2.get t))∧a2.defers=[]∧W.heap.size≤W2.heap.size:=by
 obtain ⟨hk2,hI2,hw2⟩:E2.k=E.k∧E2.I=(fun b=>E1.mine b∧b<W.heap.size∧¬I b)∧E2.ws=W:=h2.heap.fr.sync
 have hle:E2.Le { E2 with ws:=E.ws,I:=E.I,k:=E.k }:=⟨fun _ _ h=>h,fun _ _ h=>h,rfl⟩
 have hsz:W.heap.size≤W2.heap.size:=by have:=h2.heap.fr.wsz;rw[hw2] at this;exact this
 have same:∀b,b<W.heap.size→¬(E1.mine b∧b<W.heap.size∧¬I b)→W2.heap[b]?=W.heap[b]?:=fun b hb hn=>by
  have:=h2.heap.fr.block b (by rw[hw2];exact hb) (by rw[hI2];exact hn)
  rw[hw2] at this;exact this
 have hm1:∀b,E1.mine b↔E.mine b:=fun b=>by unfold Env.mine;rw[h.ws,h.I_]
 have hwsW:E.ws.heap.size≤W.heap.size:=by have:=h.heap.fr.wsz;rw[h.ws] at this;exact this
 -- what is the round's own
 have mine2:∀b,E2.mine b→E.mine b∧¬I b:=fun b hb=>by
  unfold Env.mine at hb
  rw[hw2,hI2] at hb
  rcases hb with hb | ⟨hb,_,hn⟩
  ·exact ⟨.inl (by omega),fun hi=>by have:=hIs b hi;omega⟩
  ·exact ⟨(hm1 b).1 hb,hn⟩
 have hhd:∀k,k<no→E2.hd k=E1.hd k:=fun k hk=>h2.heap.hd0 k hk
 have hnc:iC W W2:=h2.marks.1
 refine ⟨⟨⟨fun i o ho=>(h2.heap.ob i o ho).mono hle,h2.heap.sep,fun i o b ho hb=>?_,h2.heap.mem,fun b cs hb=>h2.heap.mem0 b cs (h.heap.mem0 b cs hb),fun b cs hb=>?_,h2.heap.new,h2.heap.base,⟨h2.heap.fr.os,h2.heap.fr.tape,h2.heap.fr.output,?_,?_,?_,?_,fun k hk hI=>?_,?_⟩,fun k hk=>?_,aln hkno h2.heap.mno,hkm,?_⟩,
  fun D hD=>hnc D _ (h.marks D hD) rfl,fun D o hD ho=>hnc D o (h.knc D o hD ho) ho,⟨fun i v hv=>?_,fun b cs hb=>h2.heap.mem0 b cs (h.le.mem b cs hb),?_⟩,rfl,rfl,rfl,h.lo,fun i o b ho hb=>?_,fun b cs hb=>?_,h2.heap.mno⟩,⟨hsz,hnc⟩,⟨?_,?_,?_,hsz,fun b hb=>?_,fun b cs hb _=>?_⟩,fun t=>(h2.slot t).mono hle,?_,hsz⟩
 ·obtain ⟨g1,g2,g3⟩:=h2.heap.own i o b ho hb
  exact ⟨g1,g2,g3.imp_left fun hm=>(mine2 b hm).1⟩
 ·rcases h2.heap.memnew b cs hb with x | x
  ·exact (h.heap.memnew b cs x).imp_right fun y=>⟨y.1,(hm1 b).1 y.2⟩
  ·exact .inr ⟨x.1,(mine2 b x.2).1⟩
 ·have:=h.heap.fr.bsz;rw[h.ws] at this;exact this
 ·show E.ws.heap.size≤W2.heap.size;omega
 ·have:=h.heap.fr.wos;rw[h.ws] at this;exact this
 ·have:=h.heap.fr.isz;rw[h.ws,h.I_] at this;exact this
 ·have hk':k<E.ws.heap.size:=hk
  have hI':¬E.I k:=hI
  rw[same k (by omega) (fun ⟨x,_⟩=>((hm1 k).1 x).elim (fun y=>by omega) hI')]
  have:=h.heap.fr.block k (by rw[h.ws];exact hk') (by rw[h.I_];exact hI')
  rw[this,h.ws]
 ·have:=h.heap.fr.sync;rw[h.ws,h.I_,h.k] at this;exact this
 ·show E2.hd k=_
  rw[hhd k (by omega)];exact h.heap.hd0 k hk
 ·show E.k=st2.k
  rw[←hk2];exact h2.heap.kk
 ·show E2.hd i=some v
  rw[hhd i (hE i v hv)];exact h.le.hd i v hv
 ·show E2.tm=E.tm
  rw[h2.heap.base];show C.tm=E.tm;rw[←h.le.base,h.heap.base]
 ·obtain ⟨_,g2,g3⟩:=h2.heap.own i o b ho hb
  rcases g3 with g3 | ⟨g3,_⟩
  ·exact (mine2 b g3).2
  ·-- an object that is lent stays the same
   have g4:i<C.m:=g3
   have hi:i<no:=aov g3 (aln hkm hkno)
   have hb':(E2.hd i).bind aG=some b:=hb
   rw[hhd i hi,h.heap.hd0 i (by omega)] at hb'
   have:=hlent i b g4 hb'
   intro hI
   have:=h.lo b hI
   omega
 ·rcases h2.heap.memnew b cs hb with x | x
  ·exact h.mem b cs x
  ·exact (mine2 b x.2).2
 ·exact h2.heap.fr.os.trans h.heap.fr.os.symm
 ·exact h2.heap.fr.tape.trans h.heap.fr.tape.symm
 ·exact h2.heap.fr.output.trans h.heap.fr.output.symm
 ·exact same b (hIs b hb) (fun x=>x.2.2 hb)
 ·exact h2.heap.mem b cs (h2.heap.mem0 b cs (h.le.mem b cs hb))
 ·obtain ⟨_,l,l1,l2,_⟩:=h2.marks
  rw[l2,l1 rfl];rfl
theorem alZ {E:Env} {d:PV} {v:Value} (hv:aO E.mem v d):aO (E.m (afv d)) v d:=by
 cases d with
 | val u=>obtain rfl:=hv.aN;exact .val _
 | agg l=>
  simp only[afv]
  cases ha:gu l with
  | false=>exact hv
  | true=>
   obtain ⟨vs,rfl,hl,h1,he⟩:=hv.jW
   refine .agg vs l hl h1 fun k u s hu hs=>?_
   obtain ⟨w,rfl⟩:=uW ha k s hs
   obtain rfl:=(he k u _ hu hs).aN
   exact .val _
 | _=>exact hv
theorem abh {C:Ctx} {E:Env} {w:World} {X:bB} (hnt:C.nt=X.nt) {K:St→Prop} {G:Act→World→Prop} (hG:∀st' a',K st'→aA C E st' a' w→G a' w):∀(ps:List Nat) (vs:List PV) (us:List Value) (st:St) (a:Act),acS X.nt ps=true→us.length=vs.length→(∀(k:Nat) u s,us[k]?=some u→vs[k]?=some s→aO E.mem u s)→ac7 ps vs st K→aA C E st a w →
  G { a with tmps:=(ps.zip us).foldl (fun t (p,v)=>t.setIfInBounds p v) a.tmps } w
 | [],[],_,st,a,_,hl,_,hk,h=>by cases atJ hl;exact hG st _ hk h
 | [],_ :: _,_,_,_,_,_,_,hk,_=>hk.elim
 | _ :: _,[],_,_,_,_,_,_,hk,_=>hk.elim
 | p :: ps,v :: vs,[],st,a,hp,hl,hv,hk,h=>by simp at hl
 | p :: ps,v :: vs,u :: us,st,a,hp,hl,hv,hk,h=>by
  simp only[acS,agw] at hp
  simp only[ac7,wF] at hk
  have hrep:aM E u (.p (afv v) v):=.p _ _ _ (alZ (hv 0 u v rfl rfl))
  exact abh hnt hG ps vs us _ _ hp.2 (by simpa using hl) (fun k u s hu hs=>hv (k+1) u s (by simpa using hu) (by simpa using hs)) hk (h.adG (t:=some p) (by simpa [bQ,hnt] using hp.1) hrep)
theorem aqb {st:St} {G:List Nat} {uos:List UO} {c:Option Nat} (t:Nat):(gN st [] G [] uos c).get t=st.get t:=by
 unfold gN St.get
 simp[vT,keysOf,jB]
theorem bq.z8 {C:Ctx} {E:Env} {st:St} {w:World} (h:bq C E st w) (f:List (Nat×SV)):bq C E ⟨f,st.ob,st.no,st.k⟩ w:=
 ⟨h.ob,h.sep,h.own,h.mem,h.mem0,h.memnew,h.new,h.base,h.fr,h.hd0,h.mno,h.mkh,h.kk⟩
theorem Mid.z8 {C:Ctx} {E:Env} {no:Nat} {w:World} {l0:List Nat} {st:St} {E1:Env} {I:Nat→Prop} {W:World} (h:Mid C E no w l0 st E1 I W) (f:List (Nat×SV)):Mid C E no w l0 ⟨f,st.ob,st.no,st.k⟩ E1 I W:=
 ⟨h.heap.z8 f,h.marks,h.knc,h.le,h.ws,h.I_,h.k,h.lo,h.own,h.mem,h.no_⟩
theorem aa3 {st st':St} (h:∀i,st.obj i=st'.obj i) (no:Nat) (s:SV) (c:LV):pO st no s c=pO st' no s c:=by
 cases c with
 | s c=>cases c<;>rfl
 | rw T sz n f=>simp only[pO,h]
 | ob o=>rfl
 | rws T sz n f=>simp only[pO,h]
 | ps d=>rfl
theorem ajR {st st':St} (h:∀i,st.obj i=st'.obj i) (i:Nat) (o:Ob):pR st i o=pR st' i o:=by
 unfold pR;rw[h]
theorem agk {st st':St} (h:∀i,st.obj i=st'.obj i) (no:Nat):∀(ss:List SV) (cs:List LV),iZ st no ss cs=iZ st' no ss cs
 | [],[]=>rfl
 | [],_ :: _=>rfl
 | _ :: _,[]=>by simp[iZ]
 | [s],[c]=>by simp only[iZ,aa3 h]
 | [s],c :: d :: cs=>by simp[iZ,aa3 h]
 | s :: t :: ss,[c]=>by simp[iZ,aa3 h]
 | s :: t :: ss,c :: d :: cs=>by
  simp only[iZ,aa3 h]
  rw[agk h no (t :: ss) (d :: cs)]
theorem aiu {st st':St} (h:∀i,st.obj i=st'.obj i) (no:Nat):∀(uos:List UO),qo st no uos=qo st' no uos
 | []=>rfl
 | u :: us=>by
  have e:eY st u.i u.T=eY st' u.i u.T:=by unfold eY;rw[h]
  simp only[qo,e,aiu h no us,agk h no,ajR h]
theorem xI {st st':St} (h:∀i,st.obj i=st'.obj i):∀(uos:List UO),iw st uos=iw st' uos
 | []=>rfl
 | u :: us=>by
  have e:eY st u.i u.T=eY st' u.i u.T:=by unfold eY;rw[h]
  simp only[iw,e,xI h us]
theorem am8 {g : Operand} {ps : Array Tmp} {assign body : Code} (ha : ajI assign) (hb : ajI body) : ajI (.rangeFunc g ps assign body) := by
  intro C X F hm hTb hnt hro hcm hrm hF st Q E a w hk h Qw hn
  simp only [vc, ajp] at hk
  split at hk
  · rename_i fr gf capt hg
    obtain ⟨⟨hrnd, hps⟩, S, ⟨⟨gfn, hgf, hgb, hgn⟩, hS⟩, a0, hcapt, hpre, hlen, L, ⟨hud, huo, hgd, hgm⟩, hm2, hi0, hround, hdone⟩ := hk
    obtain ⟨hFw, hnm⟩ := hcm.f hrnd
    subst hFw
    have hgv := aH h g
    rw [hg] at hgv
    obtain ⟨cvs, hge, hcl, hce⟩ : ∃ cvs, a.eval g = .func (.func gf) #[] cvs ∧ cvs.size = capt.length ∧ ∀ (k : Nat) (u : Value) (s : PV), cvs[k]? = some u → capt[k]? = some s → aO (E.m fr) u s := by
      generalize a.eval g = v at hgv
      cases hgv with
      | p _ _ _ hp => cases hp with
        | fn _ vs _ hl he => exact ⟨vs, rfl, hl, he⟩
    have hseq := hS a0 hpre
    obtain ⟨pl1, pl2⟩ := aaD _ _ hcapt
    have hseq := hseq E.mem cvs (hcl.trans pl1) (fun k u s hu hs => by
      have hk : k < capt.length := by rw [← hcl]; exact (abB.1 hu).1
      have hc := abn hk
      exact abI (pl2 k _ s hc hs) ((hce k u _ hu hc).mono (fun b cs hb => E.eO _ _ _ hb)))
    obtain ⟨hwknc, l0, _, hld, hln, hl0⟩ := h.marks
    have hl0s : ∀ D ∈ l0, D < w.heap.size := fun D hD => (abB.1 (hl0 D hD).2).1
    have hbw : C.base ≤ w.heap.size := aln h.heap.fr.bsz h.heap.fr.wsz
    have hE : ∀ i v, E.hd i = some v → i < st.no := fun i v hv => by
      rcases asE i st.no with x | x
      · exact x
      · rw [h.heap.new i x] at hv; cases hv
    have hkno := h.heap.mno
    have hkm := h.heap.mkh
    obtain ⟨Hd, hHd⟩ : ∃ Hd : L.X → St, Hd = fun x => gN st [] (iw st (L.uo L.x0)) [] (L.uo x) st.k := ⟨_, rfl⟩
    have hslot : ∀ {E1 : Env}, E.Le E1 → ∀ x t, aM E1 (a.tmps.getD t undef) ((Hd x).get t) := by
      intro E1 hle x t
      rw [hHd]
      simp only [aqb]
      exact (h.slot t).mono hle
    have hnoH : ∀ x, st.no ≤ (Hd x).no := fun x => by
      rw [hHd]
      show st.no ≤ aaS (fP st.no []) (L.uo x)
      rw [abR (st := st) (E := E) (w := w), eH]
      omega
    obtain ⟨vals0, hh0⟩ := acT (W := []) (ups := []) (uos := L.uo L.x0) (G := iw st (L.uo L.x0)) (c := st.k) hro h.heap.mno h.akK h.heap.ajD h rfl hud huo (fun _ _ => rfl) (fun _ _ _ _ => rfl) trivial hm2 rfl hgd
      (fun j hj => ⟨by rw [hcm.m]; exact rM hgm hj, fun _ => ⟨hj, adp (ups := []) trivial hm2 hj⟩⟩)
    obtain ⟨X', hX'⟩ : ∃ X' : bB, X' = { X with rnd := true, yl := none } := ⟨_, rfl⟩
    obtain ⟨Qr, hQr⟩ : ∃ Qr : Nat → L.X → Exit → St → Prop, Qr = fun k x e st2 => match e with
          | .normal => ∃ x', dh (L.uo x') = dh (L.uo x) ∧ ak8 st (Hd x) st2 (L.uo x') ∧ L.inv (k + 1) x'
          | .ret => Q .ret ⟨(Hd x).fr, st2.ob, st2.no, st2.k⟩
          | .exit id => Q (.exit id) ⟨(Hd x).fr, st2.ob, st2.no, st2.k⟩
          | _ => False := ⟨_, rfl⟩
    have cxr : ∀ {E1 : Env} {I : Nat → Prop} {W : World} {st1 : St} (l : Nat), Mid C E st.no w l0 st1 E1 I W → CX (zw C st.no E.k E1 I W) X' (Fence.wide.inRound l) := fun {E1 I W st1} l hM => by
      subst hX'
      refine ⟨hcm.m, fun l xs hy => (by cases hy), fun hr => (by cases hr), fun i b hi hb => hcm.lent i b hi ?_, hcm.rm, fun p hp => hM.heap.mem0 _ _ (hcm.gl p hp), hcm.nw⟩
      have hb' : (E1.hd i).bind aG = some b := hb
      have hi' : i < C.m := hi
      rw [hM.heap.hd0 i (by omega)] at hb'
      exact hb'
    have hwide : ∀ l, gY (Fence.wide.inRound l) := fun l => .inr ⟨l, rfl⟩
    refine an1 (xs := S.xs a0) (μ := E.mem) hge (fun args w => mX hgf hgb hgn args w) hseq (fun b cs hb => h.heap.mem b cs hb) (fun x hx => ?_)
      (fun k I W => ∃ E1 x, L.inv k x ∧ dh (L.uo x) = dh (L.uo L.x0) ∧ w.heap.size ≤ W.heap.size ∧ Mid C E st.no w l0 (Hd x) E1 I W)
      (fun c I W => ∃ E1 st1, w.heap.size ≤ W.heap.size ∧ Mid C E st.no w l0 st1 E1 I W ∧ (∀ t, aM E1 (a.tmps.getD t undef) (st1.get t)) ∧ ((c = .ret ∧ Q .ret st1) ∨ ∃ id, c = .exit id ∧ Q (.exit id) st1))
      (fun k I I' W W' hj h1 h2 h2' hos htape hout hsz hs => ?_) (fun c I I' W W' hj h1 h2 h2' hos htape hout hsz hs => ?_)
      ⟨gJ E st.no vals0, L.x0, hi0, rfl, aha _, by rw [hHd]; exact hh0.heap, fun D hD => (hl0 D hD).2, hwknc, ⟨fun i v hv => by simp [gJ, hE i v hv, hv], fun _ _ h => h, rfl⟩, rfl, rfl, rfl, fun _ h => h.elim, fun _ _ _ _ _ h => h.elim, fun _ _ _ h => h.elim, hnoH _⟩
      (fun k xv I a' W => ∃ E1 st1 x, L.inv k x ∧ dh (L.uo x) = dh (L.uo L.x0) ∧ w.heap.size ≤ W.heap.size ∧ Mid C E st.no w l0 st1 E1 I W ∧ a'.tmps.size = C.nt ∧ (∀ t, aM E1 (a'.tmps.getD t undef) (st1.get t)) ∧ a'.defers = [] ∧ vc body X' st1 (Qr k x))
      (fun k xv a' I I' W W' hj h1 h2 h2' hos htape hout hsz hs => ?_) (fun l k vs us I W hx hus hj hI => ?_) (fun l k vs us I a' W hx hus hj hI => ?_) (fun D I W hD hj hdf => ?_) (fun D c I W hD hj hdf => ?_)
    · exact hlen x hx
    · obtain ⟨E1, x, hinv, huu, hwW, hM⟩ := hj
      exact ⟨E1, x, hinv, huu, by omega, hM.ab1 h hl0s h1 h2 hos htape hout hsz hwW hs⟩
    · obtain ⟨E1, st1, hwW, hM, hr⟩ := hj
      exact ⟨E1, st1, by omega, hM.ab1 h hl0s h1 h2 hos htape hout hsz hwW hs, hr⟩
    · obtain ⟨E1, st1, x, hinv, huu, hwW, hM, hr⟩ := hj
      exact ⟨E1, st1, x, hinv, huu, by omega, hM.ab1 h hl0s h1 h2 hos htape hout hsz hwW hs, hr⟩
    · -- the loop's variables
      obtain ⟨E1, x, hinv, huu, hwW, hM⟩ := hj
      · have hr := hround k x vs hinv hx
        rw [sO] at hr
        have hin := hM.into (a := { a with defers := [] }) (by omega) h.size (hslot hM.le x) rfl
        have e : (ps.zip us).foldl (fun (t : Array Value) (p, v) => t.setIfInBounds p v) a.tmps = (ps.toList.zip us.toList).foldl (fun (t : Array Value) (p, v) => t.setIfInBounds p v) a.tmps := by
          rw [← Array.foldl_toList, Array.toList_zip]
        rw [e]
        rw [← hX'] at hr
        have hr' : ac7 ps.toList vs (Hd x) fun hd' => vc assign X' hd' fun e st1 => match e with
            | .normal => vc body X' st1 (Qr k x)
            | _ => False := by rw [hQr, hHd]; exact hr
        refine abh (C := zw C st.no E.k E1 I W) (E := { E1 with ws := W, I := fun b => E1.mine b ∧ b < W.heap.size ∧ ¬ I b }) (X := X) (hG := fun st' a' hk' h' => ?_) (G := fun a' w' => w' = W → assign.wpIn (Fence.wide.inRound l) 9 X.P _ a' w') (by exact hnt) ps.toList vs us.toList (Hd x) { a with defers := [] } hps (by simpa using hus.1) (fun q u s hu hs => (hus.2 q u s (by simpa using hu) hs).mono hM.le.mem) hr' hin rfl
        intro _
        have cxp := cxr l hM
        refine (show X'.P = X.P by rw [hX']) ▸ ha (zw C st.no E.k E1 I W) X' (Fence.wide.inRound l) (by rw [hX']; exact hm) (by rw [hX']; exact hTb) (by rw [hX']; exact hnt) (by rw [hX']; exact hro) cxp hrm (hwide l) st' _ _ a' W hk' h' _ ?_
        intro e st2 E2 a2 W2 hq h2
        cases e with
        | normal =>
          obtain ⟨o1, o2, o3, o4, o5, o6⟩ := hM.aj1 (fun b hb => (hI b hb).2) hE hkno hkm hrm hwW hbw hcm.lent h2
          exact ⟨o2, o3, _, st2, x, hinv, huu, by omega, o1, h2.size, o4, o5, hq⟩
        | _ => exact hq.elim
    · -- the body
      obtain ⟨E1, st1, x, hinv, huu, hwW, hM, hsz, hsl, hdf, hvc⟩ := hj
      have hin := hM.into (by omega) hsz hsl hdf
      have cxp := cxr l hM
      refine (show X'.P = X.P by rw [hX']) ▸ hb (zw C st.no E.k E1 I W) X' (Fence.wide.inRound l) (by rw [hX']; exact hm) (by rw [hX']; exact hTb) (by rw [hX']; exact hnt) (by rw [hX']; exact hro) cxp hrm (hwide l) st1 _ _ a' W hvc hin _ ?_
      intro e st2 E2 a2 W2 hq h2
      have hout := hM.aj1 (fun b hb => (hI b hb).2) hE hkno hkm hrm hwW hbw hcm.lent h2
      rw [hQr] at hq
      cases e with
      | normal =>
        obtain ⟨x', hux, ⟨⟨q1, q2⟩, ⟨q3, q4⟩, q5⟩, hinv'⟩ := hq
        have hle2 : E.Le E2 := ⟨hout.1.le.hd, hout.1.le.mem, hout.1.le.base⟩
        have h2' : aA (zw C st.no E.k E1 I W) E2 ⟨st.fr, st2.ob, st2.no, st2.k⟩ { a with defers := [] } W2 :=
          ⟨h.size, fun t => (h.slot t).mono hle2, h2.heap.z8 _, h2.marks.1, [], fun _ => rfl, rfl, atz, by simp⟩
        have hkk : st.k = st2.k := by
          have h3 : E2.k = E.k := h2.heap.fr.sync.1
          rw [← h2.heap.kk, h3, h.heap.kk]
        obtain ⟨vals, hh⟩ := acT (C := zw C st.no E.k E1 I W) (X := X) (W := []) (ups := []) (uos := L.uo x') (G := iw st (L.uo L.x0)) (c := st.k) hro (aha _) h.akK h.heap.ajD h2' rfl (by rw [hux, huu]; exact hud) (by rw [hux, huu]; exact huo) (fun _ _ => rfl)
          (fun i hi hu hG => by
            have e1 : (Hd x).obj i = st.obj i := by rw [hHd]; exact agY (ups := []) hi (by rw [← hux]; exact hu) hG
            rw [← e1]
            unfold St.obj
            rw [vV st.no (dh (L.uo x')) _ st2.ob i q2 hi hu, q1])
          trivial ((aiu (st := ⟨st.fr, st2.ob, st2.no, st2.k⟩) (st' := st2) (fun _ => rfl) st.no (L.uo x')).mpr q5) hkk ((congrArg distinct (xI (st := ⟨st.fr, st2.ob, st2.no, st2.k⟩) (st' := st2) (fun _ => rfl) (L.uo x'))).trans q3)
          (fun j hj => by
            have hj' : j ∈ iw st2 (L.uo x') := (xI (st := ⟨st.fr, st2.ob, st2.no, st2.k⟩) (st' := st2) (fun _ => rfl) (L.uo x')) ▸ hj
            have := rM q4 hj'
            exact ⟨by show C.m ≤ j; omega, fun hlt => by omega⟩)
        obtain ⟨o1, o2, o3, _, _, o6⟩ := hM.aj1 (fun b hb => (hI b hb).2) hE hkno hkm hrm hwW hbw hcm.lent hh
        exact ⟨o2, o3, _, x', hinv', hux.trans huu, by omega, by rw [hHd]; exact o1⟩
      | ret =>
        obtain ⟨o1, o2, o3, _, _, o6⟩ := hout
        exact ⟨o2, o3, _, ⟨(Hd x).fr, st2.ob, st2.no, st2.k⟩, by omega, o1.z8 _, hslot o1.le x, .inl ⟨rfl, hq⟩⟩
      | exit id =>
        obtain ⟨o1, o2, o3, _, _, o6⟩ := hout
        exact ⟨o2, o3, _, ⟨(Hd x).fr, st2.ob, st2.no, st2.k⟩, by omega, o1.z8 _, hslot o1.le x, .inr ⟨id, rfl, hq⟩⟩
      | _ => exact hq.elim
    all_goals
      have fin : ∀ {E1 : Env} {st1 : St}, Mid C E st.no w l0 st1 E1 I W → (∀ t, aM E1 (a.tmps.getD t undef) (st1.get t)) → aA C E1 st1 { a with defers := { target := .collected D, args := #[] } :: a.defers } W := fun {E1 st1} hM hsl => by
        have hmn : ∀ b, E.mine b → E1.mine b := fun b hb => by unfold Env.mine at *; rw [hM.ws, hM.I_]; exact hb
        refine ⟨h.size, hsl, hM.heap, hM.knc, D :: l0, fun hx => (by rw [hnm] at hx; cases hx), by simp [hld], atZ.2 ⟨fun hx => by have := hl0s D hx; omega, hln⟩, fun D' hD' => ?_⟩
        rcases ai0.1 hD' with rfl | hD'
        · exact ⟨⟨by omega, hmn _ (.inl (aln h.heap.fr.wsz hD))⟩, hdf⟩
        · exact ⟨⟨(hl0 D' hD').1.1, hmn _ (hl0 D' hD').1.2⟩, hM.marks D' hD'⟩
    · obtain ⟨E1, x, hinv, huu, hwW, hM⟩ := hj
      have hq := hdone x hinv
      rw [sO] at hq
      exact hn .normal (Hd x) E1 _ W (by rw [hHd]; exact hq) (fin hM (hslot hM.le x))
    · obtain ⟨E1, st1, hwW, hM, hsl, ⟨rfl, hq⟩ | ⟨id, rfl, hq⟩⟩ := hj
      · exact wpIn_ret (hn _ st1 E1 _ W hq (fin hM hsl))
      · exact wpIn_exit (hn _ st1 E1 _ W hq (fin hM hsl))
  · exact hk.elim
theorem ace (c:Code):ajI c:=by
 induction c with
 | skip=>
  intro C X F hm hTb hnt hro hcm hrm hF st Q E a w hk h Qw hn
  exact wpIn_skip (hn _ st E a w hk h)
 | region id ops draw=>
  intro C X F hm hTb hnt hro hcm hrm hF st Q E a w hk h Qw hn
  cases draw with
  | false=>exact afK hTb hnt hro hcm hF (fun st' E' a' w' hk' h'=>hn _ st' E' a' w' hk' h') hk h
  | true=>
   obtain ⟨ord,ho,hk⟩:=hk
   exact aa6 hm hTb hnt hro hcm hF ho (fun st' E' a' w' hk' h'=>hn _ st' E' a' w' hk' h') hk h
 | seq x y ihx ihy=>
  intro C X F hm hTb hnt hro hcm hrm hF st Q E a w hk h Qw hn
  refine wpIn_seq (ihx C X F hm hTb hnt hro hcm hrm hF st _ E a w hk h _ fun e st' E' a' w' hq h'=>?_)
  cases e with
  | normal=>exact ihy C X F hm hTb hnt hro hcm hrm hF st' Q E' a' w' hq h' Qw hn
  | _=>exact hn _ st' E' a' w' hq h'
 | cond c x y ihx ihy=>
  intro C X F hm hTb hnt hro hcm hrm hF st Q E a w hk h Qw hn
  rw[ap4] at hk
  split at hk
  ·rename_i b t hc
   have hcv:=aH h c
   rw[hc] at hcv
   rcases yj hk with ⟨rfl,hk⟩ | ⟨rfl,hk⟩
   ·exact wpIn_cond_true hcv.aN (ihx C X F hm hTb hnt hro hcm hrm hF st Q E a w hk h Qw hn)
   ·exact wpIn_cond_false hcv.aN (ihy C X F hm hTb hnt hro hcm hrm hF st Q E a w hk h Qw hn)
  ·exact hk.elim
 | block id x ih=>
  intro C X F hm hTb hnt hro hcm hrm hF st Q E a w hk h Qw hn
  refine wpIn_block (ih C X F hm hTb hnt hro hcm hrm hF st _ E a w hk h _ fun e st' E' a' w' hq h'=>?_)
  cases e with
  | exit j=>
   simp only at hq
   cases hb:j.beq id with
   | true=>
    obtain rfl:=agf hb
    rw[hb] at hq
    simp only[Exit.inBlock,if_true]
    exact hn _ st' E' a' w' hq h'
   | false=>
    rw[hb] at hq
    have hne:¬j=id:=fun e=>by subst e;simp at hb
    simp only[Exit.inBlock,if_neg hne]
    exact hn _ st' E' a' w' hq h'
  | _=>exact hn _ st' E' a' w' hq h'
 | loop body ih=>
  intro C X F hm hTb hnt hro hcm hrm hF st Q E a w hk h Qw hn
  obtain ⟨L,hk⟩:=hk
  cases L with
  | unroll n=>
   refine wpIn_loop_rounds n ?_
   simp only at hk
   induction n generalizing st E a w with
   | zero=>exact hk.elim
   | succ n ihn=>
    rw[roundsIn_succ]
    refine ih C X F hm hTb hnt hro hcm hrm hF st _ E a w hk h _ fun e st' E' a' w' hq h'=>?_
    cases e with
    | normal=>exact ihn st' E' a' w' h' hq
    | _=>exact hn _ st' E' a' w' hq h'
  | inv L=>
   obtain ⟨⟨he,hcc⟩,hi,hround⟩:=hk
   obtain ⟨E2,h2⟩:=akA hro hcm.m h hcc.symm he
   obtain ⟨⟨hkd,_,hud,huo,_,_⟩,_,_⟩:=he
   have key:∀(m:Nat) (x:L.X) (E2:Env) (a:Act) (w:World),L.meas x<m→L.inv x→keysOf (L.up x)=keysOf (L.up L.x0)→dh (L.uo x)=dh (L.uo L.x0) →
     aA C E2 (gN st (oP body++keysOf (L.up L.x0)) (allRows st (L.up L.x0) (L.uo L.x0)) (L.up x) (L.uo x) (L.cnt x)) a w→Code.roundsIn F 9 X.P body Qw m a w:=by
    intro m
    induction m with
    | zero=>intro x E2 a w hlt;omega
    | succ m ihm=>
     intro x E2 a w hlt hx hk1 hk2 h2
     rw[roundsIn_succ]
     have hr:=hround x hx
     rw[sO] at hr
     refine ih C X F hm hTb hnt hro hcm hrm hF _ _ E2 a w hr h2 _ fun e st' E' a' w' hq h'=>?_
     cases e with
     | normal=>
      obtain ⟨x',⟨q1,q2⟩,⟨q3,q6⟩,q4,q5⟩:=hq
      obtain ⟨E3,h3⟩:=akL hro hcm.m hrm h (fun t ht=>by rw[hk1] at ht;exact aun _ ht) q1 q2 (by rw[hk1];exact hkd) (by rw[hk2];exact hud) (by rw[hk2];exact huo) h' q6.symm q3
      exact ihm x' E3 a' w' (by omega) q4 (q1.trans hk1) (q2.trans hk2) h3
     | _=>exact hn _ st' E' a' w' hq h'
   exact wpIn_loop_rounds (L.meas L.x0+1) (key _ L.x0 E2 a w (by omega) hi rfl rfl h2)
 | rangeFunc g ps x y ihx ihy=>exact am8 ihx ihy
 | exit id=>
  intro C X F hm hTb hnt hro hcm hrm hF st Q E a w hk h Qw hn
  exact wpIn_exit (hn _ st E a w hk h)
 | scope=>exact fun C X F hm hTb hnt hro hcm hrm hF st Q E a w hk=>hk.elim
 | label=>exact fun C X F hm hTb hnt hro hcm hrm hF st Q E a w hk=>hk.elim
 | goto=>exact fun C X F hm hTb hnt hro hcm hrm hF st Q E a w hk=>hk.elim
 | ret=>
  intro C X F hm hTb hnt hro hcm hrm hF st Q E a w hk h Qw hn
  exact wpIn_ret (hn _ st E a w hk h)
 | refuse=>exact fun C X F hm hTb hnt hro hcm hrm hF st Q E a w hk=>hk.elim
def lD:List (Option (Prop×PV))→Option (Prop×List PV)
 | []=>some (True,[])
 | [some (p,d)]=>some (p,[d])
 | some (p,d) :: l=>match lD l with
  | some (q,ds)=>some (p∧q,d :: ds)
  | none=>none
 | none :: _=>none
def qL (st:St) (m:Nat):Nat→SV→Option (Prop×PV)
 | _,.p b d=>some (wH b d,d)
 | _,.row i=>match st.obj i with
  | some (.row _ _ n f)=>match m.ble i with
   | true=>some (∀k,k<n→gu (f k)=true,.seq n f)
   | false=>none
  | _=>none
 | _,.sub i sz lo n=>match st.obj i with
  | some (.row _ sz' _ f)=>match (m.ble i).and (sz.beq sz') with
   | true=>some (∀k,k<n→gu (f (lo+k))=true,.seq n (fun k=>f (lo+k)))
   | false=>none
  | _=>none
 | n+1,.own i off=>match m.ble i,st.obj i with
  | true,some (.cells _ cs)=>match lD (cs.map (qL st m n)) with
   | some (p,ds)=>some (p,.pt ds off)
   | none=>none
  | true,some (.arr _ m' f)=>some (∀k,k<m'→gu [f k]=true,.pt (dW m' f) off)
  | _,_=>none
 | n+1,.agg l=>match lD (l.map (qL st m n)) with
  | some (p,ds)=>some (p,.agg ds)
  | none=>none
 | n+1,.tup l=>match lD (l.map (qL st m n)) with
  | some (p,ds)=>some (p,.tup ds)
  | none=>none
 | n+1,.fn f l=>match lD (l.map (qL st m n)) with
  | some (p,ds)=>some (p,.fn f ds)
  | none=>none
 | _,_=>none
def res1 (X:bB) (st:St):ResultVar→Option SV
 | .tmp t=>some (st.get t)
 | .cell a T=>match look X.Tb T,st.get a with
  | some ⟨d,size,_,_⟩,.own i off=>match st.obj i with
   | some (.cells _ cs)=>bV d.isAgg size off cs
   | some (.arr _ n f)=>match off,nY size d with
    | 0,some n'=>match n'.beq n with
     | true=>some (.p false (.arr n f))
     | false=>none
    | _,_=>none
   | _=>none
  | _,_=>none
def ad7 (X:bB) (st:St):List ResultVar→Option (List SV)
 | []=>some []
 | r :: l=>match res1 X st r,ad7 X st l with
  | some s,some ss=>some (s :: ss)
  | _,_=>none
def oC (X:bB) (st:St) (rs:List ResultVar):Option SV:=
 match ad7 X st rs with
 | some [s]=>some s
 | some l=>some (.tup l)
 | none=>none
def aaF (st:St) (m:Nat) (s c:SV):Prop:=
 match c with
 | .any=>True
 | .p b d=>match qL st m 3 s with
  | some (p,d')=>(b=true→p)∧ak d' d
  | none=>False
 | .own i off=>match s with
  | .own i' off'=>i'=i∧off'=off∧i.blt m=true
  | _=>False
 | .row i=>match s with
  | .row i'=>i'=i∧i.blt m=true
  | _=>False
 | .mp i=>match s with
  | .mp i'=>i'=i∧i.blt m=true
  | _=>False
 | _=>False
def mP (st:St) (m:Nat):List SV→List SV→Prop
 | [],[]=>True
 | [s],[c]=>aaF st m s c
 | s :: ss,c :: cs=>aaF st m s c∧mP st m ss cs
 | _,_=>False
def wX (st:St) (m:Nat) (i:Nat):Ob→Prop
 | .cells T cs=>match st.obj i with
  | some (.cells T' cs')=>T'=T∧mP st m cs' cs
  | _=>False
 | .row T sz n f=>match st.obj i with
  | some (.row T' sz' n' f')=>T'=T∧sz'=sz∧n'=n∧∀k,k<n→f' k=f k
  | _=>False
 | .arr T n f=>match st.obj i with
  | some (.arr T' n' f')=>T'=T∧n'=n∧∀k,k<n→f' k=f k
  | _=>False
 | .map kt n get=>match st.obj i with
  | some (.map kt' n' get')=>kt'=kt∧n'=n∧∀k,get' k=get k
  | _=>False
def wB (st:St) (m:Nat):Nat→List Ob→Prop
 | _,[]=>True
 | i,[o]=>wX st m i o
 | i,o :: os=>wX st m i o∧wB st m (i+1) os
def aq3 (X:bB) (rs:List ResultVar) (fresh:Bool) (res:PV) (obs:List Ob):Exit→St→Prop:=fun e st=>
 match e with
 | .normal | .ret=>(match oC X st rs with
  | some s=>match qL st X.m 4 s with
   | some (p,d)=>(fresh=true→p)∧ak d res
   | none=>False
  | none=>False)∧wB st X.m X.ro obs
 | _=>False
def qh:Nat→List SV→List (Nat×SV)
 | _,[]=>[]
 | i,s :: l=>(i,s) :: qh (i+1) l
def tO (args:List SV) (obs:List Ob):St:={ fr:=qh 0 args,ob:=rG 0 obs,no:=obs.length,k:=none }
def ata (P:Program) (Tb:Tab) (fn:Func) (S:Spec) (a:S.A):Prop:=
 ((S.args a).length.ble fn.ntmps=true∧S.ro.ble (S.objs a).length=true∧(S.objs' a).length+S.ro=(S.objs a).length) ∧
  match fn.body with
  | some c=>vc c ⟨P,Tb,fn.ntmps,S.ro,(S.objs a).length,false,none,S.inl,S.gl,true⟩ (tO (S.args a) (S.objs a)) (aq3 ⟨P,Tb,fn.ntmps,S.ro,(S.objs a).length,false,none,S.inl,S.gl,true⟩ fn.results.toList S.fresh (S.res a) (S.objs' a))
  | none=>False
noncomputable def eu (E : Env) (st : St) (w : World) (m : Nat) : Env :=
  { hd := fun k => if k < m then E.hd k else none
    mem := fun b => match E.mem b with
      | some cs => some cs
      | none => open Classical in if ∃ j o, m ≤ j ∧ st.obj j = some o ∧ E.blk j = some b then (match w.heap[b]? with | some (.cells cs _ _) => some cs | _ => none) else none
    tm := E.tm, ws := E.ws, I := E.I, k := E.k }
theorem kL {E:Env} {st:St} {w:World} {m b:Nat} {cs:Array Value} (h:E.mem b=some cs):(eu E st w m).mem b=some cs:=by simp[eu,h]
theorem og:∀(l:List (Option (Prop×PV))) (p:Prop) (ds:List PV),lD l=some (p,ds)→l.length=ds.length∧∀(k:Nat) d,ds[k]?=some d→∃q,l[k]?=some (some (q,d))∧(p→q)
 | [],p,ds,h=>by simp[lD] at h;obtain ⟨_,rfl⟩:=h;simp
 | none :: l,p,ds,h=>by simp[lD] at h
 | [some (p0,d0)],p,ds,h=>by
  simp only[lD,Option.some.injEq,Prod.mk.injEq] at h;obtain ⟨rfl,rfl⟩:=h
  refine ⟨rfl,fun k d hd=>?_⟩
  cases k with
  | zero=>simp at hd;subst hd;exact ⟨p0,by simp,id⟩
  | succ k=>simp at hd
 | some (p0,d0) :: y :: l,p,ds,h=>by
  simp only[lD] at h
  cases hr:lD (y :: l) with
  | none=>simp[hr] at h
  | some r=>
   obtain ⟨c,ds'⟩:=r
   simp only[hr,Option.some.injEq,Prod.mk.injEq] at h
   obtain ⟨rfl,rfl⟩:=h
   obtain ⟨h1,h2⟩:=og (y :: l) c ds' hr
   refine ⟨by simpa using h1,fun k d hd=>?_⟩
   cases k with
   | zero=>simp at hd;subst hd;exact ⟨p0,by simp,fun h=>h.1⟩
   | succ k=>
    obtain ⟨q,g1,g2⟩:=h2 k d (by simpa using hd)
    exact ⟨q,by simpa using g1,fun h=>g2 h.2⟩
theorem p9:∀{l:List PV},gu l=true→∀(k:Nat) s,l[k]?=some s→∃v,s=.val v
 | [],_,k,s,h=>by simp at h
 | .val v :: l,ha,k,s,h=>by
  cases k with
  | zero=>simp at h;exact ⟨v,h.symm⟩
  | succ k=>exact p9 (l:=l) ha k s (by simpa using h)
 | .seq _ _ :: l,ha,k,s,h=>by simp[gu] at ha
 | .pt _ _ :: l,ha,k,s,h=>by simp[gu] at ha
 | .agg _ :: l,ha,k,s,h=>by simp[gu] at ha
 | .tup _ :: l,ha,k,s,h=>by simp[gu] at ha
theorem afQ {C:Ctx} {E:Env} {st:St} {w:World} (h:bq C E st w) (htr:∀b,C.base≤b→C.tm b):∀(n:Nat) (s:SV) (p:Prop) (d:PV) (v:Value),qL st C.m n s=some (p,d)→aM E v s→∀b,(b=true→p)→aO ((eu E st w C.m).m b) v d:=by
 have lift:∀(b:Bool) (v:Value) (d:PV),aO (E.m b) v d→aO ((eu E st w C.m).m b) v d:=fun b v d hp=>hp.move (fun _ _ hb=>kL hb) rfl
 -- memory of an object of the call's own
 have fD:∀i o bl cs T fr,C.m≤i→st.obj i=some o→E.blk i=some bl→w.heap[bl]?=some (.cells cs T fr)→∀b,(eu E st w C.m).m b bl=some cs:=by
  intro i o bl cs T fr hi ho hb hw b
  obtain ⟨g1,g2⟩:=h.own i o bl ho hb
  have hmem:(eu E st w C.m).mem bl=some cs:=by
   simp only[eu,g1]
   rw[if_pos ⟨i,o,hi,ho,hb⟩,hw]
  cases b with
  | false=>exact hmem
  | true=>
   simp only[Env.m]
   have:E.tm bl:=by rw[h.base];exact htr bl (g2.1.resolve_right (fun x=>by omega))
   rw[if_pos (show (eu E st w C.m).tm bl from this)];exact hmem
 have base:∀(n:Nat) (s:SV) (p:Prop) (d:PV) (v:Value),(∃b d',s=.p b d'∧p=wH b d'∧d=d')→aM E v s→∀b,(b=true→p)→aO ((eu E st w C.m).m b) v d:=by
  rintro n s p d v ⟨b0,d',rfl,rfl,rfl⟩ hv b hb
  cases hv with
  | p _ _ _ hp=>
   refine lift _ _ _ ?_
   cases b with
   | true=>
    cases b0 with
    | true=>exact hp
    | false=>
     have hb:=hb rfl
     cases d with
     | val u=>have:=hp.aN;subst this;exact .val _
     | agg l=>
      simp only[wH] at hb
      split at hb
      ·rename_i hall
       obtain ⟨vs,rfl,hl,h1,he⟩:=hp.jW
       refine .agg vs l hl h1 fun k u s hu hs=>?_
       obtain ⟨x,rfl⟩:=p9 hall k s hs
       have:=(he k u _ hu hs).aN
       subst this;exact .val _
      ·exact hb.elim
     | arr n f=>exact ae1 hb hp
     | _=>exact hb.elim
   | false=>exact hp.mono fun B cs hB=>E.eO b0 _ _ hB
 have rowc:∀(i:Nat) (T:TypeId) (sz n:Nat) (f:Nat→List PV) (v:Value),C.m≤i→st.obj i=some (.row T sz n f)→aM E v (.row i)→∀b,(b=true→∀k,k<n→gu (f k)=true)→aO ((eu E st w C.m).m b) v (.seq n f):=by
  intro i T sz n f v hi hob hv b hb
  obtain ⟨v0,xs,u,hh,hw,hmax,hl,hc,he⟩:=jL (h.ob _ _ hob)
  cases hv with
  | row _ _ hh2 hsl=>
   rw[hh] at hh2;cases hh2
   rcases hw.2 with ⟨rfl,rfl⟩ | ⟨g,cap,cur,rfl,_,hg,hnc,hcm,hcs,htake⟩
   ·exact .nil _
   ·have hblk:E.blk i=some g:=by simp[Env.blk,hh,aG]
    refine .seq g 0 n cap sz f cur u (fD i _ g cur T _ hi hob hblk hg b) hnc hmax hl (fun j k s hj hs=>?_) (fun j k s hj hs=>?_)
    ·obtain ⟨c1,c2⟩:=hc j k s hj hs
     refine ⟨?_,c2⟩
     rw[aiF,←aeX]
     rw[←htake,alD] at c1
     split at c1
     ·exact c1
     ·cases c1
    ·cases b with
     | false=>exact (he j k s hj hs).mono fun B cs hB=>kL hB
     | true=>
      obtain ⟨x,rfl⟩:=p9 (hb rfl j hj) k s hs
      have:=(he j k _ hj hs).aN
      rw[this];exact .val x
 have subc:∀(i sz lo n m:Nat) (T:TypeId) (f:Nat→List PV) (v:Value),C.m≤i→st.obj i=some (.row T sz m f)→aM E v (.sub i sz lo n)→∀b,(b=true→∀k,k<n→gu (f (lo+k))=true)→aO ((eu E st w C.m).m b) v (.seq n (fun k=>f (lo+k))):=by
  intro i sz lo n m T f v hi hob hv b hb
  cases hv with
  | sub _ _ _ _ bl n' cap c a hh hle hc hr ha=>
   obtain ⟨rfl,cur,u,hR⟩:=(h.ob _ _ hob).jQ hh
   rcases aq0 n with rfl | hn
   ·exact .emp _ _ _
   ·obtain rfl:=ha (by omega)
    have hblk:E.blk i=some bl:=by simp[Env.blk,hh,aG]
    refine .seq bl (lo*sz) n c sz _ cur (fun j k=>u (lo+j) k) (fD i _ bl cur T _ hi hob hblk hR.heap b) hc (by have:=hR.hmax;omega) (fun j hj=>hR.hl _ (by omega)) (fun j k s hj hs=>?_) (fun j k s hj hs=>?_)
    ·have:=hR.hc (lo+j) k s (by omega) hs
     rw[asM,atI] at this
     exact this
    ·cases b with
     | false=>exact (hR.he (lo+j) k s (by omega) hs).mono fun B cs hB=>kL hB
     | true=>
      obtain ⟨x,rfl⟩:=p9 (hb rfl j hj) k s hs
      have:=(hR.he (lo+j) k _ (by omega) hs).aN
      rw[this];exact .val x
 have subd:∀(i sz lo n:Nat) (n0:Nat) (p:Prop) (d:PV) (v:Value),qL st C.m n0 (.sub i sz lo n)=some (p,d)→aM E v (.sub i sz lo n)→∀b,(b=true→p)→aO ((eu E st w C.m).m b) v d:=by
  intro i sz lo n n0 p d v hp hv b hb
  have go:∀(T:TypeId) (sz' m:Nat) (f:Nat→List PV),st.obj i=some (.row T sz' m f)→(C.m.ble i).and (sz.beq sz')=true→p=(∀k,k<n→gu (f (lo+k))=true)→d=.seq n (fun k=>f (lo+k))→∀b,(b=true→p)→aO ((eu E st w C.m).m b) v d:=by
   rintro T sz' m f hob hble rfl rfl
   simp only[agw] at hble
   obtain ⟨hb1,hb2⟩:=hble
   obtain rfl:=agf hb2
   exact subc _ _ _ _ _ _ _ v (aiT hb1) hob hv
  cases n0<;>simp only[qL] at hp
  all_goals
   split at hp
   ·split at hp
    ·rename_i hob _ hble
     cases hp
     exact go _ _ _ _ hob hble rfl rfl b hb
    ·cases hp
   ·cases hp
 intro n
 induction n with
 | zero=>
  intro s p d v hp hv
  cases s<;>simp only[qL] at hp<;>try (cases hp;done)
  ·cases hp;exact base 0 _ _ _ v ⟨_,_,rfl,rfl,rfl⟩ hv
  ·split at hp
   ·split at hp
    ·rename_i hob _ hble
     cases hp
     exact rowc _ _ _ _ _ v (aiT hble) hob hv
    ·cases hp
   ·cases hp
  ·exact subd _ _ _ _ 0 _ _ v hp hv
 | succ n ih=>
  intro s p d v hp hv
  cases s<;>simp only[qL] at hp<;>try (cases hp;done)
  ·cases hp;exact base 0 _ _ _ v ⟨_,_,rfl,rfl,rfl⟩ hv
  ·rename_i i off
   split at hp
   ·rename_i T cs hble hob
    split at hp
    ·rename_i p' ds hall
     cases hp
     intro b hb
     obtain ⟨bl,hh,rfl⟩:=fF hv
     obtain ⟨bl',vs,hh',hw,hA⟩:=(h.ob _ _ hob).iR
     rw[hh] at hh';cases hh'
     obtain ⟨g1,g2⟩:=og _ _ _ hall
     have hlen:ds.length=cs.length:=by rw[←g1];simp
     have hmm:=fD i _ bl vs T _ (aiT hble) hob (by simp[Env.blk,hh,aG]) hw b
     have get:∀(k:Nat) (s:PV),ds[k]?=some s→∃(u:Value) (c:SV) (q:Prop),vs[k]?=some u∧cs[k]?=some c∧qL st C.m n c=some (q,s)∧(p→q):=by
      intro k s hs
      obtain ⟨q,q1,q2⟩:=g2 k s hs
      simp only[ajs] at q1
      cases hc:cs[k]? with
      | none=>simp[hc] at q1
      | some c=>
       simp[hc] at q1
       have hk:k<vs.size:=by rw[hA.size];exact (abA.1 hc).1
       exact ⟨vs[k],c,q,aex hk,rfl,q1,q2⟩
     have e0:(Value.pointer (some ⟨bl,off,none⟩))=.pointer (some ⟨bl,0+off,none⟩):=by rw[aiF]
     rw[e0]
     refine .pt bl 0 off ds vs (fun k=>vs.getD k undef) hmm (fun k s hs=>?_) (fun k s hs=>?_)
     ·obtain ⟨u,c,q,r1,r2,r3,r4⟩:=get k s hs
      rw[aiF,aeC,r1]
      exact ⟨rfl,hA.one _ _ r1⟩
     ·obtain ⟨u,c,q,r1,r2,r3,r4⟩:=get k s hs
      rw[aeC,r1]
      exact ih c q s u r3 (hA.rep _ _ _ r1 r2) b (fun hbb=>r4 (hb hbb))
    ·cases hp
   ·rename_i T m' f hble hob
    cases hp
    intro b hb
    obtain ⟨bl,hh,rfl⟩:=fF hv
    obtain ⟨bl',vs,hh',hw,hs0,hvc⟩:=(h.ob _ _ hob).fZ
    rw[hh] at hh';cases hh'
    have hmm:=fD i _ bl vs T _ (aiT hble) hob (by simp[Env.blk,hh,aG]) hw b
    have e0:(Value.pointer (some ⟨bl,off,none⟩))=.pointer (some ⟨bl,0+off,none⟩):=by rw[aiF]
    rw[e0]
    have lt:∀(k:Nat) (s:PV),(dW m' f)[k]?=some s→k<m'∧s=f k:=fun k s hs=>by
     rw[kV] at hs
     by_cases hk:k<m'
     ·rw[if_pos hk] at hs;exact ⟨hk,(Option.some.inj hs).symm⟩
     ·rw[if_neg hk] at hs;cases hs
    refine .pt bl 0 off _ vs (fun k=>vs.getD k undef) hmm (fun k s hs=>?_) (fun k s hs=>?_)
    ·obtain ⟨hk,rfl⟩:=lt k s hs
     obtain ⟨u,u1,u2,u3⟩:=hvc k hk
     rw[aiF,aeC,u1];exact ⟨rfl,u2⟩
    ·obtain ⟨hk,rfl⟩:=lt k s hs
     obtain ⟨u,u1,u2,u3⟩:=hvc k hk
     rw[aeC,u1]
     cases b with
     | false=>exact u3.mono fun B cs hB=>kL hB
     | true=>
      obtain ⟨x,hx⟩:=p9 (hb rfl k hk) 0 (f k) rfl
      rw[hx] at u3 ⊢
      rw[u3.aN];exact .val x
   ·cases hp
  ·split at hp
   ·split at hp
    ·rename_i hob _ hble
     cases hp
     exact rowc _ _ _ _ _ v (aiT hble) hob hv
    ·cases hp
   ·cases hp
  ·exact subd _ _ _ _ (n+1) _ _ v hp hv
  ·rename_i l
   split at hp
   ·rename_i p' ds hall
    cases hp
    intro b hb
    obtain ⟨g1,g2⟩:=og _ _ _ hall
    cases hv with
    | agg vs _ hl h1 he=>
     refine .agg vs ds (by rw[←g1,hl];simp) h1 fun k u s hu hs=>?_
     obtain ⟨q,q1,q2⟩:=g2 k s hs
     simp only[ajs] at q1
     cases hc:l[k]? with
     | none=>simp[hc] at q1
     | some c=>simp[hc] at q1;exact ih c q s u q1 (he k u c hu hc) b (fun hbb=>q2 (hb hbb))
   ·cases hp
  ·rename_i l
   split at hp
   ·rename_i p' ds hall
    cases hp
    intro b hb
    obtain ⟨g1,g2⟩:=og _ _ _ hall
    cases hv with
    | tup vs _ hl he=>
     refine .tup vs ds (by rw[←g1,hl];simp) fun k u s hu hs=>?_
     obtain ⟨q,q1,q2⟩:=g2 k s hs
     simp only[ajs] at q1
     cases hc:l[k]? with
     | none=>simp[hc] at q1
     | some c=>simp[hc] at q1;exact ih c q s u q1 (he k u c hu hc) b (fun hbb=>q2 (hb hbb))
   ·cases hp
  ·rename_i f l
   split at hp
   ·rename_i p' ds hall
    cases hp
    intro b hb
    obtain ⟨g1,g2⟩:=og _ _ _ hall
    cases hv with
    | fn _ vs _ hl he=>
     refine .fn _ vs ds (by rw[←g1,hl];simp) fun k u s hu hs=>?_
     obtain ⟨q,q1,q2⟩:=g2 k s hs
     simp only[ajs] at q1
     cases hc:l[k]? with
     | none=>simp[hc] at q1
     | some c=>simp[hc] at q1;exact ih c q s u q1 (he k u c hu hc) b (fun hbb=>q2 (hb hbb))
   ·cases hp
def rR (w w1:World):Prop:=∀(b:Nat) (cs:Array Value) (T:TypeId),w.heap[b]?=some (Obj.cells cs T (0,0))→w1.heap[b]?=w.heap[b]?
def wm (a:Act):ResultVar→Sem Value
 | .tmp t=>pure (a.tmps.getD t undef)
 | .cell x t=>do loadVar t (←asAddr (a.tmps.getD x undef))
theorem anu {C:Ctx} {E:Env} {st:St} {a:Act} {w:World} (h:aA C E st a w) {X:bB} (hTb:X.Tb.Ok X.P) {r:ResultVar} {s:SV} (hr:res1 X st r=some s) :
  ∃v,aM E v s∧∀w1:World,rR w w1 →
   (wm a r).run X.P w1=.ok v w1:=by
 cases r with
 | tmp t=>simp only[res1,Option.some.injEq] at hr;subst hr;exact ⟨_,h.slot t,fun w1 _=>rfl⟩
 | cell x T=>
  simp only[res1] at hr
  split at hr
  ·rename_i d size _ _ i off hi hx
   split at hr
   ·rename_i T' cs hob
    have hxv:=h.slot x
    rw[hx] at hxv
    obtain ⟨b,hb,hxe⟩:=fF hxv
    obtain ⟨b',vs,hb',hw,hA⟩:=(h.heap.ob i _ hob).iR
    rw[hb] at hb';cases hb'
    obtain ⟨v,hv,hs⟩:=uL (P:=X.P) (base:=0) (w:=w) (b:=b) (hTb _ _ hi) (cs:=cs) (E:=E) (fun k s hs=>by
     obtain ⟨u,hu,h1,h2⟩:=hA.at k s hs
     exact ⟨u,by simp[World.cell?,hw];exact hu,h1,h2⟩) hr
    refine ⟨v,hs,fun w1 hw1=>?_⟩
    have:=hv w1 (fun k=>by simp[World.cell?,hw1 b _ _ hw])
    rw[aiF] at this
    simp only[wm,hxe,asAddr,Sem.run_bind,Sem.run_pure,Result.andThen_ok,this]
   ·rename_i T' n f hob
    split at hr
    ·rename_i n' hbig
     split at hr
     ·rename_i hnn
      obtain rfl:=agf hnn
      cases hr
      obtain ⟨e,rfl,rfl,hbm⟩:=l8 hbig
      have hxv:=h.slot x
      rw[hx] at hxv
      obtain ⟨b,hb,hxe⟩:=fF hxv
      obtain ⟨b',vs,hb',hw,hs,hvc⟩:=(h.heap.ob i _ hob).fZ
      rw[hb] at hb';cases hb'
      obtain ⟨v,hv,hs⟩:=uL (P:=X.P) (base:=0) (w:=w) (b:=b) (off:=0) (hTb _ _ hi) (cs:=dX false (dW size f)) (E:=E) (fun k s hs=>by
       rw[iK,kV] at hs
       by_cases hk:k<size
       ·rw[if_pos hk] at hs
        simp at hs;subst hs
        obtain ⟨u,h1,h2,h3⟩:=hvc k hk
        exact ⟨u,by simp[World.cell?,hw];exact h1,h2,.p _ _ _ h3⟩
       ·rw[if_neg hk] at hs;simp at hs) (s:=lF (dX false (dW size f))) (by show bV true _ _ _=_;unfold bV;rw[wZ,w9,wS];rfl)
      refine ⟨v,.p false _ _ (abd hs),fun w1 hw1=>?_⟩
      have:=hv w1 (fun k=>by simp[World.cell?,hw1 b _ _ hw])
      rw[aiF] at this
      simp only[wm,hxe,asAddr,Sem.run_bind,Sem.run_pure,Result.andThen_ok,this]
     ·cases hr
    ·cases hr
   ·cases hr
  ·cases hr
theorem ahn {C:Ctx} {E:Env} {st:St} {a:Act} {w:World} (h:aA C E st a w) {X:bB} (hTb:X.Tb.Ok X.P):∀(rs:List ResultVar) (ss:List SV),ad7 X st rs=some ss →
  ∃vs:List Value,vs.length=ss.length∧(∀(k:Nat) u s,vs[k]?=some u→ss[k]?=some s→aM E u s)∧∀w1:World,rR w w1 →
   (rs.mapM (wm a)).run X.P w1=.ok vs w1
 | [],ss,hr=>by simp[ad7] at hr;subst hr;exact ⟨[],rfl,by simp,fun w1 _=>by simp⟩
 | r :: rs,ss,hr=>by
  simp only[ad7] at hr
  split at hr
  ·rename_i s ss' h1 h2
   cases hr
   obtain ⟨v,e1,e2⟩:=anu h hTb h1
   obtain ⟨vs,f1,f2,f3⟩:=ahn h hTb rs ss' h2
   refine ⟨v :: vs,by simp[f1],fun k u s hu hs=>?_,fun w1 hw1=>?_⟩
   ·cases k with
    | zero=>simp at hu hs;subst hu;subst hs;exact e1
    | succ k=>exact f2 k u s (by simpa using hu) (by simpa using hs)
   ·rw[aus]
    simp only[Sem.run_bind,e2 w1 hw1,Result.andThen_ok,f3 w1 hw1,Sem.run_pure]
  ·cases hr
theorem nP {C:Ctx} {E:Env} {st:St} {a:Act} {w:World} (h:aA C E st a w) {X:bB} (hTb:X.Tb.Ok X.P) {fn:Func} {s:SV} (hr:oC X st fn.results.toList=some s) :
  ∃v,aM E v s∧∀w1:World,rR w w1→(results fn a.tmps).run X.P w1=.ok v w1:=by
 unfold oC at hr
 have main:∀ss,ad7 X st fn.results.toList=some ss→∃vs:List Value,vs.length=ss.length∧(∀(k:Nat) u s,vs[k]?=some u→ss[k]?=some s→aM E u s)∧∀w1:World,rR w w1 →
   (results fn a.tmps).run X.P w1=.ok (if hh:vs.toArray.size=1 then vs.toArray[0] else .tuple vs.toArray) w1:=by
  intro ss hss
  obtain ⟨vs,f1,f2,f3⟩:=ahn h hTb _ ss hss
  refine ⟨vs,f1,f2,fun w1 hw1=>?_⟩
  unfold results
  have he:(fun x:ResultVar=>(match x with | .tmp t=>(pure (a.tmps.getD t undef):Sem Value) | .cell x t=>do loadVar t (←asAddr (a.tmps.getD x undef))))=wm a:=by funext r;cases r<;>rfl
  show (do let vs ←fn.results.mapM (fun x:ResultVar=>(match x with | .tmp t=>(pure (a.tmps.getD t undef):Sem Value) | .cell x t=>do loadVar t (←asAddr (a.tmps.getD x undef))));pure (if h:vs.size=1 then vs[0] else .tuple vs):Sem Value).run X.P w1=_
  rw[he,Array.mapM_eq_mapM_toList]
  have:=f3 w1 hw1
  simp only[Sem.run_bind,Sem.run_map,this,Result.andThen_ok,Sem.run_pure]
 split at hr
 ·rename_i s' hs
  cases hr
  obtain ⟨vs,f1,f2,f3⟩:=main _ hs
  match vs,f1 with
  | [v],_=>exact ⟨v,f2 0 v s rfl rfl,fun w1 hw1=>by simpa using f3 w1 hw1⟩
 ·rename_i l hne hs
  cases hr
  obtain ⟨vs,f1,f2,f3⟩:=main _ hs
  have hlen:vs.length≠1:=by
   intro he
   rw[f1] at he
   match l,he with
   | [x],_=>exact hne x rfl
  refine ⟨.tuple vs.toArray,.tup _ _ (by simpa using f1) fun k u s hu hs=>f2 k u s (by simpa using hu) hs,fun w1 hw1=>?_⟩
  have:=f3 w1 hw1
  rw[dif_neg (by simpa using hlen)] at this
  exact this
 ·cases hr
theorem aci {st:St} {m:Nat}:∀(i:Nat) (os:List Ob),wB st m i os→∀(k:Nat) o,os[k]?=some o→wX st m (i+k) o
 | i,[],_,k,o,ho=>by simp at ho
 | i,[x],h,k,o,ho=>by
  cases k with
  | zero=>simp at ho;subst ho;exact h
  | succ k=>simp at ho
 | i,x :: y :: os,h,k,o,ho=>by
  simp only[wB] at h
  cases k with
  | zero=>simp at ho;subst ho;exact h.1
  | succ k=>rw[show i+(k+1)=i+1+k by omega];exact aci (i+1) (y :: os) h.2 k o (by simpa using ho)
theorem y8 {st:St} {m:Nat}:∀(ss cs:List SV),mP st m ss cs→ss.length=cs.length∧∀(k:Nat) s c,ss[k]?=some s→cs[k]?=some c→aaF st m s c
 | [],[],_=>by simp
 | [],_ :: _,h=>by simp[mP] at h
 | _ :: _,[],h=>by simp[mP] at h
 | [x],[y],h=>by
  refine ⟨rfl,fun k a b ha hb=>?_⟩
  cases k with
  | zero=>simp at ha hb;subst ha;subst hb;exact h
  | succ k=>simp at ha
 | [x],y :: z :: ys,h=>by simp[mP] at h
 | x :: z :: xs,[y],h=>by simp[mP] at h
 | x :: x2 :: xs,y :: y2 :: ys,h=>by
  simp only[mP] at h
  obtain ⟨h1,h2⟩:=y8 (x2 :: xs) (y2 :: ys) h.2
  refine ⟨by simpa using h1,fun k a b ha hb=>?_⟩
  cases k with
  | zero=>simp at ha hb;subst ha;subst hb;exact h.1
  | succ k=>simp only[aoz] at ha hb;exact h2 k a b ha hb
theorem anq {w0:World} {E0:Env} {S:Spec} {a0:S.A} (hr1:S.ro≤(S.objs a0).length) (hr2:(S.objs' a0).length+S.ro=(S.objs a0).length)
  (h0:bq (kP w0 E0 (S.objs a0) S.ro) E0 (iI (S.objs a0)) w0) {C:Ctx} (hC:∃nt,C={ kP w0 E0 (S.objs a0) S.ro with nt:=nt }) {E:Env} {st:St} {w:World} (h:bq C E st w) (hobs:wB st C.m S.ro (S.objs' a0))
  {w1:World} (hsc:rR w w1) (hlow:∀k,k<w0.heap.size→w1.heap[k]?=w.heap[k]?) (hos:w1.os=w.os) (htape:w1.tape=w.tape) (hout:w1.output=w.output) (hsz:w1.heap.size=w.heap.size) (hcells:∀(b:Nat) (o:Obj),w.heap[b]?=some o→yu o=true→w1.heap[b]?=w.heap[b]?) :
  bq (kP w0 E0 (S.objs a0) S.ro) (eu E st w C.m) (iI (S.post a0)) w1:=by
 obtain ⟨nt,hC⟩:=hC
 have hm:C.m=(S.objs a0).length:=by rw[hC];rfl
 have hbase:C.base=w0.heap.size:=by rw[hC];rfl
 have hhd0:∀k,k<C.m→E.hd k=E0.hd k:=fun k hk=>by have:=h.hd0 k (aov hk h.mkh);rw[hC] at this;exact this
 have hmem0:∀b cs,E0.mem b=some cs→E.mem b=some cs:=fun b cs hb=>h.mem0 b cs (by rw[hC];exact hb)
 have plen:(S.post a0).length=C.m:=by unfold Spec.post;simp;omega
 have ehd:∀k,k<C.m→(eu E st w C.m).hd k=E0.hd k:=fun k hk=>by simp[eu,hk,hhd0 k hk]
 have eblk:∀k,k<C.m→(eu E st w C.m).blk k=E0.blk k:=fun k hk=>by simp[Env.blk,ehd k hk]
 have objLt:∀k o,(S.post a0)[k]?=some o→k<C.m:=fun k o ho=>by rw[←plen];exact (abA.1 ho).1
 have obj0:∀k,k<C.m→∃o,(iI (S.objs a0)).obj k=some o:=fun k hk=>by rw[dP];exact ⟨_,abn (by omega)⟩
 have wsize:w0.heap.size≤w.heap.size:=by rw[←hbase];exact aln h.fr.bsz h.fr.wsz
 have memSub:∀b cs,E0.mem b=some cs→(eu E st w C.m).mem b=some cs:=fun b cs hb=>kL (hmem0 b cs hb)
 obtain ⟨hEk,hEI,hEw⟩:E.k=none∧E.I=kE E0.hd (S.objs a0) S.ro∧E.ws=w0:=by have:=h.fr.sync;rw[hC] at this;exact this
 obtain ⟨hEk0,hEI0,hEw0⟩:E0.k=none∧E0.I=kE E0.hd (S.objs a0) S.ro∧E0.ws=w0:=h0.fr.sync
 have hmine:∀b,E0.mine b→(eu E st w C.m).mine b:=fun b hb=>by unfold Env.mine at *;rw[hEw0,hEI0] at hb;show E.ws.heap.size≤b∨E.I b;rw[hEw,hEI];exact hb
 have ebase:(eu E st w C.m).tm=E0.tm:=by
  show E.tm=E0.tm
  rw[h.base,h0.base,hC]
 have htr:∀b,C.base≤b→C.tm b:=fun b hb=>by rw[hC] at hb ⊢;exact hb
 refine ⟨fun k o ho=>?_,fun i j o o' b ho ho' hb hb'=>?_,fun i o b ho hb=>?_,fun b cs hb=>?_,fun b cs hb=>memSub b cs hb,fun b cs hb=>?_,fun i hi=>?_,ebase.trans h0.base,⟨?_,?_,?_,?_,?_,by show E.ws.os=w0.os∧E.ws.tape=w0.tape∧E.ws.output=w0.output;rw[hEw];exact ⟨rfl,rfl,rfl⟩,h.fr.isz,fun k hk hbor=>?_,⟨hEk,hEI,hEw⟩⟩,fun k hk=>ehd k (by rw[hm];exact hk),by show (S.objs a0).length≤(S.post a0).length;omega,aha _,hEk⟩
 ·rw[dP] at ho
  have hk:=objLt k o ho
  rw[agN,atP hr1] at ho
  by_cases hkr:k<S.ro
  ·rw[if_pos hkr] at ho
   have h1:=h0.ob k o (by rw[dP];exact ho)
   refine ((h1.move (no:=C.m) (fun i hi=>ehd i hi) memSub ebase hk (h1.lt (fun i hi=>h0.new i (by show (S.objs a0).length≤i;omega))))).world fun b hb=>?_
   have hb0:E0.blk k=some b:=by rw[←eblk k hk];exact hb
   have hlt:=h1.gq hb0
   rw[hlow b hlt]
   have hb2:=h.fr.block b (by rw[hEw];exact hlt) (fun hbor=>by
    rw[hEI] at hbor
    obtain ⟨k',o',g1,g2,g3⟩:=hbor
    have:=h0.sep k k' o o' b (by rw[dP];exact ho) (by rw[dP];exact g2) hb0 g3
    omega)
   rw[hb2,hEw]
  ·rw[if_neg hkr] at ho
   have he:=aci _ _ hobs _ o ho
   rw[show S.ro+(k-S.ro)=k by omega] at he
   cases o with
   | cells T cs=>
    simp only[wX] at he
    split at he
    ·rename_i T' cs' hob
     obtain ⟨rfl,he⟩:=he
     obtain ⟨hl,hg⟩:=y8 _ _ he
     obtain ⟨bl,vs,e1,e2,e3⟩:=(h.ob k _ hob).iR
     refine .cells bl _ vs cs (by rw[ehd k hk,←hhd0 k hk];exact e1) (by rw[hsc bl _ _ e2];exact e2) (by rw[e3.size];exact hl) e3.one fun q u c hu hc=>?_
     have hq:q<cs'.length:=by rw[←e3.size];exact (abB.1 hu).1
     have hs:=abn hq
     have hE:=hg q _ c hs hc
     have hR:=e3.rep q u _ hu hs
     unfold aaF at hE
     split at hE
     ·exact .any _
     ·split at hE
      ·rename_i p d' hp
       exact .p _ _ _ (oV hE.2 (afQ h htr 3 _ _ _ u hp hR _ hE.1))
      ·exact hE.elim
     ·split at hE
      ·rename_i i' off' hs'
       obtain ⟨rfl,rfl,hlt⟩:=hE
       rw[hs'] at hR
       obtain ⟨b2,g1,rfl⟩:=fF hR
       have hlt':i'<C.m:=by simpa [atB] using hlt
       exact .own _ _ b2 (by rw[ehd _ hlt',←hhd0 _ hlt'];exact g1)
      ·exact hE.elim
     ·split at hE
      ·rename_i i' hs'
       obtain ⟨rfl,hlt⟩:=hE
       rw[hs'] at hR
       have hlt':i'<C.m:=by simpa [atB] using hlt
       cases hR with | row _ _ g1 g2=>exact .row _ _ (by rw[ehd _ hlt',←hhd0 _ hlt'];exact g1) g2
      ·exact hE.elim
     ·split at hE
      ·rename_i i' hs'
       obtain ⟨rfl,hlt⟩:=hE
       rw[hs'] at hR
       have hlt':i'<C.m:=by simpa [atB] using hlt
       cases hR with | mp _ r g1=>exact .mp _ r (by rw[ehd _ hlt',←hhd0 _ hlt'];exact g1)
      ·exact hE.elim
     ·exact hE.elim
    ·exact he.elim
   | row T sz n f=>
    simp only[wX] at he
    split at he
    ·rename_i T' sz' n' f' hob
     obtain ⟨rfl,rfl,rfl,he⟩:=he
     obtain ⟨v0,xs,u,hh,hw,hmax,hl,hc,hee⟩:=jL (h.ob _ _ hob)
     refine (cZ.row _ _ _ f v0 xs u (by rw[ehd k hk,←hhd0 k hk];exact hh) hw hmax (fun q hq=>by rw[←he q hq];exact hl q hq) (fun q r s hq hs=>hc q r s hq (by rw[he q hq];exact hs)) (fun q r s hq hs=>(hee q r s hq (by rw[he q hq];exact hs)).mono fun b cs hb=>kL hb):cZ (eu E st w C.m) w k _).world fun b hb=>?_
     rcases hw.2 with ⟨rfl,_⟩ | ⟨g,cap,cur,rfl,_,hg,_⟩
     ·have:(eu E st w C.m).blk k=none:=by simp[Env.blk,ehd k hk,←hhd0 k hk,hh,aG]
      rw[this] at hb;cases hb
     ·have:(eu E st w C.m).blk k=some g:=by simp[Env.blk,ehd k hk,←hhd0 k hk,hh,aG]
      rw[this] at hb;cases hb
      exact hsc _ _ _ hg
    ·exact he.elim
   | arr T n f=>
    simp only[wX] at he
    split at he
    ·rename_i T' n' f' hob
     obtain ⟨rfl,rfl,he⟩:=he
     obtain ⟨b,vs,hh,hw,hs,hvc⟩:=(h.ob _ _ hob).fZ
     exact cZ.q8 (by rw[ehd k hk,←hhd0 k hk];exact hh) (by rw[hsc b _ _ hw];exact hw) hs fun q hq=>by
      obtain ⟨u,u1,u2,u3⟩:=hvc q hq
      exact ⟨u,u1,u2,by rw[←he q hq];exact u3.mono fun b cs hb=>kL hb⟩
    ·exact he.elim
   | map kt n get=>
    simp only[wX] at he
    split at he
    ·rename_i kt' n' get' hob
     obtain ⟨rfl,rfl,he⟩:=he
     obtain ⟨r,es,clock,hh,hw,h1,h2,h3,h4⟩:=(h.ob _ _ hob).tQ
     have e:=funext he
     exact .map r es clock _ _ _ (by rw[ehd k hk,←hhd0 k hk];exact hh) (by rw[hcells r _ hw rfl];exact hw) h1 h2 h3 (by rw[←e];exact h4.mono fun b cs hb=>kL hb)
    ·exact he.elim
 ·rw[dP] at ho ho'
  have hi:=objLt i o ho
  have hj:=objLt j o' ho'
  obtain ⟨o1,h1⟩:=obj0 i hi
  obtain ⟨o2,h2⟩:=obj0 j hj
  rw[eblk i hi] at hb;rw[eblk j hj] at hb'
  exact h0.sep i j o1 o2 b h1 h2 hb hb'
 ·rw[dP] at ho
  have hi:=objLt i o ho
  obtain ⟨o1,h1⟩:=obj0 i hi
  rw[eblk i hi] at hb
  have hlt:=(h0.ob i o1 h1).gq hb
  obtain ⟨g1,g2,g3⟩:=h0.own i o1 b h1 hb
  refine ⟨?_,g2,g3.imp_left (hmine b)⟩
  have hE:E.mem b=none:=by
   cases hm2:E.mem b with
   | none=>rfl
   | some cs=>
    rcases h.memnew b cs hm2 with x | x
    ·rw[hC] at x;have x':E0.mem b=some cs:=x;rw[g1] at x';cases x'
    ·omega
  simp only[eu,hE]
  rw[if_neg]
  rintro ⟨j,oj,hj,hoj,hbj⟩
  have:=(h.own j oj b hoj hbj).2.1
  omega
 ·simp only[eu] at hb
  cases hE:E.mem b with
  | some c=>
   rw[hE] at hb;cases hb
   obtain ⟨T,fr,hw⟩:=h.mem b _ hE
   exact ⟨T,fr,by rw[hcells b _ hw rfl];exact hw⟩
  | none=>
   rw[hE] at hb
   simp only at hb
   split at hb
   ·split at hb
    ·rename_i c T fr hw
     cases hb;exact ⟨T,fr,by rw[hcells b _ hw rfl];exact hw⟩
    ·cases hb
   ·cases hb
 ·simp only[eu] at hb
  cases hE:E.mem b with
  | some c=>
   rw[hE] at hb;cases hb
   rcases h.memnew b _ hE with x | x
   ·rw[hC] at x;exact .inl x
   ·exact .inr (by rw[hbase] at x;exact x)
  | none=>
   rw[hE] at hb
   simp only at hb
   split at hb
   ·rename_i hex
    obtain ⟨j,oj,hj,hoj,hbj⟩:=hex
    obtain ⟨_,g2,g3⟩:=h.own j oj b hoj hbj
    have g2:=g2.resolve_right (fun x=>by omega)
    have g3:=g3.resolve_right (fun x=>by omega)
    exact .inr ⟨by rw[hbase] at g2;exact g2,g3⟩
   ·cases hb
 ·have:¬i<C.m:=by have:(iI (S.post a0)).no=(S.post a0).length:=rfl;omega
  simp[eu,this]
 ·rw[hos,h.fr.os,hC]
 ·rw[htape,h.fr.tape,hC]
 ·rw[hout,h.fr.output,hC]
 ·show w0.heap.size≤E.ws.heap.size;rw[hEw];exact aha _
 ·show E.ws.heap.size≤w1.heap.size;rw[hEw];omega
 ·have hk':k<E.ws.heap.size:=hk
  rw[hEw] at hk'
  have hb':¬E.I k:=hbor
  rw[hlow k hk',h.fr.block k hk hb'];rfl
theorem nC:∀(l:List SV) (i k:Nat),look (qh i l) k=if i≤k then l[k-i]? else none
 | [],i,k=>by simp[qh,look]
 | o :: l,i,k=>by
  simp only[qh,bC,nC l (i+1) k]
  by_cases h:i=k
  ·subst h;simp
  ·rw[if_neg h]
   by_cases h2:i≤k
   ·rw[if_pos h2,if_pos (by omega),show k-i=(k-(i+1))+1 by omega];simp
   ·rw[if_neg h2,if_neg (by omega)]
theorem lC {P:Program} {fn:Func} {tmps:Array Value} {R:Ending→World→Prop}:∀(l:List Nat) (w:World),l.Nodup→(∀D∈l,w.heap[D]?=some (.deferred (some []))) →
  (∀w1:World,w1.os=w.os→w1.tape=w.tape→w1.output=w.output→w1.heap.size=w.heap.size→(∀k,k∉l→w1.heap[k]?=w.heap[k]?)→∃v,(results fn tmps).run P w1=.ok v w1∧R (.returned v) w1) →
  LeavesInM Fence.wide 9 P fn tmps R (l.map fun D=>{ target:=.collected D,args:=#[] }) .returning w
 | [],w,_,_,h=>h w rfl rfl rfl rfl fun _ _=>rfl
 | D :: l,w,hn,hD,h=>by
  simp only[aoM]
  refine ⟨by simp,.inl ⟨D,_,rfl,run_takeDeferred (hD D (by simp)),?_⟩⟩
  have hnd:=atZ.1 hn
  refine lC l _ hnd.2 (fun D' hD'=>?_) fun w1 h1 h2 h3 h4 h5=>h w1 (h1.trans rfl) (h2.trans rfl) (h3.trans rfl) (h4.trans (by simp[World.putObj])) fun k hk=>?_
  ·rw[World.putObj_heap_other (fun e:D'=D=>hnd.1 (e▸hD'))];exact hD D' (by simp[hD'])
  ·simp only[ai0,not_or] at hk
   rw[h5 k hk.2,World.putObj_heap_other hk.1]
theorem aY {P:Program} {Tb:Tab} {f:Nat} {fn:Func} {S:Spec} (hm:P.follows .mixedOrders=true) (hTb:Tb.Ok P) (hf:P.funcs[f]?=some fn) (hnm:(fn.name=="runtime.NumGoroutine")=false) (hb:fn.body.isSome=true)
  (h:∀a,S.pre a→ata P Tb fn S a):aL P f S:=by
 refine ⟨⟨fn,hf,hb,hnm⟩,fun a0 hpre E vs w hgl hh hA=>?_⟩
 obtain ⟨⟨h1,h2,h3⟩,hvc⟩:=h a0 hpre
 cases hbody:fn.body with
 | none=>rw[hbody] at hb;cases hb
 | some c=>
  simp only[hbody] at hvc
  have hro:S.ro≤(S.objs a0).length:=aiT h2
  have hlen:(S.args a0).length≤fn.ntmps:=aiT h1
  obtain ⟨hsz,hrep⟩:=hA
  refine callsIn_wide.1 (callsIn_of_wp_marks (F:=Fence.wide) (n:=9) hf hbody trivial ?_ rfl)
  refine ace c { kP w E (S.objs a0) S.ro with nt:=fn.ntmps } ⟨P,Tb,fn.ntmps,S.ro,(S.objs a0).length,false,none,S.inl,S.gl,true⟩ _ hm hTb rfl rfl ⟨rfl,fun l xs hy=>(by cases hy),fun _=>⟨rfl,rfl⟩,fun i b hi hb=>?_,hro,hgl,fun _ _ hb=>hb⟩ hro (.inl rfl) _ _ E _ w hvc ⟨?_,fun t=>?_,?_,(fun D o hD _=>by simp[kP] at hD),[],fun _=>rfl,rfl,atz,by simp⟩ _ ?_
  ·have hi':i<(S.objs a0).length:=hi
   exact (hh.ob i _ (by rw[dP];exact abn hi')).gq hb
  ·simp;omega
  ·have hget:(tO (S.args a0) (S.objs a0)).get t=match (S.args a0)[t]? with | some s=>s | none=>.any:=by
    unfold tO St.get
    simp only[nC,afc,if_true,atw]
    cases (S.args a0)[t]?<;>rfl
   rw[hget]
   cases hs:(S.args a0)[t]? with
   | none=>exact .any _
   | some s=>
    have ht:t<vs.size:=by rw[hsz];exact (abA.1 hs).1
    have hu:vs[t]?=some vs[t]:=aex ht
    have:(vs++Array.replicate (fn.ntmps-vs.size) undef).getD t undef=vs[t]:=by
     rw[aeC,aoC ht,hu];rfl
    rw[this]
    exact hrep t _ s hu hs
  ·exact ⟨fun i o ho=>hh.ob i o ho,fun i j o o' b ho ho'=>hh.sep i j o o' b ho ho',fun i o b ho hb=>hh.own i o b ho hb,hh.mem,hh.mem0,hh.memnew,fun i hi=>hh.new i hi,hh.base,⟨hh.fr.os,hh.fr.tape,hh.fr.output,hh.fr.bsz,hh.fr.wsz,hh.fr.wos,hh.fr.isz,hh.fr.block,hh.fr.sync⟩,hh.hd0,hh.mno,hh.mkh,hh.kk⟩
  ·intro e st' E' a' w' hq hM
   have main:(match oC ⟨P,Tb,fn.ntmps,S.ro,(S.objs a0).length,false,none,S.inl,S.gl,true⟩ st' fn.results.toList with
     | some s=>match qL st' (S.objs a0).length 4 s with
      | some (p,d)=>(S.fresh=true→p)∧ak d (S.res a0)
      | none=>False
     | none=>False)∧wB st' (S.objs a0).length S.ro (S.objs' a0) →
     LeavesInM Fence.wide 9 P fn a'.tmps (fun e w'=>∃v E',e=.returned v∧aO (E'.m S.fresh) v (S.res a0)∧bq (kP w E (S.objs a0) S.ro) E' (iI (S.post a0)) w') a'.defers .returning w':=by
    rintro ⟨hres,hobs⟩
    split at hres
    ·rename_i s hs
     split at hres
     ·rename_i p d hp
      obtain ⟨v,hv,hrun⟩:=nP hM hTb hs
      obtain ⟨_,l,_,hl1,hl2,hl3⟩:=hM.marks
      rw[hl1]
      refine lC l w' hl2 (fun D hD=>(hl3 D hD).2) fun w1 g1 g2 g3 g4 g5=>?_
      have hnot:∀(b:Nat) (o:Obj),w'.heap[b]?=some o→yu o=true→b∉l:=fun b o hb ho hm=>by rw[(hl3 b hm).2] at hb;cases hb;cases ho
      refine ⟨v,hrun w1 (fun b cs T hb=>g5 b (hnot b _ hb rfl)),v,_,rfl,?_,anq hro h3 hh ⟨fn.ntmps,rfl⟩ hM.heap hobs (fun b cs T hb=>g5 b (hnot b _ hb rfl)) (fun k hk=>g5 k fun hm=>?_) g1 g2 g3 g4 (fun b o hb ho=>g5 b (hnot b _ hb ho))⟩
      ·exact oV hres.2 (afQ hM.heap (fun _ hb=>hb) 4 s p d v hp hv S.fresh hres.1)
      ·have:=(hl3 k hm).1.1
       have this:w.heap.size≤k:=this
       omega
     ·exact hres.elim
    ·exact hres.elim
   cases e with
   | normal=>exact main hq
   | ret=>exact main hq
   | _=>exact hq.elim
def as5 (X:bB) (rs:List ResultVar) (n:Nat):Exit→St→Prop:=fun e st=>
 match e with
 | .normal | .ret=>(match oC X st rs with | some _=>True | none=>False)∧(match st.k with | none=>True | some k=>k=n)
 | _=>False
def amg (inl:List Nat) (P:Program) (Tb:Tab) (fn:Func) (S:oU) (a:S.A):Prop:=
 ((S.capt a).length+1).ble fn.ntmps=true∧∀l:Nat,
  match fn.body with
  | some c=>vc c ⟨P,Tb,fn.ntmps,0,0,false,some (l,S.xs a),inl,[],false⟩ ⟨qh 0 (.p false (.val (.func (.yield l) #[] #[])) :: dX true (S.capt a)),[],0,some 0⟩ (as5 ⟨P,Tb,fn.ntmps,0,0,false,some (l,S.xs a),inl,[],false⟩ fn.results.toList (S.xs a).length)
  | none=>False
def aso (P:Program) (Tb:Tab) (fn:Func) (S:oU) (a:S.A):Prop:=amg [] P Tb fn S a
theorem alm (inl:List Nat) {P:Program} {Tb:Tab} {f:Nat} {fn:Func} {S:oU} (hm:P.follows .mixedOrders=true) (hTb:Tb.Ok P) (hf:P.funcs[f]?=some fn) (hnm:(fn.name=="runtime.NumGoroutine")=false) (hb:fn.body.isSome=true)
  (h:∀a,S.pre a→amg inl P Tb fn S a):adg P f S:=by
 refine ⟨⟨fn,hf,hb,hnm⟩,fun a0 hpre=>?_⟩
 obtain ⟨h1,hvc⟩:=h a0 hpre
 intro μ lb hsz hrep
 intro l J W hstab hy hJ0 hμ
 have hvc:=hvc l
 cases hbody:fn.body with
 | none=>rw[hbody] at hb;cases hb
 | some c=>
  simp only[hbody] at hvc
  have hlen:(S.capt a0).length+1≤fn.ntmps:=aiT h1
  obtain ⟨C,hC⟩:∃C:Ctx,C={ w0:=W,bor:=fun _=>False,mem0:=μ,base:=W.heap.size,nt:=fn.ntmps,hd0:=fun _=>none,m:=0,ro:=0,kh:=0,wk:={ W with heap:=#[] },nm:=false,J:=J,tm:=fun b=>∃cs,μ b=some cs }:=⟨_,rfl⟩
  obtain ⟨E,hE⟩:∃E:Env,E={ hd:=fun _=>none,mem:=μ,tm:=fun b=>∃cs,μ b=some cs,ws:=W,I:=fun _=>False,k:=some 0 }:=⟨_,rfl⟩
  refine callsIn_of_wp_marks (F:=Fence.wide) (n:=9) hf hbody trivial ?_ rfl
  refine ace c C ⟨P,Tb,fn.ntmps,0,0,false,some (l,S.xs a0),inl,[],false⟩ _ hm hTb (by rw[hC]) (by rw[hC]) ⟨by rw[hC],fun l' xs hx=>?_,fun _=>⟨rfl,by rw[hC]⟩,fun i b hi hb=>by rw[hC] at hi;exact absurd hi (alJ _),by rw[hC];exact aha _,fun p hp=>(by cases hp),fun hx=>(by cases hx)⟩ (by rw[hC];exact aha _) (.inl rfl) _ _ E _ W hvc ⟨?_,fun t=>?_,?_,fun D o hD _=>by rw[hC] at hD;simp at hD,[],fun _=>rfl,rfl,atz,by simp⟩ _ ?_
  ·cases hx
   refine ⟨⟨fun k x us I W1 hx hus hJ=>?_,by rw[hC];exact hstab,by rw[hC],by rw[hC];exact fun _ h=>h⟩,rfl⟩
   have:=hy k x us I W1 hx ⟨hus.1,fun q u s hu hs=>(hus.2 q u s hu hs).mono fun b cs hb=>by
    unfold Ctx.adY at hb
    split at hb
    ·rw[hC] at hb;exact hb
    ·cases hb⟩ (by rw[hC] at hJ;exact hJ)
   obtain ⟨fn1,t1,as1,bd1,hy1,hr1⟩:=this
   refine ⟨fn1,t1,as1,bd1,hy1,hr1.mono fun e W' hq=>?_⟩
   rw[hC]
   exact ⟨⟨hq.1,fun i b hi=>absurd hi (alJ _)⟩,hq.2⟩
  ·rw[hC];simp;omega
  ·have hget:St.get ⟨qh 0 (.p false (.val (.func (.yield l) #[] #[])) :: dX true (S.capt a0)),[],0,some 0⟩ t=match (SV.p false (.val (.func (.yield l) #[] #[])) :: dX true (S.capt a0))[t]? with | some s=>s | none=>.any:=by
    unfold St.get
    simp only[nC,afc,if_true,atw]
    cases (SV.p false (.val (.func (.yield l) #[] #[])) :: dX true (S.capt a0))[t]?<;>rfl
   rw[hget]
   cases t with
   | zero=>
    have:(#[Value.func (.yield l) #[] #[]]++lb++Array.replicate (fn.ntmps-(#[Value.func (.yield l) #[] #[]]++lb).size) undef).getD 0 undef=.func (.yield l) #[] #[]:=by
     rw[aeC,aoC (by simp;omega),aoC (by simp)];rfl
    rw[this]
    exact .val _ _
   | succ t=>
    simp only[aoz]
    rw[iK]
    cases hs:(S.capt a0)[t]? with
    | none=>exact .any _
    | some s=>
     have ht:t<lb.size:=by rw[hsz];exact (abA.1 hs).1
     have hu:lb[t]?=some lb[t]:=aex ht
     have:(#[Value.func (.yield l) #[] #[]]++lb++Array.replicate (fn.ntmps-(#[Value.func (.yield l) #[] #[]]++lb).size) undef).getD (t+1) undef=lb[t]:=by
      rw[aeC,aoC (by simp;omega),atp (by simp)]
      simp[hu]
     rw[this]
     refine .p _ _ _ ?_
     have:=hrep t _ s hu hs
     refine this.mono fun b cs hb=>?_
     simp only[Env.m]
     rw[hE]
     exact (if_pos ⟨cs,hb⟩).trans hb
  ·refine ⟨fun i o ho=>?_,fun i j o o' b ho=>?_,fun i o b ho=>?_,fun b cs hb=>?_,fun b cs hb=>?_,fun b cs hb=>?_,fun i _=>by rw[hE],by rw[hE,hC],⟨by rw[hC],by rw[hC],by rw[hC],by rw[hC,hE];exact aha _,by rw[hE];exact aha _,by rw[hE,hC];exact ⟨rfl,rfl,rfl⟩,fun b hb=>by rw[hE] at hb;exact hb.elim,fun k _ _=>by rw[hE],by rw[hE,hC];exact hJ0⟩,fun k hk=>by rw[hC] at hk;exact absurd hk (alJ _),by rw[hC];exact aha _,by rw[hC];exact aha _,by rw[hE]⟩
   ·cases ho
   ·cases ho
   ·cases ho
   ·rw[hE] at hb;exact hμ b cs hb
   ·rw[hC] at hb;rw[hE];exact hb
   ·rw[hE] at hb;rw[hC];exact .inl hb
  ·intro e st' E' a' w' hq hM
   have main:(match oC ⟨P,Tb,fn.ntmps,0,0,false,some (l,S.xs a0),inl,[],false⟩ st' fn.results.toList with | some _=>True | none=>False)∧(match st'.k with | none=>True | some k=>k=(S.xs a0).length) →
     LeavesInM Fence.wide 9 P fn a'.tmps (fun e W'=>(∃v,e=.returned v)∧∃I k,J k I W'∧(k=some (S.xs a0).length∨k=none)) a'.defers .returning w':=by
    rintro ⟨hres,hk⟩
    split at hres
    ·rename_i s hs
     obtain ⟨v,hv,hrun⟩:=nP hM hTb hs
     obtain ⟨_,l,_,hl1,hl2,hl3⟩:=hM.marks
     rw[hl1]
     refine lC l w' hl2 (fun D hD=>(hl3 D hD).2) fun w1 g1 g2 g3 g4 g5=>?_
     have hnot:∀(b:Nat) (cs:Array Value) (T:TypeId) (fr:Nat×Nat),w'.heap[b]?=some (Obj.cells cs T fr)→b∉l:=fun b cs T fr hb hm=>by rw[(hl3 b hm).2] at hb;cases hb
     refine ⟨v,hrun w1 (fun b cs T hb=>g5 b (hnot b _ _ _ hb)),⟨v,rfl⟩,fun b=>E'.I b∨(E'.ws.heap.size≤b∧b<w1.heap.size),E'.k,?_,?_⟩
     ·have hF:=hM.heap.fr
      have hs:=hF.sync
      rw[hC] at hs
      have hwos:=hF.wos
      refine hstab _ _ _ _ _ hs (fun b hb=>.inl hb) (fun b hb=>hb.imp id (fun x=>x.1)) (fun b hb=>hb.elim (fun x=>?_) (fun x=>x.2)) ?_ ?_ ?_ (by rw[g4];exact hF.wsz) (fun b hb hn=>?_)
      ·rw[g4];exact aov (hF.isz b x) hF.wsz
      ·rw[g1,hF.os,hwos.1]
      ·rw[g2,hF.tape,hwos.2.1]
      ·rw[g3,hF.output,hwos.2.2]
      ·rw[g5 b (fun hm=>by
        have:=(hl3 b hm).1.2
        unfold Env.mine at this
        exact this.elim (fun y=>by omega) hn)]
       exact hF.block b hb hn
     ·have hkk:=hM.heap.kk
      rw[hkk]
      split at hk
      ·rename_i e;rw[e];exact .inr rfl
      ·rename_i k e;rw[e,hk];left;simp
    ·exact hres.elim
   cases e with
   | normal=>exact main hq
   | ret=>exact main hq
   | _=>exact hq.elim
theorem ar6 {P:Program} {Tb:Tab} {f:Nat} {fn:Func} {S:oU} (hm:P.follows .mixedOrders=true) (hTb:Tb.Ok P) (hf:P.funcs[f]?=some fn) (hnm:(fn.name=="runtime.NumGoroutine")=false) (hb:fn.body.isSome=true)
  (h:∀a,S.pre a→aso P Tb fn S a):adg P f S:=alm [] hm hTb hf hnm hb h
def vG (P:Program) (t:Nat):Option (Option (List (Nat×Nat)×Bool×Bool)×Bool):=
 (P.underlying t).map fun d=>match d with
  | .struct fs=>(some (oh fs,fs.all (fun f=>f.name != "_"),fs.all (fun f=>(P.info? f.type).isSome)),false)
  | .array _ _=>(none,false)
  | _=>(none,true)
def afi (P:Program) (t:Nat):Option (Option Value×Nat×Nat):=(P.info? t).map fun i=>(i.zero,i.size,i.bytes)
def ak1:Value→Bool
 | .agg _=>false
 | _=>true
theorem TI.mk' {P:Program} {t:Nat} {d:TD} {size bytes:Nat} {z:Value} {zs:List Value} (hd:d.Ok P t) (hi:afi P t=some (some z,size,bytes)) (hz:z.cells.toList=zs)
  (h1:zs.all (fun u=>u.oneCell')=true) (hs:zs.length=size) (hna:d.isAgg=true∨ak1 z=true:=by first | exact .inl rfl | exact .inr rfl):TI.Ok P t ⟨d,size,bytes,zs⟩:=by
 unfold afi at hi
 obtain ⟨I,hI,he⟩:=atx.1 hi
 simp only[Prod.mk.injEq] at he
 refine ⟨hd,⟨I,hI,he.2.1,he.2.2,z,he.1,hz,fun k u hu=>?_,?_⟩,fun hag=>⟨I,z,hI,he.1,?_⟩⟩
 ·have:u∈zs:=by rw[←hz];exact adh (by simpa using hu)
  exact ak7.1 h1 u this
 ·have h:z.cells.size=zs.length:=by rw[←hz];simp
  exact h.trans hs
 ·have hna:=hna.resolve_left (by rw[show d.isAgg=false from hag];simp)
  cases z<;>first | rfl | (simp[ak1] at hna)
theorem TD.av {P:Program} {t:Nat} (h:(vG P t).map (·.2)=some true):TD.other.Ok P t:=by
 unfold vG at h
 cases hu:P.underlying t with
 | none=>rw[hu] at h;cases h
 | some d=>
  rw[hu] at h
  refine ⟨d,hu,fun fs e=>?_,fun n e e'=>?_⟩<;>· subst_vars;cases h
theorem TD.mkStruct {P:Program} {t:Nat} {l:List (Nat×Nat)} (h:(vG P t).map (·.1)=some (some (l,true,true))) (h2:P.stoodInHeld t=false) (h3:P.eqGuardType P.depth t=false):(TD.struct l).Ok P t:=by
 unfold vG at h
 cases hu:P.underlying t with
 | none=>rw[hu] at h;cases h
 | some d=>
  rw[hu] at h
  cases d with
  | struct fs=>
   simp only[aoF,Option.some.injEq,Prod.mk.injEq] at h
   exact ⟨fs,hu,h.1,h2,h.2.1,h3,h.2.2⟩
  | _=>simp at h
theorem Tab.aq1 {P:Program}:Tab.Ok P []:=fun t i h=>by cases h
theorem Tab.aj {P:Program} {k:Nat} {i:TI} {l:Tab} (h:TI.Ok P k i) (hl:Tab.Ok P l):Tab.Ok P ((k,i) :: l):=fun t j hj=>by
 rw[bC] at hj
 split at hj
 ·rename_i e;cases hj;exact e▸h
 ·exact hl t j hj
abbrev U := BitVec 64
theorem uLt (x:U):x.toNat<18446744073709551616:=x.isLt
theorem aoV (x y:U):bits .and .u64 (x.toNat:Int) (y.toNat:Int)=((x &&& y).toNat:Int):=by
 rw[u64_and_nat _ _ (uLt x) (uLt y),BitVec.toNat_and]
theorem atc (x y:U):bits .or .u64 (x.toNat:Int) (y.toNat:Int)=((x ||| y).toNat:Int):=by
 rw[u64_or_nat _ _ (uLt x) (uLt y),BitVec.toNat_or]
theorem ar8 (x y:U):bits .xor .u64 (x.toNat:Int) (y.toNat:Int)=((x ^^^ y).toNat:Int):=by
 rw[u64_xor_nat _ _ (uLt x) (uLt y),BitVec.toNat_xor]
theorem anX (x y:U):bits .andNot .u64 (x.toNat:Int) (y.toNat:Int)=((x &&& ~~~y).toNat:Int):=by
 rw[u64_andNot_nat _ _ (uLt x) (uLt y),BitVec.toNat_and,BitVec.toNat_not]
theorem aoA (x y:U):IntKind.u64.wrap ((x.toNat:Int)+(y.toNat:Int))=((x+y).toNat:Int):=by
 rw[IntKind.wrap_u64,BitVec.toNat_add];omega
theorem aoD (x y:U):IntKind.u64.wrap ((x.toNat:Int)-(y.toNat:Int))=((x-y).toNat:Int):=by
 rw[IntKind.wrap_u64,BitVec.toNat_sub];have:=uLt x;have:=uLt y;omega
theorem aow (x:U) (k:Nat):IntKind.u64.wrap ((x.toNat:Int)*2 ^ (min k IntKind.u64.bits))=((x <<< k).toNat:Int):=by
 have e:((x.toNat:Int)*2 ^ (min k IntKind.u64.bits))=((x.toNat*2 ^ (min k 64):Nat):Int):=by simp[IntKind.bits]
 rw[e,IntKind.wrap_u64,BitVec.toNat_shiftLeft,Nat.shiftLeft_eq]
 rcases asE k 64 with h | h
 ·rw[atP (by omega)];omega
 ·rw[Nat.min_eq_right h]
  obtain ⟨j,rfl⟩:∃j,k=64+j:=⟨k-64,by omega⟩
  have:x.toNat*2 ^ (64+j)=(x.toNat*2 ^ j)*18446744073709551616:=by rw[Nat.pow_add,Nat.mul_comm (2 ^ 64),←Nat.mul_assoc]
  rw[this];omega
theorem asA (x:U) (k:Nat):((x.toNat:Int)).fdiv (2 ^ (min k IntKind.u64.bits))=((x >>> k).toNat:Int):=by
 have e:((2:Int) ^ (min k IntKind.u64.bits))=((2 ^ (min k 64):Nat):Int):=by simp[IntKind.bits]
 rw[e,Int.fdiv_eq_ediv_of_nonneg _ (abq _),←Int.natCast_ediv,BitVec.toNat_ushiftRight,Nat.shiftRight_eq_div_pow]
 rcases asE k 64 with h | h
 ·rw[atP (by omega)]
 ·rw[Nat.min_eq_right h]
  have h1:x.toNat / 2 ^ 64=0:=Nat.div_eq_of_lt x.isLt
  have h2:x.toNat / 2 ^ k=0:=Nat.div_eq_of_lt (aov x.isLt (Nat.pow_le_pow_right (by omega) h))
  rw[h1,h2]
theorem afy {x y:U}:((x.toNat:Int)=(y.toNat:Int))↔x=y:=by
 constructor
 ·intro h;exact BitVec.eq_of_toNat_eq (by omega)
 ·intro h;rw[h]
theorem afC (x y:U):((x.toNat:Int)==(y.toNat:Int))=(x==y):=by
 rw[aqR];simp[afy]
theorem ajT (x y:U):((x.toNat:Int) != (y.toNat:Int))=(x != y):=by
 simp[bne,afC]
theorem atd (x y:U):decide ((x.toNat:Int)<(y.toNat:Int))=decide (x<y):=by
 simp[BitVec.lt_def]
theorem ath (x y:U):decide ((x.toNat:Int)≤(y.toNat:Int))=decide (x≤y):=by
 simp[BitVec.le_def]
theorem jk {n:Int} (h1:-9223372036854775808≤n) (h2:n<9223372036854775808):IntKind.i64.wrap n=n:=by
 simp[IntKind.wrap,IntKind.bits,IntKind.signed];omega
theorem aqv (x:U):((x.toNat:Int)==0)=(x==0#64):=afC x 0#64
theorem aqr (x:U):((x.toNat:Int) != 0)=(x != 0#64):=ajT x 0#64
theorem aqG (x:U):((x.toNat:Int)==1)=(x==1#64):=afC x 1#64
theorem aqo (x:U):((x.toNat:Int) != 1)=(x != 1#64):=ajT x 1#64
theorem arA (x:U):bits .and .u64 (x.toNat:Int) 1=((x &&& 1#64).toNat:Int):=aoV x 1#64
theorem arq (x:U):IntKind.u64.wrap ((x.toNat:Int)+1)=((x+1#64).toNat:Int):=aoA x 1#64
theorem arN (x:U):IntKind.u64.wrap ((x.toNat:Int)-1)=((x-1#64).toNat:Int):=aoD x 1#64
theorem arX (k:Nat):IntKind.u64.wrap (1*2 ^ (min k IntKind.u64.bits))=((1#64 <<< k).toNat:Int):=aow 1#64 k
theorem aoZ (x:U):((x.toNat:Int)=0)=(x=0#64):=propext (afy (x:=x) (y:=0#64))
theorem aqe (x:U):((x.toNat:Int)=1)=(x=1#64):=propext (afy (x:=x) (y:=1#64))
theorem arH (x y:U):((x.toNat:Int)=(y.toNat:Int))=(x=y):=propext afy
theorem ajJ (x:U) (k:Nat):(x >>> k &&& 1#64==1#64)=x.getLsbD k:=by
 rw[aqR,beq_iff_eq]
 constructor
 ·intro h
  have:=congrArg (fun b:U=>b.getLsbD 0) h
  simpa using this
 ·intro h
  apply BitVec.eq_of_getLsbD_eq
  intro i hi
  simp only[BitVec.getLsbD_and,BitVec.getLsbD_ushiftRight,BitVec.getLsbD_one]
  by_cases h0:i=0
  ·subst h0;simp[h]
  ·simp[h0]
theorem ahv (x:U) (k:Nat):(x >>> k &&& 1#64==0#64)=!x.getLsbD k:=by
 rw[aqR,beq_iff_eq]
 constructor
 ·intro h
  have:=congrArg (fun b:U=>b.getLsbD 0) h
  simpa using this
 ·intro h
  apply BitVec.eq_of_getLsbD_eq
  intro i hi
  simp only[BitVec.getLsbD_and,BitVec.getLsbD_ushiftRight,BitVec.getLsbD_one,BitVec.getLsbD_zero]
  by_cases h0:i=0
  ·subst h0;simpa using h
  ·simp[h0]
end Go.Sx
namespace Go.Sx
open Go Go.RowKit
theorem anx {μ:Nat→Option (Array Value)} {v:Value} (h:vOk v=true):aO μ v (aaj v):=by
 cases v with
 | agg cs=>
  refine .agg cs _ (by simp) (fun k u hu=>?_) (fun k u s hu hs=>?_)
  ·exact ak7.1 h u (adh (by simpa using hu))
  ·simp only[ajs,aeX,hu,aoF,Option.some.injEq] at hs
   subst hs;exact .val u
 | _=>exact .val _
theorem bq.below {C:Ctx} {E:Env} {st:St} {w w':World} (h:bq C E st w) (hb:Below w.heap.size w w'):bq C E st w':=by
 refine ⟨fun i o ho=>(h.ob i o ho).world fun b hbk=>hb.block b ((h.ob i o ho).gq hbk),h.sep,h.own,fun b cs hm=>?_,h.mem0,h.memnew,h.new,h.base,⟨hb.os.trans h.fr.os,hb.tape.trans h.fr.tape,hb.output.trans h.fr.output,h.fr.bsz,aln h.fr.wsz hb.size,h.fr.wos,h.fr.isz,fun k hk hI=>?_,h.fr.sync⟩,h.hd0,h.mno,h.mkh,h.kk⟩
 ·obtain ⟨T,fr,hw⟩:=h.mem b cs hm
  exact ⟨T,fr,(hb.block b (abB.1 hw).1).trans hw⟩
 ·rw[hb.block k (aov hk h.fr.wsz)];exact h.fr.block k hk hI
theorem amP {gl:List (Nat×Array Value)} {P:Program} {f:Nat} {fn:Func} (hf:P.funcs[f]?=some fn) (hb:fn.body.isSome=true) (hnm:(fn.name=="runtime.NumGoroutine")=false) {α:Type} {vals:α→List Value} {pre:α→Prop} {ret:α→Value} {pv:α→PV}
  (hv:∀a,pre a→∀μ,aO μ (ret a) (pv a)) (h:∀a,pre a→∀w:World,(∀p∈gl,∃T fr,w.heap[p.1]?=some (.cells p.2 T fr))→Calls P f (vals a).toArray w fun e w'=>e=.returned (ret a)∧Below w.heap.size w w') :
  aL P f { A:=α,args:=fun a=>(vals a).map fun v=>.p false (aaj v),objs:=fun _=>[],pre:=pre,res:=pv,objs':=fun _=>[],fresh:=true,ro:=0,gl:=gl }:=by
 refine ⟨⟨fn,hf,hb,hnm⟩,fun a hpre E vs w hgl hh hA=>?_⟩
 have hvs:vs=(vals a).toArray:=by
  obtain ⟨h1,h2⟩:=hA
  have h1:vs.size=(vals a).length:=h1.trans (by simp)
  apply atY
  intro k
  rcases asE k vs.size with hk | hk
  ·have hk2:k<(vals a).length:=by omega
   have hs:=h2 k vs[k] (.p false (aaj (vals a)[k])) (aex hk) (by show (List.map _ (vals a))[k]?=_;rw[ajs,abn hk2];rfl)
   rw[aex hk]
   have hp:∀{u:Value} {d:PV},aM E u (.p false d)→aO (E.m false) u d:=fun hx=>by cases hx with | p _ _ _ hp=>exact hp
   rw[anS (hp hs)];simp[hk2]
  ·rw[aoB hk]
   have:(vals a).length≤k:=by omega
   simp[this]
 subst hvs
 exact (h a hpre w fun p hp=>hh.mem _ _ (hgl p hp)).mono fun e w' ⟨he,hw⟩=>⟨ret a,E,he,hv a hpre _,hh.below hw⟩
theorem aiW {gl:List (Nat×Array Value)} {P:Program} {f:Nat} {fn:Func} (hf:P.funcs[f]?=some fn) (hb:fn.body.isSome=true) (hnm:(fn.name=="runtime.NumGoroutine")=false) {α:Type} {vals:α→List Value} {pre:α→Prop} {ret:α→Value}
  (hv:∀a,pre a→vOk (ret a)=true) (h:∀a,pre a→∀w:World,(∀p∈gl,∃T fr,w.heap[p.1]?=some (.cells p.2 T fr))→Calls P f (vals a).toArray w fun e w'=>e=.returned (ret a)∧Below w.heap.size w w') :
  aL P f { A:=α,args:=fun a=>(vals a).map fun v=>.p false (aaj v),objs:=fun _=>[],pre:=pre,res:=fun a=>aaj (ret a),objs':=fun _=>[],fresh:=true,ro:=0,gl:=gl }:=
 amP hf hb hnm (fun a hp _=>anx (hv a hp)) h
theorem afb {P:Program} {f:Nat} {fn:Func} (hf:P.funcs[f]?=some fn) (hb:fn.body.isSome=true) (hnm:(fn.name=="runtime.NumGoroutine")=false) {α:Type} {vals:α→List Value} {pre:α→Prop} {ret:α→Value}
  (hv:∀a,pre a→vOk (ret a)=true) (h:∀a,pre a→∀w:World,Calls P f (vals a).toArray w fun e w'=>e=.returned (ret a)∧Below w.heap.size w w') :
  aL P f { A:=α,args:=fun a=>(vals a).map fun v=>.p false (aaj v),objs:=fun _=>[],pre:=pre,res:=fun a=>aaj (ret a),objs':=fun _=>[],fresh:=true,ro:=0 }:=
 aiW (gl:=[]) hf hb hnm hv fun a hp w _=>h a hp w
end Go.Sx
namespace Go.Sx
open Go
theorem ah {t:Bool} {A B:Prop} {p:Prop} (e:t=true↔p) (h:p→A) (h':¬p→B):sW t A B:=by
 refine aZ (fun ht=>h (e.1 ht)) (fun ht=>h' fun hp=>?_)
 rw[e.2 hp] at ht;cases ht
theorem bg {t:Bool} {A B:Prop} {p:Prop} (e:t=true↔¬p) (h:¬p→A) (h':p→B):sW t A B:=
 ah e h fun hh=>h' (Classical.byContradiction hh)
theorem aX {t b:Bool} {A B:Prop} (e:t=b) (h:b=true→A) (h':b=false→B):sW t A B:=
 aZ (fun ht=>h (e▸ht)) (fun ht=>h' (e▸ht))
theorem au {a b:Int} {p:Prop} (h:a<b↔p):decide (a<b)=true↔p:=decide_eq_true_iff.trans h
theorem cu {a b:Int} {p:Prop} (h:a≤b↔p):decide (a≤b)=true↔p:=decide_eq_true_iff.trans h
theorem gB {a b:Int} {p:Prop} (h:a=b↔p):(a==b)=true↔p:=(beq_iff_eq).trans h
theorem bK {a b:Int} {p:Prop} (h:¬a=b↔p):(a != b)=true↔p:=(bne_iff_ne).trans h
theorem aP {k:Nat} (h:k<4611686018427387904):IntKind.i64.wrap ((k:Int)+1)=((k+1:Nat):Int):=by
 rw[jk (by omega) (by omega)];rfl
theorem aj6 {k:Nat} (h:0<k) (h2:k<4611686018427387904):IntKind.i64.wrap ((k:Int)-1)=((k-1:Nat):Int):=by
 rw[jk (by omega) (by omega)];omega
theorem wrI {n:Int} (h1:-9223372036854775808≤n) (h2:n<9223372036854775808):IntKind.i64.wrap n=n:=jk h1 h2
theorem cK {x y:UInt8} {n:Int} (h:(y.toNat:Int)=n):(((x.toNat:Nat):Int)==n)=true↔x=y:=by
 rw[beq_iff_eq,←h]
 constructor
 ·intro e;exact UInt8.toNat_inj.1 (by omega)
 ·rintro rfl;rfl
def strOf (l:List UInt8):ByteArray:=⟨l.toArray⟩
theorem dK (l:List UInt8):(strOf l).size=l.length:=by simp[strOf,ByteArray.size]
theorem eD (a b:List UInt8):strOf a++strOf b=strOf (a++b):=by
 apply ByteArray.ext
 simp[strOf,ByteArray.data_append]
theorem ags:IntKind.i64.wrap 0=0:=rfl
theorem zA (x y:U):bits .and .u64 (x.toNat:Int) (y.toNat:Int)=((x &&& y).toNat:Int):=aoV x y
theorem zB (x y:U):bits .or .u64 (x.toNat:Int) (y.toNat:Int)=((x ||| y).toNat:Int):=atc x y
theorem zC (x y:U):bits .xor .u64 (x.toNat:Int) (y.toNat:Int)=((x ^^^ y).toNat:Int):=ar8 x y
theorem zD (x y:U):bits .andNot .u64 (x.toNat:Int) (y.toNat:Int)=((x &&& ~~~y).toNat:Int):=anX x y
theorem zE (x:U):bits .and .u64 (x.toNat:Int) 1=((x &&& 1#64).toNat:Int):=arA x
theorem zF (x y:U):IntKind.u64.wrap ((x.toNat:Int)+(y.toNat:Int))=((x+y).toNat:Int):=aoA x y
theorem zG (x:U):IntKind.u64.wrap ((x.toNat:Int)+1)=((x+1#64).toNat:Int):=arq x
theorem zH (x y:U):IntKind.u64.wrap ((x.toNat:Int)-(y.toNat:Int))=((x-y).toNat:Int):=aoD x y
theorem zI (x:U):IntKind.u64.wrap ((x.toNat:Int)-1)=((x-1#64).toNat:Int):=arN x
theorem zJ (k:Nat):IntKind.u64.wrap (1*2 ^ (min k IntKind.u64.bits))=((1#64 <<< k).toNat:Int):=arX k
theorem zK (x:U) (k:Nat):IntKind.u64.wrap ((x.toNat:Int)*2 ^ (min k IntKind.u64.bits))=((x <<< k).toNat:Int):=aow x k
theorem zL (x:U) (k:Nat):((x.toNat:Int)).fdiv (2 ^ (min k IntKind.u64.bits))=((x >>> k).toNat:Int):=asA x k
theorem zM (x:U):((x.toNat:Int)==0)=(x==0#64):=aqv x
theorem zN (x:U):((x.toNat:Int) != 0)=(x != 0#64):=aqr x
theorem zO (x:U):((x.toNat:Int)==1)=(x==1#64):=aqG x
theorem zP (x:U):((x.toNat:Int) != 1)=(x != 1#64):=aqo x
theorem zQ (x y:U):((x.toNat:Int)==(y.toNat:Int))=(x==y):=afC x y
theorem zR (x y:U):((x.toNat:Int) != (y.toNat:Int))=(x != y):=ajT x y
theorem zS (x y:U):decide ((x.toNat:Int)<(y.toNat:Int))=decide (x<y):=atd x y
theorem zT (x y:U):decide ((x.toNat:Int)≤(y.toNat:Int))=decide (x≤y):=ath x y
theorem zU (x:U):((x.toNat:Int)=0)=(x=0#64):=aoZ x
theorem zV (x:U):((x.toNat:Int)=1)=(x=1#64):=aqe x
theorem zW (x y:U):((x.toNat:Int)=(y.toNat:Int))=(x=y):=arH x y
theorem zX (x:U) (k:Nat):(x >>> k &&& 1#64==1#64)=x.getLsbD k:=ajJ x k
theorem zY (x:U) (k:Nat):(x >>> k &&& 1#64==0#64)=!x.getLsbD k:=ahv x k
theorem zZ (n:Nat):((n:Int)).toNat=n:=arZ n
theorem yA {p:Prop} [Decidable p]:(decide p=true)↔p:=decide_eq_true_iff
theorem yB {p:Prop} [Decidable p]:(decide p=false)↔¬p:=decide_eq_false_iff_not
theorem yC {b:Bool}:((!b)=true)↔b=false:=by cases b<;>simp
theorem yD {b:Bool}:((!b)=false)↔b=true:=by cases b<;>simp
theorem yE {α:Type} [BEq α] [LawfulBEq α] {a b:α}:(a==b)=true↔a=b:=beq_iff_eq
theorem yF {α:Type} [BEq α] [LawfulBEq α] {a b:α}:(a != b)=true↔¬a=b:=bne_iff_ne
theorem yG {α:Type} {a b:α}:(a≠b)=¬(a=b):=rfl
theorem yH {α:Type} [BEq α] [LawfulBEq α] {a b:α}:(a==b)=false↔¬a=b:=beq_eq_false_iff_ne
theorem yI {α:Type} [BEq α] [LawfulBEq α] {a b:α}:(a != b)=false↔a=b:=bne_eq_false_iff_eq
theorem yJ {p:Prop}:(¬¬p)↔p:=aqu
theorem yK {b:Bool}:(¬b=true)=(b=false):=by cases b<;>simp
theorem yL:(!true)=false:=rfl
theorem yM:(!false)=true:=rfl
theorem zz:(∀(x y:U),bits .and .u64 (x.toNat:Int) (y.toNat:Int)=((x &&& y).toNat:Int)) ∧
  (∀(x y:U),bits .or .u64 (x.toNat:Int) (y.toNat:Int)=((x ||| y).toNat:Int)) ∧
  (∀(x y:U),bits .xor .u64 (x.toNat:Int) (y.toNat:Int)=((x ^^^ y).toNat:Int)) ∧
  (∀(x y:U),bits .andNot .u64 (x.toNat:Int) (y.toNat:Int)=((x &&& ~~~y).toNat:Int)) ∧
  (∀(x:U),bits .and .u64 (x.toNat:Int) 1=((x &&& 1#64).toNat:Int)) ∧
  (∀(x y:U),IntKind.u64.wrap ((x.toNat:Int)+(y.toNat:Int))=((x+y).toNat:Int)) ∧
  (∀(x:U),IntKind.u64.wrap ((x.toNat:Int)+1)=((x+1#64).toNat:Int)) ∧
  (∀(x y:U),IntKind.u64.wrap ((x.toNat:Int)-(y.toNat:Int))=((x-y).toNat:Int)) ∧
  (∀(x:U),IntKind.u64.wrap ((x.toNat:Int)-1)=((x-1#64).toNat:Int)) ∧
  (∀(k:Nat),IntKind.u64.wrap (1*2 ^ (min k IntKind.u64.bits))=((1#64 <<< k).toNat:Int)) ∧
  (∀(x:U) (k:Nat),IntKind.u64.wrap ((x.toNat:Int)*2 ^ (min k IntKind.u64.bits))=((x <<< k).toNat:Int)) ∧
  (∀(x:U) (k:Nat),((x.toNat:Int)).fdiv (2 ^ (min k IntKind.u64.bits))=((x >>> k).toNat:Int)) ∧
  (∀(x:U),((x.toNat:Int)==0)=(x==0#64)) ∧
  (∀(x:U),((x.toNat:Int) != 0)=(x != 0#64)) ∧
  (∀(x:U),((x.toNat:Int)==1)=(x==1#64)) ∧
  (∀(x:U),((x.toNat:Int) != 1)=(x != 1#64)) ∧
  (∀(x y:U),((x.toNat:Int)==(y.toNat:Int))=(x==y)) ∧
  (∀(x y:U),((x.toNat:Int) != (y.toNat:Int))=(x != y)) ∧
  (∀(x y:U),decide ((x.toNat:Int)<(y.toNat:Int))=decide (x<y)) ∧
  (∀(x y:U),decide ((x.toNat:Int)≤(y.toNat:Int))=decide (x≤y)) ∧
  (∀(x:U),((x.toNat:Int)=0)=(x=0#64)) ∧
  (∀(x:U),((x.toNat:Int)=1)=(x=1#64)) ∧
  (∀(x y:U),((x.toNat:Int)=(y.toNat:Int))=(x=y)) ∧
  (∀(x:U) (k:Nat),(x >>> k &&& 1#64==1#64)=x.getLsbD k) ∧
  (∀(x:U) (k:Nat),(x >>> k &&& 1#64==0#64)=!x.getLsbD k) ∧
  (∀(n:Nat),((n:Int)).toNat=n) ∧
  (∀{p:Prop} [Decidable p],(decide p=true)↔p) ∧
  (∀{p:Prop} [Decidable p],(decide p=false)↔¬p) ∧
  (∀{b:Bool},((!b)=true)↔b=false) ∧
  (∀{b:Bool},((!b)=false)↔b=true) ∧
  (∀{α:Type} [BEq α] [LawfulBEq α] {a b:α},(a==b)=true↔a=b) ∧
  (∀{α:Type} [BEq α] [LawfulBEq α] {a b:α},(a != b)=true↔¬a=b) ∧
  (∀{α:Type} {a b:α},(a≠b)=¬(a=b)) ∧
  (∀{α:Type} [BEq α] [LawfulBEq α] {a b:α},(a==b)=false↔¬a=b) ∧
  (∀{α:Type} [BEq α] [LawfulBEq α] {a b:α},(a != b)=false↔a=b) ∧
  (∀{p:Prop},(¬¬p)↔p) ∧
  (∀{b:Bool},(¬b=true)=(b=false)) ∧
  ((!true)=false) ∧
  ((!false)=true):=
 ⟨@zA,@zB,@zC,@zD,@zE,@zF,@zG,@zH,@zI,@zJ,@zK,@zL,@zM,@zN,@zO,@zP,@zQ,@zR,@zS,@zT,@zU,@zV,@zW,@zX,@zY,@zZ,@yA,@yB,@yC,@yD,@yE,@yF,@yG,@yH,@yI,@yJ,@yK,@yL,@yM⟩
theorem ai {a b:Prop} (h:a) (k:b):a∧b:=⟨h,k⟩
theorem ei {α:Sort _} {p:α→Prop} (w:α) (h:p w):∃x,p x:=⟨w,h⟩
theorem nof {p:Prop} (h:false=true):p:=absurd h Bool.false_ne_true
end Go.Sx
namespace Go.Sx
open Go Go.RowKit
def fD (w:World) (b:Nat):Option (Array Value):=match w.heap[b]? with
 | some (.cells cs _ _)=>some cs
 | _=>none
def E0 (w:World):Env:={ hd:=fun _=>none,mem:=fD w,tm:=fun b=>w.heap.size≤b,ws:=w,I:=fun _=>False,k:=none }
theorem aj8 {w:World} {b:Nat} {cs:Array Value} (h:fD w b=some cs):∃T fr,w.heap[b]?=some (.cells cs T fr):=by
 unfold fD at h
 split at h
 ·rename_i cs' T fr hb
  cases h;exact ⟨T,fr,hb⟩
 ·cases h
theorem aod {w:World} {b:Nat} {cs:Array Value} {T:TypeId} {fr:Nat×Nat} (h:w.heap[b]?=some (.cells cs T fr)):fD w b=some cs:=by
 unfold fD;rw[h]
theorem alO (hd:Nat→Option Value):kE hd [] 0=fun _=>False:=by
 funext b
 apply propext
 constructor
 ·rintro ⟨k,o,_,h,_⟩;simp at h
 ·exact False.elim
theorem asu (w:World):bq (kP w (E0 w) [] 0) (E0 w) (iI []) w:=by
 have ho:∀i,(iI []).obj i=none:=fun _=>rfl
 refine ⟨fun i o h=>?_,fun i j o o' b h=>?_,fun i o b h=>?_,fun b cs h=>aj8 h,fun b cs h=>h,fun b cs h=>.inl h,fun i _=>rfl,rfl,?_,fun k _=>rfl,aha _,aha _,rfl⟩
 ·rw[ho] at h;cases h
 ·rw[ho] at h;cases h
 ·rw[ho] at h;cases h
 ·exact ⟨rfl,rfl,rfl,aha _,aha _,⟨rfl,rfl,rfl⟩,fun b hb=>hb.elim,fun k _ _=>rfl,⟨rfl,(alO _).symm,rfl⟩⟩
theorem ag1 {gl:List (Nat×Array Value)} {l:List Nat} {P:Program} {f:Nat} {α:Type} {args:α→List SV} {pre:α→Prop}
  (h:aL P f { A:=α,args:=args,objs:=fun _=>[],pre:=pre,res:=fun _=>.val (.bool true),objs':=fun _=>[],fresh:=true,ro:=0,inl:=l,gl:=gl }) (a:α) (hp:pre a) (W:World) (hgl:∀p∈gl,fD W p.1=some p.2) (vs:Array Value)
  (hA:jV (E0 W) vs (args a)):Calls P f vs W fun e W'=>e=.returned (.bool true)∧Below W.heap.size W W':=by
 refine (h.2 a hp (E0 W) vs W hgl (asu W) hA).mono ?_
 rintro e w' ⟨v,E',rfl,hv,hh⟩
 obtain ⟨_,hI,hws⟩:=hh.fr.sync
 rw[hv.aN]
 refine ⟨rfl,hh.fr.os,hh.fr.tape,hh.fr.output,?_,fun k hk=>?_⟩
 ·have:=hh.fr.wsz;rw[hws] at this;exact this
 ·have:=hh.fr.block k (by rw[hws];exact hk) (by rw[hI];rintro ⟨j,o,_,h,_⟩;simp at h)
  rw[hws] at this;exact this
def Rel (μ:Nat→Option (Array Value)) (cs:List Value) (l:List PV):Prop:=
 l.length=cs.length∧∀(k:Nat) (u:Value) (s:PV),cs[k]?=some u→l[k]?=some s→u.oneCell'=true∧aO μ u s
theorem Rel.nil (μ:Nat→Option (Array Value)):Rel μ [] []:=⟨rfl,fun k u s h=>by simp at h⟩
theorem Rel.one {μ:Nat→Option (Array Value)} {u:Value} {s:PV} (h1:u.oneCell'=true) (h2:aO μ u s):Rel μ [u] [s]:=
 ⟨rfl,fun k v t hv ht=>by
  cases k with
  | zero=>simp at hv ht;subst hv;subst ht;exact ⟨h1,h2⟩
  | succ k=>simp at hv⟩
theorem Rel.append {μ:Nat→Option (Array Value)} {a b:List Value} {l m:List PV} (h:Rel μ a l) (k:Rel μ b m):Rel μ (a++b) (l++m):=by
 refine ⟨by simp[h.1,k.1],fun i u s hu hs=>?_⟩
 by_cases hi:i<a.length
 ·rw[afk hi] at hu
  rw[afk (by rw[h.1];exact hi)] at hs
  exact h.2 i u s hu hs
 ·rw[agH (by omega)] at hu
  rw[agH (by rw[h.1];omega),h.1] at hs
  exact k.2 _ u s hu hs
theorem Rel.flatten {μ:Nat→Option (Array Value)}:∀{a:List (List Value)} {l:List (List PV)},a.length=l.length→(∀(i:Nat) x y,a[i]?=some x→l[i]?=some y→Rel μ x y)→Rel μ a.flatten l.flatten
 | [],[],_,_=>Rel.nil μ
 | x :: a,y :: l,hl,h=>by
  simp only[auw]
  exact (h 0 x y rfl rfl).append (Rel.flatten (by simpa using hl) fun i u v hu hv=>h (i+1) u v hu hv)
def Shape (P:Program):Nat→TypeId→List PV→Prop
 | 0,_,_=>False
 | n+1,t,l=>match P.underlying t with
  | some .bool=>∃b,l=[.val (.bool b)]
  | some (.int k)=>∃m,(Lit.int k m).wf=true∧l=[.val (.int k m)]
  | some .string=>∃s:ByteArray,s.size≤maxLen∧l=[.val (.string s)]
  | some (.slice e)=>∃(m:Nat) (f:Nat→List PV),m≤maxLen∧l=[.seq m f]∧∀j,j<m→Shape P n e (f j)
  | some (.struct fs)=>∃ls:List (List PV),l=ls.flatten∧ls.length=fs.size∧∀(i:Nat) (f:Field) (x:List PV),fs[i]?=some f→ls[i]?=some x→Shape P n f.type x
  | some (.array m e)=>∃ls:List (List PV),l=ls.flatten∧ls.length=m∧∀(i:Nat) (x:List PV),ls[i]?=some x→Shape P n e x
  | _=>False
def aas (P:Program):List Field→Nat→Nat→Bool
 | [],at_,n=>at_==n
 | f :: fs,at_,n=>(f.offset==at_)&&aas P fs (at_+P.cellsOf f.type) n
def ahG (P:Program) (S:List TypeId) (t:TypeId):Bool:=
 match P.underlying t with
 | some .bool=>true
 | some (.int _)=>true
 | some .string=>true
 | some (.slice e)=>S.contains e&&(P.cellsOf e != 0)
 | some (.struct fs)=>(fs.toList.all fun f=>S.contains f.type)&&aas P fs.toList 0 (P.cellsOf t)
 | some (.array m e)=>S.contains e&&(P.cellsOf t==m*P.cellsOf e)
 | _=>false
def Closed (P:Program) (S:List TypeId):Prop:=∀t∈S,ahG P S t=true
theorem aar {P:Program} {cs:List Value}:∀(fs:List Field) (at_ n:Nat),aas P fs at_ n=true→cs.length=n→(fs.map fun f=>(cs.drop f.offset).take (P.cellsOf f.type)).flatten=cs.drop at_
 | [],at_,n,h,hn=>by
  simp only[aas,beq_iff_eq] at h
  subst h;subst hn;simp
 | f :: fs,at_,n,h,hn=>by
  simp only[aas,agw,beq_iff_eq] at h
  simp only[aoM,auw]
  rw[aar fs _ n h.2 hn,h.1,←List.drop_drop,ato]
theorem abt {cs:List Value} (sz:Nat):∀(m:Nat),m*sz≤cs.length→((List.range m).map fun i=>(cs.drop (i*sz)).take sz).flatten=cs.take (m*sz)
 | 0,_=>by simp
 | m+1,h=>by
  rw[List.range_succ,asG,List.flatten_append,abt sz m (by rw[asI] at h;omega)]
  simp only[aoM,atU,auw,List.flatten_nil,arD]
  rw[asI,List.take_add]
section
variable {H : Type} {enc : TypeId × Value → H} {P : Program} {w w' : World} {S : List TypeId}
theorem ae3 {base:Nat} {a:Addr} {n:Nat} {cs:List Value} (h:w.cells? base a n=some cs):cs.length=n∧∀(k:Nat) u,cs[k]?=some u→w.cell? (a.add k)=some u:=by
 unfold World.cells? at h
 split at h
 ·have h1:=mapM_some_length h
  refine ⟨by simpa using h1,fun k u hu=>?_⟩
  have hk:k<n:=by
   have:=(abA.1 hu).1
   rw[h1] at this;simpa using this
  have:=mapM_some_get h k k (by simp[hk])
  rw[this,hu]
 ·cases h
theorem aqn {b o len cap sz:Nat} {f:Nat→List PV} {cells:Array Value} {T:TypeId} {fr:Nat×Nat} (hb:w.heap[b]?=some (.cells cells T fr)) (hlc:len≤cap) (hm:len≤maxLen)
  (hl:∀j,j<len→(f j).length=sz) (hc:∀j k s,j<len→(f j)[k]?=some s→∃u,cells[o+(j*sz+k)]?=some u∧u.oneCell'=true∧aO (fD w) u s) :
  aO (fD w) (.slice (some ⟨b,o,none⟩) len cap) (.seq len f):=by
 refine .seq b o len cap sz f cells (fun j k=>cells.getD (o+(j*sz+k)) undef) (aod hb) hlc hm hl (fun j k s hj hs=>?_) (fun j k s hj hs=>?_)
 ·obtain ⟨u,h1,h2,_⟩:=hc j k s hj hs
  rw[aeC,h1];exact ⟨rfl,h2⟩
 ·obtain ⟨u,h1,_,h3⟩:=hc j k s hj hs
  rw[aeC,h1];exact h3
theorem wR (hS:Closed P S) {base:Nat} {sp:Nat→Bool} {held:Bool}:∀(n:Nat) (t:TypeId) (cs:List Value) (x:DataW H×List MemPlace),t∈S →
  DataW.trod enc P w base sp held n t cs=some x→∃l,Shape P n t l∧Rel (fD w) cs l
 | 0,_,_,_,_,h=>by simp[DataW.trod] at h
 | n+1,t,cs,x,ht,h=>by
  have hok:=hS t ht
  have ih:=wR hS (base:=base) (sp:=sp) (held:=held) n
  unfold ahG at hok
  cases hu:P.underlying t with
  | none=>rw[hu] at hok;cases hok
  | some d=>
   rw[hu] at hok
   have hsh:∀l,Shape P (n+1) t l=(match some d with
    | some .bool=>∃b,l=[.val (.bool b)]
    | some (.int k)=>∃m,(Lit.int k m).wf=true∧l=[.val (.int k m)]
    | some .string=>∃s:ByteArray,s.size≤maxLen∧l=[.val (.string s)]
    | some (.slice e)=>∃(m:Nat) (f:Nat→List PV),m≤maxLen∧l=[.seq m f]∧∀j,j<m→Shape P n e (f j)
    | some (.struct fs)=>∃ls:List (List PV),l=ls.flatten∧ls.length=fs.size∧∀(i:Nat) (f:Field) (x:List PV),fs[i]?=some f→ls[i]?=some x→Shape P n f.type x
    | some (.array m e)=>∃ls:List (List PV),l=ls.flatten∧ls.length=m∧∀(i:Nat) (x:List PV),ls[i]?=some x→Shape P n e x
    | _=>False):=fun l=>by rw[←hu];rfl
   cases d<;>simp only at hok<;>try (cases hok;done)
   case bool=>
    obtain ⟨b,rfl,rfl⟩:=DataW.trod_bool hu h
    exact ⟨[.val (.bool b)],by rw[hsh];exact ⟨b,rfl⟩,Rel.one rfl (.val _)⟩
   case int k=>
    obtain ⟨m,rfl,rfl,hw⟩:=DataW.trod_int hu h
    exact ⟨[.val (.int k m)],by rw[hsh];exact ⟨m,hw,rfl⟩,Rel.one rfl (.val _)⟩
   case string=>
    obtain ⟨s,rfl,rfl,hs⟩:=DataW.trod_string hu h
    exact ⟨[.val (.string s)],by rw[hsh];exact ⟨s,hs,rfl⟩,Rel.one rfl (.val _)⟩
   case slice e=>
    simp only[agw,atD,decide_eq_true_eq,bne_iff_ne] at hok
    rcases DataW.trod_slice hu h with ⟨rfl,rfl⟩ | ⟨a,len,cap,elems,rest,n',hn',rfl,rfl,hb,hlc,hcm,hel,hget,_⟩
    ·exact ⟨[.seq 0 fun _=>[]],by rw[hsh];exact ⟨0,_,afc _,rfl,fun j hj=>absurd hj (alJ _)⟩,Rel.one rfl (.nil _)⟩
    ·obtain rfl:n=n':=by omega
     have each:∀i,∃l,i<len→(Shape P n e l∧∃q,w.cells? base (a.add (i*P.cellsOf e)) (P.cellsOf e)=some q∧Rel (fD w) q l):=fun i=>by
      by_cases hi:i<len
      ·have hg:=hget i hi
       rw[abn (by omega)] at hg
       cases hc:w.cells? base (a.add (i*P.cellsOf e)) (P.cellsOf e) with
       | none=>rw[hc] at hg;cases hg
       | some q=>
        rw[hc] at hg
        obtain ⟨l,h1,h2⟩:=ih e q _ hok.1 hg
        exact ⟨l,fun _=>⟨h1,q,rfl,h2⟩⟩
      ·exact ⟨[],fun h=>absurd h hi⟩
     obtain ⟨f,hf⟩:=Classical.axiomOfChoice each
     refine ⟨[.seq len f],by rw[hsh];exact ⟨len,f,aln hlc hcm,rfl,fun j hj=>(hf j hj).1⟩,Rel.one rfl ?_⟩
     rcases aq0 len with h0 | hpos
     ·subst h0;exact .emp a cap f
     ·have hc0:∀j k s,j<len→(f j)[k]?=some s→∃u,w.cell? (a.add (j*P.cellsOf e+k))=some u∧u.oneCell'=true∧aO (fD w) u s:=by
       intro j k s hj hs
       obtain ⟨_,q,hq,hr⟩:=hf j hj
       obtain ⟨hql,hqc⟩:=ae3 hq
       have hk:k<q.length:=by rw[←hr.1];exact (abA.1 hs).1
       have hqk:q[k]?=some q[k]:=abn hk
       obtain ⟨g1,g2⟩:=hr.2 k _ s hqk hs
       have:=hqc k _ hqk
       rw[Addr.add_add] at this
       exact ⟨_,this,g1,g2⟩
      have hlen:∀j,j<len→(f j).length=P.cellsOf e:=fun j hj=>by
       obtain ⟨_,q,hq,hr⟩:=hf j hj
       rw[hr.1];exact (ae3 hq).1
      obtain ⟨b,o,spot⟩:=a
      have h00:=hlen 0 hpos
      obtain ⟨u,hu0,_⟩:=hc0 0 0 ((f 0)[0]'(by omega)) hpos (abn _)
      have hz:((⟨b,o,spot⟩:Addr).add (0*P.cellsOf e+0))=⟨b,o,spot⟩:=by simp[Addr.add]
      rw[hz] at hu0
      unfold World.cell? at hu0
      cases hh:w.heap[b]? with
      | none=>simp[hh] at hu0
      | some ob=>
       cases ob<;>try (simp[hh] at hu0;done)
       rename_i cells T fr
       cases spot with
       | some q=>simp[hh] at hu0
       | none=>
        refine aqn hh hlc (aln hlc hcm) hlen fun j k s hj hs=>?_
        obtain ⟨u,g1,g2,g3⟩:=hc0 j k s hj hs
        rw[Addr.add_lit] at g1
        refine ⟨u,?_,g2,g3⟩
        simpa [World.cell?,hh] using g1
   case struct fs=>
    simp only[agw] at hok
    obtain ⟨xs,n',hn',rfl,hl,hxl,hget⟩:=DataW.trod_struct hu h
    obtain rfl:n=n':=by omega
    have each:∀i:Nat,∃l,∀f:Field,fs[i]?=some f→Shape P n f.type l∧Rel (fD w) ((cs.drop f.offset).take (P.cellsOf f.type)) l:=fun i=>by
     cases hfi:fs[i]? with
     | none=>exact ⟨[],fun f h=>by cases h⟩
     | some f=>
      have hi:i<fs.size:=(abB.1 hfi).1
      have hg:=hget i f hfi
      rw[abn (by omega)] at hg
      have hS':f.type∈S:=by
       have:=ak7.1 hok.1 f (at5.2 (atO hfi))
       simpa using this
      obtain ⟨l,h1,h2⟩:=ih f.type _ _ hS' hg
      exact ⟨l,fun g hg'=>by cases hg';exact ⟨h1,h2⟩⟩
    obtain ⟨g,hg⟩:=Classical.axiomOfChoice each
    refine ⟨((List.range fs.size).map g).flatten,?_,?_⟩
    ·rw[hsh]
     refine ⟨_,rfl,by simp,fun i f x hf hx=>?_⟩
     have hi:i<fs.size:=(abB.1 hf).1
     simp[hi] at hx
     subst hx
     exact (hg i f hf).1
    ·have e:=aar (cs:=cs) fs.toList 0 _ hok.2 hl
     rw[List.drop_zero] at e
     rw[←e]
     refine Rel.flatten (by simp) fun i x y hx hy=>?_
     simp only[ajs,aeX,atx] at hx hy
     obtain ⟨f,hf,rfl⟩:=hx
     obtain ⟨j,hj,rfl⟩:=hy
     have hi:i<fs.size:=(abB.1 hf).1
     simp[hi] at hj
     subst hj
     exact (hg i f hf).2
   case array m e=>
    simp only[agw,atD,decide_eq_true_eq,beq_iff_eq] at hok
    obtain ⟨xs,n',hn',rfl,hl,hxl,hget⟩:=DataW.trod_array hu h
    obtain rfl:n=n':=by omega
    have each:∀i,∃l,i<m→Shape P n e l∧Rel (fD w) ((cs.drop (i*P.cellsOf e)).take (P.cellsOf e)) l:=fun i=>by
     by_cases hi:i<m
     ·have hg:=hget i hi
      rw[abn (by omega)] at hg
      obtain ⟨l,h1,h2⟩:=ih e _ _ hok.1 hg
      exact ⟨l,fun _=>⟨h1,h2⟩⟩
     ·exact ⟨[],fun h=>absurd h hi⟩
    obtain ⟨g,hg⟩:=Classical.axiomOfChoice each
    refine ⟨((List.range m).map g).flatten,?_,?_⟩
    ·rw[hsh]
     refine ⟨_,rfl,by simp,fun i x hx=>?_⟩
     have hi:i<m:=by
      have:=(abA.1 hx).1
      simpa using this
     simp[hi] at hx
     subst hx
     exact (hg i hi).1
    ·have e1:=abt (cs:=cs) (P.cellsOf e) m (by rw[hl,hok.2];exact aha _)
     rw[←hok.2,←hl,ahb] at e1
     rw[←e1]
     refine Rel.flatten (by simp) fun i x y hx hy=>?_
     have hi:i<m:=by
      have:=(abA.1 hx).1
      simpa using this
     simp[hi] at hx hy
     subst hx;subst hy
     exact (hg i hi).2
theorem aeZ {α β:Type} {f g:α→Option β}:∀{l:List α} {xs:List β},(∀a∈l,∀x,f a=some x→x∈xs→g a=some x)→l.mapM f=some xs→l.mapM g=some xs
 | [],xs,_,h=>h
 | a :: l,xs,h,hf=>by
  rw[aus] at hf
  cases ha:f a with
  | none=>rw[ha] at hf;cases hf
  | some x=>
   cases hl:l.mapM f with
   | none=>rw[ha,hl] at hf;cases hf
   | some xs'=>
    rw[ha,hl] at hf
    have e:x :: xs'=xs:=Option.some.inj hf
    subst e
    rw[aus,h a (by simp) x ha (by simp),aeZ (fun b hb y hy hm=>h b (by simp[hb]) y hy (by simp[hm])) hl];rfl
theorem wL {α β:Type} {f:α→Option β}:∀{l:List α} {xs:List β},xs.length=l.length→(∀(i:Nat) a,l[i]?=some a→f a=xs[i]?)→l.mapM f=some xs
 | [],xs,hl,_=>by
  have:xs=[]:=aqH.1 hl
  subst this;rfl
 | a :: l,[],hl,_=>by simp at hl
 | a :: l,x :: xs,hl,h=>by
  rw[aus,h 0 a rfl,wL (f:=f) (l:=l) (xs:=xs) (by simpa using hl) (fun i b hb=>h (i+1) b hb)];rfl
theorem aia (hh:∀b,b<w.heap.size→w'.heap[b]?=w.heap[b]?) {base:Nat} {a:Addr} {n:Nat} {cs:List Value} (hn:n≠0) (h:w.cells? base a n=some cs):w'.cells? base a n=some cs:=by
 have hlt:=World.cells?_block h (aut hn)
 unfold World.cells? at h ⊢
 split at h
 ·rename_i hb
  rw[if_pos hb]
  refine aeZ (fun i _ u hu _=>?_) h
  have hblk:(a.add i).block=a.block:=ChangeShapes.block_add a i
  unfold World.cell? at hu ⊢
  rw[hblk] at hu ⊢
  rw[hh _ hlt];exact hu
 ·cases h
theorem aeY (hS:Closed P S) (hh:∀b,b<w.heap.size→w'.heap[b]?=w.heap[b]?) {base:Nat} {sp:Nat→Bool} {held:Bool}:∀(n:Nat) (t:TypeId) (cs:List Value) (x:DataW H×List MemPlace),t∈S →
  DataW.trod enc P w base (fun _=>true) held n t cs=some x→(∀p∈x.2,sp p.block=true)→DataW.trod enc P w' base sp held n t cs=some x
 | 0,_,_,_,_,h,_=>by simp[DataW.trod] at h
 | n+1,t,cs,x,ht,h,hp=>by
  have hok:=hS t ht
  have ih:=aeY hS hh (base:=base) (sp:=sp) (held:=held) n
  unfold ahG at hok
  cases hu:P.underlying t with
  | none=>rw[hu] at hok;cases hok
  | some d=>
   rw[hu] at hok
   cases d<;>simp only at hok<;>try (cases hok;done)
   case bool=>
    obtain ⟨b,rfl,rfl⟩:=DataW.trod_bool hu h
    unfold DataW.trod;rw[hu]
   case int k=>
    obtain ⟨m,rfl,rfl,hw⟩:=DataW.trod_int hu h
    unfold DataW.trod;rw[hu];simp[hw]
   case string=>
    obtain ⟨s,rfl,rfl,hs⟩:=DataW.trod_string hu h
    unfold DataW.trod;rw[hu];simp[hs]
   case slice e=>
    simp only[agw,atD,decide_eq_true_eq,bne_iff_ne] at hok
    rcases DataW.trod_slice hu h with ⟨rfl,rfl⟩ | ⟨a,len,cap,elems,rest,n',hn',rfl,rfl,hb,hlc,hcm,hel,hget,hrest,_⟩
    ·unfold DataW.trod;rw[hu];rfl
    ·obtain rfl:n=n':=by omega
     obtain ⟨hrl,hrget⟩:=hrest rfl
     have step:∀(i:Nat) (y:DataW H×List MemPlace),y∈elems++rest→(w.cells? base (a.add (i*P.cellsOf e)) (P.cellsOf e)).bind (DataW.trod enc P w base (fun _=>true) held n e)=some y →
       (w'.cells? base (a.add (i*P.cellsOf e)) (P.cellsOf e)).bind (DataW.trod enc P w' base sp held n e)=some y:=by
      intro i y hy hb
      cases hc:w.cells? base (a.add (i*P.cellsOf e)) (P.cellsOf e) with
      | none=>rw[hc] at hb;cases hb
      | some q=>
       rw[hc] at hb
       rw[aia hh hok.2 hc]
       exact ih e q y hok.1 hb fun p hpy=>hp p (ahN.2 (.inr (at7.2 ⟨y,hy,hpy⟩)))
     have he:(List.range len).mapM (fun i=>(w'.cells? base (a.add (i*P.cellsOf e)) (P.cellsOf e)).bind (DataW.trod enc P w' base sp held n e))=some elems:=by
      refine wL (by simp[hel]) fun i j hj=>?_
      have hi:i<len:=by
       have:=(abA.1 hj).1
       simpa using this
      simp[hi] at hj
      subst hj
      have hg:=hget i hi
      have hs:elems[i]?=some (elems[i]'(by omega)):=abn _
      rw[hs] at hg ⊢
      exact step i _ (ahN.2 (.inl (atL _))) hg
     have hr:(if sp a.block=true then (List.range (cap-len)).mapM (fun j=>(w'.cells? base (a.add ((len+j)*P.cellsOf e)) (P.cellsOf e)).bind (DataW.trod enc P w' base sp held n e)) else some [])=some rest:=by
      by_cases hsp:sp a.block=true
      ·rw[if_pos hsp]
       refine wL (by simp[hrl]) fun i j hj=>?_
       have hi:i<cap-len:=by
        have:=(abA.1 hj).1
        simpa using this
       simp[hi] at hj
       subst hj
       have hg:=hrget i hi
       have hs:rest[i]?=some (rest[i]'(by omega)):=abn _
       rw[hs] at hg ⊢
       exact step (len+i) _ (ahN.2 (.inr (atL _))) hg
      ·rw[if_neg hsp]
       have h0:rest.length=0:=by
        rcases aq0 rest.length with h0 | h0
        ·exact h0
        ·exfalso
         refine hsp (hp (.cell a.block (a.off+0)) (ahN.2 (.inl ?_)))
         unfold MemPlace.row
         refine asJ.2 ⟨0,List.mem_range.2 (Nat.mul_pos (by omega) (aut hok.2)),rfl⟩
       rw[aqH.1 h0]
     unfold DataW.trod
     rw[hu]
     simp only[hb,hlc,hcm,and_self,if_true,he,hr,aum,aoF]
   case struct fs=>
    simp only[agw] at hok
    obtain ⟨xs,n',hn',rfl,hl,hxl,hget⟩:=DataW.trod_struct hu h
    obtain rfl:n=n':=by omega
    refine ChangeShapes.trod_struct_mk hu hl (wL (by simp[hxl]) fun i f hf=>?_)
    have hf:fs[i]?=some f:=by simpa using hf
    have hi:i<fs.size:=(abB.1 hf).1
    have hg:=hget i f hf
    have hs:xs[i]?=some (xs[i]'(by omega)):=abn _
    rw[hs] at hg ⊢
    have hS':f.type∈S:=by
     have:=ak7.1 hok.1 f (at5.2 (atO hf))
     simpa using this
    exact ih f.type _ _ hS' hg fun p hpy=>hp p (at7.2 ⟨_,atL _,hpy⟩)
   case array m e=>
    simp only[agw,atD,decide_eq_true_eq,beq_iff_eq] at hok
    obtain ⟨xs,n',hn',rfl,hl,hxl,hget⟩:=DataW.trod_array hu h
    obtain rfl:n=n':=by omega
    have hm:(List.range m).mapM (fun i=>DataW.trod enc P w' base sp held n e ((cs.drop (i*P.cellsOf e)).take (P.cellsOf e)))=some xs:=by
     refine wL (by simp[hxl]) fun i j hj=>?_
     have hi:i<m:=by
      have:=(abA.1 hj).1
      simpa using this
     simp[hi] at hj
     subst hj
     have hg:=hget i hi
     have hs:xs[i]?=some (xs[i]'(by omega)):=abn _
     rw[hs] at hg ⊢
     exact ih e _ _ hok.1 hg fun p hpy=>hp p (at7.2 ⟨_,atL _,hpy⟩)
    unfold DataW.trod
    rw[hu]
    simp only[hl,if_true,hm,aoF]
theorem zo (hS:Closed P S) (hh:∀b,b<w.heap.size→w'.heap[b]?=w.heap[b]?) {base:Nat} {sp:Nat→Bool} {held:Bool}:∀{ts:List TypeId} {vs:List Value} {ds:List (DataW H)} {ps:List MemPlace},(∀t∈ts,t∈S) →
  DataW.TrodAll enc P w base (fun _=>true) held ts vs ds ps→(∀p∈ps,sp p.block=true)→DataW.TrodAll enc P w' base sp held ts vs ds ps
 | [],[],[],ps,_,h,_=>h
 | t :: ts,v :: vs,d :: ds,ps,hts,⟨p,q,⟨fuel,h1⟩,h2,he⟩,hp=>by
  subst he
  exact ⟨p,q,⟨fuel,aeY hS hh fuel t _ _ (hts t (by simp)) h1 fun x hx=>hp x (ahN.2 (.inl hx))⟩,zo hS hh (fun t ht=>hts t (by simp[ht])) h2 fun x hx=>hp x (ahN.2 (.inr hx)),rfl⟩
 | [],[],_ :: _,_,_,h,_=>h.elim
 | [],_ :: _,_,_,_,h,_=>h.elim
 | _ :: _,[],_,_,_,h,_=>h.elim
 | _ :: _,_ :: _,[],_,_,h,_=>h.elim
theorem aqU {v:Value} {cs:Array Value} {l:List PV} (hv:v=.agg cs) (h:Rel (fD w) v.cells.toList l):aM (E0 w) v (.p false (.agg l)):=by
 subst hv
 have h':Rel (fD w) cs.toList l:=h
 refine .p false _ _ (.agg cs l (by rw[h'.1];simp) (fun k u hu=>?_) (fun k u s hu hs=>(h'.2 k u s (by simpa using hu) hs).2))
 have hk:k<cs.size:=(abB.1 hu).1
 have hl:k<l.length:=by rw[h'.1];simpa using hk
 exact (h'.2 k u _ (by simpa using hu) (abn hl)).1
theorem aqp {v:Value} {s:PV} (hna:∀cs,v≠.agg cs) (h:Rel (fD w) v.cells.toList [s]):aM (E0 w) v (.p false s):=by
 have e:v.cells=#[v]:=by
  cases v<;>first | rfl | exact absurd rfl (hna _)
 rw[e] at h
 exact .p false _ _ (h.2 0 v s rfl rfl).2
theorem al3 {t:TypeId} {fs:Array Field} {r:Reach} {b:Nat} {v:Value} (hu:P.underlying t=some (.struct fs)) (h:Value.okWide P w r b t v):∃cs,v=.agg cs:=by
 unfold Value.okWide at h
 rw[hu] at h
 obtain ⟨cs,h1,_⟩:=h
 exact ⟨cs,h1⟩
theorem ok_slice {t e:TypeId} {r:Reach} {b:Nat} {v:Value} (hu:P.underlying t=some (.slice e)) (h:Value.okWide P w r b t v):∀cs,v≠.agg cs:=by
 rintro cs rfl
 simp[Value.okWide,Cell.okWide,Cell.ok,hu] at h
theorem akU {t:TypeId} {k:IntKind} {n:Nat} {l:List PV} (hu:P.underlying t=some (.int k)) (h:Shape P n t l):∃m,(Lit.int k m).wf=true∧l=[.val (.int k m)]:=by
 cases n with
 | zero=>exact h.elim
 | succ n=>unfold Shape at h;rw[hu] at h;exact h
theorem ajW {t:TypeId} {n:Nat} {l:List PV} (hu:P.underlying t=some .bool) (h:Shape P n t l):∃b,l=[.val (.bool b)]:=by
 cases n with
 | zero=>exact h.elim
 | succ n=>unfold Shape at h;rw[hu] at h;exact h
theorem ag0 {t:TypeId} {n:Nat} {l:List PV} (hu:P.underlying t=some .string) (h:Shape P n t l):∃s:ByteArray,s.size≤maxLen∧l=[.val (.string s)]:=by
 cases n with
 | zero=>exact h.elim
 | succ n=>unfold Shape at h;rw[hu] at h;exact h
theorem aip {t e:TypeId} {n:Nat} {l:List PV} (hu:P.underlying t=some (.slice e)) (h:Shape P n t l):∃(m:Nat) (f:Nat→List PV) (n':Nat),m≤maxLen∧l=[.seq m f]∧∀j,j<m→Shape P n' e (f j):=by
 cases n with
 | zero=>exact h.elim
 | succ n=>unfold Shape at h;rw[hu] at h;obtain ⟨m,f,h1,h2,h3⟩:=h;exact ⟨m,f,n,h1,h2,h3⟩
def afU (P:Program) (n:Nat):List TypeId→List (List PV)→Prop
 | [],[]=>True
 | t :: ts,l :: ls=>Shape P n t l∧afU P n ts ls
 | _,_=>False
theorem aeE {n:Nat}:∀(ts:List TypeId) (ls:List (List PV)),ls.length=ts.length→(∀(i:Nat) t x,ts[i]?=some t→ls[i]?=some x→Shape P n t x)→afU P n ts ls
 | [],[],_,_=>trivial
 | t :: ts,l :: ls,hl,h=>⟨h 0 t l rfl rfl,aeE ts ls (by simpa using hl) fun i t x ht hx=>h (i+1) t x ht hx⟩
 | [],_ :: _,hl,_=>by simp at hl
 | _ :: _,[],hl,_=>by simp at hl
def AR (E:Env):List Value→List SV→Prop
 | [],[]=>True
 | v :: vs,s :: ss=>aM E v s∧AR E vs ss
 | _,_=>False
theorem AR.get {E:Env}:∀(vs:List Value) (ss:List SV),AR E vs ss→vs.length=ss.length∧∀(k:Nat) u s,vs[k]?=some u→ss[k]?=some s→aM E u s
 | [],[],_=>⟨rfl,fun k u s h=>by simp at h⟩
 | v :: vs,s :: ss,h=>by
  obtain ⟨h1,h2⟩:=AR.get vs ss h.2
  refine ⟨by simp[h1],fun k u t hu ht=>?_⟩
  cases k with
  | zero=>simp at hu ht;subst hu;subst ht;exact h.1
  | succ k=>simp at hu ht;exact h2 k u t hu ht
 | [],_ :: _,h=>h.elim
 | _ :: _,[],h=>h.elim
theorem akC {E:Env} {vs:List Value} {ss:List SV} (h:AR E vs ss):jV E vs.toArray ss:=by
 obtain ⟨h1,h2⟩:=AR.get vs ss h
 exact ⟨by simpa using h1,fun k u s hu hs=>h2 k u s (by simpa using hu) hs⟩
end
end Go.Sx
namespace Go.Sx
open Go
def aoL (X:bB) (fn:Func) (args:List SV) (st:St) (K:SV→St→Prop):Prop:=
 vZ args fun args=>args.length.ble fn.ntmps=true ∧
  match fn.body with
  | some c=>tJ ⟨qh 0 args,st.ob,st.no,st.k⟩ fun st0=>vc c ⟨X.P,X.Tb,fn.ntmps,X.ro,X.m,true,none,X.inl,X.gl,X.nw⟩ st0 fun e st'=>
    match e with
    | .normal | .ret=>match oC ⟨X.P,X.Tb,fn.ntmps,X.ro,X.m,true,none,X.inl,X.gl,X.nw⟩ st' fn.results.toList with
     | some s=>K s st'
     | none=>False
    | _=>False
  | none=>False
theorem fE {X:bB} {f:Nat} {fn:Func} {args:List SV} {st:St} {K:SV→St→Prop} (hm:X.P.follows .mixedOrders=true) (hTb:X.Tb.Ok X.P) (hf:X.P.funcs[f]?=some fn) (hnm:(fn.name=="runtime.NumGoroutine")=false) (hb:fn.body.isSome=true)
  (h:aoL X fn args st K):aaO X f args st K:=by
 refine ⟨⟨fn,hf,hb,hnm⟩,fun C E vs w hCm hCro hrm hlent hgl hnw hh hA=>?_⟩
 unfold aoL at h
 rw[xK] at h
 obtain ⟨h1,hvc⟩:=h
 cases hbody:fn.body with
 | none=>rw[hbody] at hb;cases hb
 | some c=>
  simp only[hbody,sO] at hvc
  have hlen:args.length≤fn.ntmps:=aiT h1
  obtain ⟨hsz,hrep⟩:=hA
  obtain ⟨C',hC'⟩:∃C':Ctx,C'={ C with nt:=fn.ntmps,kh:=st.no,hd0:=E.hd,mem0:=E.mem,wk:=w,nm:=true,J:=fun k I ws=>k=E.k∧I=E.I∧ws=E.ws }:=⟨_,rfl⟩
  have hmno:=hh.mno
  have hmkh:=hh.mkh
  refine callsIn_wide.1 (callsIn_of_wp_marks (F:=Fence.wide) (n:=9) hf hbody trivial ?_ rfl)
  refine ace c C' ⟨X.P,X.Tb,fn.ntmps,X.ro,X.m,true,none,X.inl,X.gl,X.nw⟩ _ hm hTb (by rw[hC']) (by rw[hC'];exact hCro) ⟨by rw[hC'];exact hCm,fun l xs hy=>(by cases hy),fun hx=>(by cases hx),fun i b hi hb=>?_,by rw[hC'];exact hrm,fun p hp=>(by rw[hC'];exact hh.mem0 _ _ (hgl p hp)),by rw[hC'];exact hnw⟩ (by rw[hC'];exact hrm) (.inl rfl) _ _ E _ w hvc ⟨?_,fun t=>?_,?_,(fun D o hD _=>by rw[hC'] at hD;exact hD),[],fun _=>rfl,rfl,atz,by simp⟩ _ ?_
  ·rw[hC'] at hi hb ⊢
   have hi:i<C.m:=hi
   have hb:(E.hd i).bind aG=some b:=hb
   rw[hh.hd0 i (by omega)] at hb
   exact hlent i b hi hb
  ·rw[hC'];simp;omega
  ·have hget:St.get ⟨qh 0 args,st.ob,st.no,st.k⟩ t=match args[t]? with | some s=>s | none=>.any:=by
    unfold St.get
    simp only[nC,afc,if_true,atw]
    cases args[t]?<;>rfl
   rw[hget]
   cases hs:args[t]? with
   | none=>exact .any _
   | some s=>
    have ht:t<vs.size:=by rw[hsz];exact (abA.1 hs).1
    have hu:vs[t]?=some vs[t]:=aex ht
    have:(vs++Array.replicate (fn.ntmps-vs.size) undef).getD t undef=vs[t]:=by
     rw[aeC,aoC ht,hu];rfl
    rw[this]
    exact hrep t _ s hu hs
  ·rw[hC']
   exact ⟨fun i o ho=>hh.ob i o ho,fun i j o o' b ho ho'=>hh.sep i j o o' b ho ho',fun i o b ho hb=>hh.own i o b ho hb,hh.mem,fun _ _ h=>h,fun _ _ h=>.inl h,fun i hi=>hh.new i hi,hh.base,⟨hh.fr.os,hh.fr.tape,hh.fr.output,hh.fr.bsz,hh.fr.wsz,hh.fr.wos,hh.fr.isz,hh.fr.block,rfl,rfl,rfl⟩,fun _ _=>rfl,aha _,by show C.m≤st.no;omega,hh.kk⟩
  ·intro e st' E' a' w' hq hM
   have main:(match oC ⟨X.P,X.Tb,fn.ntmps,X.ro,X.m,true,none,X.inl,X.gl,X.nw⟩ st' fn.results.toList with
     | some s=>K s st'
     | none=>False) →
     LeavesInM Fence.wide 9 X.P fn a'.tmps (fun e w'=>∃v E' s st',e=.returned v∧aM E' v s∧(E.Le E'∧E'.ws=E.ws∧E'.I=E.I)∧bq C E' st' w'∧iC w w'∧K s st') a'.defers .returning w':=by
    intro hres
    split at hres
    ·rename_i s hs
     obtain ⟨v,hv,hrun⟩:=nP (X:=⟨X.P,X.Tb,fn.ntmps,X.ro,X.m,true,none,X.inl,X.gl,X.nw⟩) hM hTb hs
     obtain ⟨hknc,l,hl0,hl1,hl2,hl3⟩:=hM.marks
     have hnil:l=[]:=hl0 (by rw[hC'])
     rw[hl1]
     refine lC l w' hl2 (fun D hD=>(hl3 D hD).2) fun w1 g1 g2 g3 g4 g5=>?_
     have hnot:∀(b:Nat) (cs:Array Value) (T:TypeId) (fr:Nat×Nat),w'.heap[b]?=some (Obj.cells cs T fr)→b∉l:=fun b cs T fr hb hm=>by rw[(hl3 b hm).2] at hb;cases hb
     obtain ⟨hEk,hEI,hEw⟩:E'.k=E.k∧E'.I=E.I∧E'.ws=E.ws:=by have:=hM.heap.fr.sync;rw[hC'] at this;exact this
     have hhd:∀k,k<st.no→E'.hd k=E.hd k:=fun k hk=>by have:=hM.heap.hd0 k (by rw[hC'];exact hk);rw[hC'] at this;exact this
     have hmem:∀b cs,E.mem b=some cs→E'.mem b=some cs:=fun b cs hb=>hM.heap.mem0 b cs (by rw[hC'];exact hb)
     have hbase:E'.tm=E.tm:=by rw[hM.heap.base,hC',hh.base]
     have hlow:∀D∈l,w.heap.size≤D:=fun D hD=>by rw[hnil] at hD;cases hD
     refine ⟨v,hrun w1 (fun b cs T hb=>g5 b (hnot b _ _ _ hb)),v,E',s,st',rfl,hv,⟨⟨fun i v hi=>?_,hmem,hbase⟩,hEw,hEI⟩,?_,fun D o hD ho=>?_,hres⟩
     ·rw[hhd i (Classical.byContradiction fun hge=>by rw[hh.new i (by omega)] at hi;cases hi)];exact hi
     ·have hH:=hM.heap
      rw[hC'] at hH
      refine ⟨fun i o ho=>(hH.ob i o ho).world fun b hb=>?_,hH.sep,fun i o b ho hb=>hH.own i o b ho hb,fun b cs hb=>?_,fun b cs hb=>hmem b cs (hh.mem0 b cs hb),fun b cs hb=>?_,hH.new,hH.base,⟨g1.trans hH.fr.os,g2.trans hH.fr.tape,g3.trans hH.fr.output,hH.fr.bsz,by rw[g4];exact hH.fr.wsz,hH.fr.wos,hH.fr.isz,fun k hk hI=>?_,?_⟩,fun k hk=>?_,by have:st.no≤st'.no:=hH.mno;omega,hmkh,hH.kk⟩
      ·obtain ⟨ob,hob,hc⟩:=(hH.ob i o ho).eY hb
       exact g5 b fun hm=>by rw[(hl3 b hm).2] at hob;cases hob;cases hc
      ·obtain ⟨T,fr,hw⟩:=hH.mem b cs hb
       exact ⟨T,fr,by rw[g5 b (hnot _ _ _ _ hw)];exact hw⟩
      ·rcases hH.memnew b cs hb with h2 | h2
       ·rcases hh.memnew b cs h2 with h3 | h3
        ·exact .inl h3
        ·exact .inr ⟨h3.1,by have:=h3.2;unfold Env.mine at *;rw[hEw,hEI];exact this⟩
       ·exact .inr h2
      ·rw[g5 k fun hm=>by
        have:=hlow k hm
        have h5:=hh.fr.wsz
        rw[hEw] at hk;omega]
       exact hH.fr.block k hk hI
      ·rw[hEk,hEI,hEw];exact hh.fr.sync
      ·rw[hhd k (by omega)];exact hh.hd0 k hk
     ·have hD':=hknc D o (by rw[hC'];exact hD) ho
      rw[g5 D fun hm=>by have:=hlow D hm;have:=(abB.1 hD).1;omega]
      exact hD'
    ·exact hres.elim
   cases e with
   | normal=>exact main hq
   | ret=>exact main hq
   | _=>exact hq.elim
theorem jy {P:Program} {f:Nat} {S:Spec} (l:List Nat) (h:aL P f { S with inl:=l }):aL P f S:=h
end Go.Sx
namespace Go.Sx
open Go Go.RowKit Go.Sort
theorem air {α:Type} [Inhabited α] (enc:α→Value) (d:Array α) (c:Array Value) (k:Nat):(putCells enc 0 d c)[k]?=if k<c.size then (if k<d.size then some (enc d[k]!) else c[k]?) else none:=by
 unfold putCells
 rw[Array.getElem?_mapIdx]
 by_cases hk:k<c.size
 ·rw[if_pos hk,aex hk,aoF]
  by_cases hd:k<d.size
  ·rw[if_pos hd,if_pos ⟨afc _,by omega⟩,atw]
  ·rw[if_neg hd,if_neg (by omega)]
 ·rw[if_neg hk,aoB (by omega)];rfl
theorem yT {α:Type} [Inhabited α] (enc:α→Value) (d:Array α) (c:Array Value):(putCells enc 0 d c).size=c.size:=by simp[putCells]
theorem afY {P:Program} {f:Nat} {S:Spec} (h:aL P f S) {β:Type} (g:β→S.A) {args:β→List SV} {objs objs':β→List Ob} {res:β→PV} {pre:β→Prop}
  (ha:∀b,pre b→S.args (g b)=args b) (ho:∀b,pre b→S.objs (g b)=objs b) (ho':∀b,pre b→S.objs' (g b)=objs' b) (hr:∀b,pre b→S.res (g b)=res b) (hp:∀b,pre b→S.pre (g b)) :
  aL P f { A:=β,args:=args,objs:=objs,pre:=pre,res:=res,objs':=objs',fresh:=S.fresh,ro:=S.ro,inl:=S.inl,gl:=S.gl }:=by
 refine ⟨h.1,fun b hpre E vs w hg hh hA=>?_⟩
 have h2:=h.2 (g b) (hp b hpre) E vs w hg
 unfold Spec.post at h2 ⊢
 rw[ha b hpre,ho b hpre,ho' b hpre,hr b hpre] at h2
 exact h2 hh hA
end Go.Sx
namespace Go.Sx
open Go
def asB (X:bB) (rs:List ResultVar) (n:Nat):Exit→St→Prop:=fun e st=>
 match e with
 | .normal | .ret=>match oC X st rs with
  | some (.p _ (.val (.bool b)))=>match st.k with
   | some k=>b=true∧k=n
   | none=>b=false
  | _=>False
 | _=>False
def aqx (inl:List Nat) (P:Program) (Tb:Tab) (fn:Func) (S:ads) (a:S.A) (l:Nat):Prop:=
 (S.args l a).length.ble fn.ntmps=true ∧
  match fn.body with
  | some c=>vc c ⟨P,Tb,fn.ntmps,(S.objs l a).length,(S.objs l a).length,true,some (l,S.ys a),inl,[],false⟩ ⟨qh 0 (S.args l a),rG 0 (S.objs l a),(S.objs l a).length,some 0⟩ (asB ⟨P,Tb,fn.ntmps,(S.objs l a).length,(S.objs l a).length,true,some (l,S.ys a),inl,[],false⟩ fn.results.toList (S.ys a).length)
  | none=>False
theorem amw (inl:List Nat) {P:Program} {Tb:Tab} {f:Nat} {fn:Func} {S:ads} (hm:P.follows .mixedOrders=true) (hTb:Tb.Ok P) (hf:P.funcs[f]?=some fn) (hnm:(fn.name=="runtime.NumGoroutine")=false) (hb:fn.body.isSome=true)
  (h:∀a,S.pre a→∀l,aqx inl P Tb fn S a l):agP P f S:=by
 refine ⟨⟨fn,hf,hb,hnm⟩,fun a0 hpre l J E vs w hstab htmE hy hJ0 hh hA=>?_⟩
 obtain ⟨h1,hvc⟩:=h a0 hpre l
 cases hbody:fn.body with
 | none=>rw[hbody] at hb;cases hb
 | some c=>
  simp only[hbody] at hvc
  have hlen:(S.args l a0).length≤fn.ntmps:=aiT h1
  obtain ⟨hsz,hrep⟩:=hA
  obtain ⟨_,hEI,hEw⟩:E.k=none∧E.I=kE E.hd (S.objs l a0) (S.objs l a0).length∧E.ws=w:=hh.fr.sync
  have hnob:∀b,¬E.I b:=fun b hb=>by
   rw[hEI] at hb
   obtain ⟨k,o,k1,k2,_⟩:=hb
   have:=(abA.1 k2).1
   omega
  have hlent:∀i b,i<(S.objs l a0).length→(E.hd i).bind aG=some b→b<w.heap.size:=fun i b hi hb=>
   (hh.ob i _ (by rw[dP];exact abn hi)).gq hb
  obtain ⟨C,hC⟩:∃C:Ctx,C={ w0:=w,bor:=kE E.hd (S.objs l a0) (S.objs l a0).length,mem0:=E.mem,base:=w.heap.size,nt:=fn.ntmps,hd0:=E.hd,m:=(S.objs l a0).length,ro:=(S.objs l a0).length,kh:=(S.objs l a0).length,wk:={ w with heap:=#[] },nm:=true,J:=J,tm:=E.tm }:=⟨_,rfl⟩
  obtain ⟨E1,hE1⟩:∃E1:Env,E1={ E with ws:=w,I:=fun _=>False,k:=some 0 }:=⟨_,rfl⟩
  have hle:E.Le E1:=by rw[hE1];exact ⟨fun _ _ h=>h,fun _ _ h=>h,rfl⟩
  refine callsIn_of_wp_marks (F:=Fence.wide) (n:=9) hf hbody trivial ?_ rfl
  refine ace c C ⟨P,Tb,fn.ntmps,(S.objs l a0).length,(S.objs l a0).length,true,some (l,S.ys a0),inl,[],false⟩ _ hm hTb (by rw[hC]) (by rw[hC]) ⟨by rw[hC],fun l' xs hx=>?_,fun hx=>(by cases hx),fun i b hi hb=>?_,by rw[hC];exact aha _,fun p hp=>(by cases hp),fun hx=>(by cases hx)⟩ (by rw[hC];exact aha _) (.inl rfl) _ _ E1 _ w hvc ⟨?_,fun t=>?_,?_,fun D o hD _=>by rw[hC] at hD;simp at hD,[],fun _=>rfl,rfl,atz,by simp⟩ _ ?_
  ·cases hx
   refine ⟨⟨fun k x us I W1 hx hus hJ=>?_,by rw[hC];exact hstab,by rw[hC],by rw[hC];exact htmE⟩,rfl⟩
   have:=hy k x us I W1 hx ⟨hus.1,fun q u s hu hs=>(hus.2 q u s hu hs).mono fun b cs hb=>by
    unfold Ctx.adY at hb
    simp only[Env.m]
    rw[hC] at hb
    exact hb⟩ (by rw[hC] at hJ;exact hJ)
   rw[hC];exact this
  ·rw[hC] at hi hb ⊢
   exact hlent i b hi hb
  ·rw[hC];simp;omega
  ·have hget:St.get ⟨qh 0 (S.args l a0),rG 0 (S.objs l a0),(S.objs l a0).length,some 0⟩ t=match (S.args l a0)[t]? with | some s=>s | none=>.any:=by
    unfold St.get
    simp only[nC,afc,if_true,atw]
    cases (S.args l a0)[t]?<;>rfl
   rw[hget]
   cases hs:(S.args l a0)[t]? with
   | none=>exact .any _
   | some s=>
    have ht:t<vs.size:=by rw[hsz];exact (abA.1 hs).1
    have hu:vs[t]?=some vs[t]:=aex ht
    have:(vs++Array.replicate (fn.ntmps-vs.size) undef).getD t undef=vs[t]:=by
     rw[aeC,aoC ht,hu];rfl
    rw[this]
    exact (hrep t _ s hu hs).mono hle
  ·rw[hC,hE1]
   refine ⟨fun i o ho=>(hh.ob i o ho).mono (E:=E) (E':={ E with ws:=w,I:=fun _=>False,k:=some 0 }) ⟨fun _ _ h=>h,fun _ _ h=>h,rfl⟩,fun i j o o' b ho ho'=>hh.sep i j o o' b ho ho',fun i o b ho hb=>?_,hh.mem,fun _ _ h=>h,fun _ _ h=>.inl h,fun i hi=>hh.new i hi,hh.base,⟨rfl,rfl,rfl,aha _,aha _,⟨rfl,rfl,rfl⟩,fun b hb=>hb.elim,fun k _ _=>rfl,hJ0⟩,fun _ _=>rfl,aha _,aha _,rfl⟩
   obtain ⟨q1,q2,q3⟩:=hh.own i o b ho hb
   refine ⟨q1,q2,q3.imp (fun x=>?_) id⟩
   rcases x with x | x
   ·rw[hEw] at x;exact .inl x
   ·exact absurd x (hnob b)
  ·intro e st' E' a' w' hq hM
   have main:(match oC ⟨P,Tb,fn.ntmps,(S.objs l a0).length,(S.objs l a0).length,true,some (l,S.ys a0),inl,[],false⟩ st' fn.results.toList with
     | some (.p _ (.val (.bool b)))=>match st'.k with
      | some k=>b=true∧k=(S.ys a0).length
      | none=>b=false
     | _=>False) →
     LeavesInM Fence.wide 9 P fn a'.tmps (fun e W'=>∃I,(∀b,I b→b<W'.heap.size)∧((e=.returned (.bool true)∧J (some (S.ys a0).length) I W')∨(e=.returned (.bool false)∧J none I W'))) a'.defers .returning w':=by
    intro hres
    split at hres
    ·rename_i b0 t hs
     obtain ⟨v,hv,hrun⟩:=nP hM hTb hs
     obtain rfl:v=.bool t:=by
      cases hv with
      | p _ _ _ hp=>exact hp.aN
     obtain ⟨_,l1,hl0,hl1,hl2,hl3⟩:=hM.marks
     rw[hl1]
     refine lC l1 w' hl2 (fun D hD=>(hl3 D hD).2) fun w1 g1 g2 g3 g4 g5=>?_
     have hnot:∀(b:Nat) (cs:Array Value) (T:TypeId) (fr:Nat×Nat),w'.heap[b]?=some (Obj.cells cs T fr)→b∉l1:=fun b cs T fr hb hm=>by rw[(hl3 b hm).2] at hb;cases hb
     have hJ:J E'.k (fun b=>E'.I b∨(E'.ws.heap.size≤b∧b<w1.heap.size)) w1:=by
      have hF:=hM.heap.fr
      have hs:=hF.sync
      rw[hC] at hs
      have hwos:=hF.wos
      refine hstab _ _ _ _ _ hs (fun b hb=>.inl hb) (fun b hb=>hb.imp id (fun x=>x.1)) (fun b hb=>hb.elim (fun x=>?_) (fun x=>x.2)) ?_ ?_ ?_ (by rw[g4];exact hF.wsz) (fun b hb hn=>?_)
      ·rw[g4];exact aov (hF.isz b x) hF.wsz
      ·rw[g1,hF.os,hwos.1]
      ·rw[g2,hF.tape,hwos.2.1]
      ·rw[g3,hF.output,hwos.2.2]
      ·rw[g5 b (fun hm=>by
        have:=(hl3 b hm).1.2
        unfold Env.mine at this
        exact this.elim (fun y=>by omega) hn)]
       exact hF.block b hb hn
     refine ⟨.bool t,hrun w1 (fun b cs T hb=>g5 b (hnot b _ _ _ hb)),(fun b=>E'.I b∨(E'.ws.heap.size≤b∧b<w1.heap.size)),fun b hb=>hb.elim (fun x=>?_) (fun x=>x.2),?_⟩
     ·rw[g4];exact aov (hM.heap.fr.isz b x) hM.heap.fr.wsz
     ·have hkk:=hM.heap.kk
      rw[hkk] at hJ
      split at hres
      ·rename_i k e
       obtain ⟨rfl,rfl⟩:=hres
       rw[e] at hJ
       exact .inl ⟨rfl,hJ⟩
      ·rename_i e
       subst hres
       rw[e] at hJ
       exact .inr ⟨rfl,hJ⟩
    ·exact hres.elim
   cases e with
   | normal=>exact main hq
   | ret=>exact main hq
   | _=>exact hq.elim
end Go.Sx
namespace Go.Sx
open Go Go.RowKit
structure rz where
 A:Type
 fix:Nat
 args:A→List SV
 objs:A→List Ob
 pre:A→Prop
 res:A→SV
 objs':A→List Ob
 inl:List Nat:=[]
 gl:List (Nat×Array Value):=[]
def zq (w:World) (E:Env) (l:List Ob) (base fix:Nat):Ctx:=
 { w0:=w,bor:=fun _=>False,mem0:=E.mem,base:=base,nt:=0,hd0:=E.hd,m:=0,ro:=0,kh:=fix,wk:={ w with heap:=#[] },nm:=false,J:=fun k I ws=>k=none∧I=kE E.hd l 0∧ws=w,tm:=fun b=>base≤b }
def jN (P:Program) (f:Nat) (S:rz):Prop:=
 (∃fn,P.funcs[f]?=some fn∧fn.body.isSome=true∧(fn.name=="runtime.NumGoroutine")=false) ∧
 ∀(a:S.A),S.pre a→∀(base:Nat) (E:Env) (vs:Array Value) (w:World),(∀p∈S.gl,E.mem p.1=some p.2) →
  bq (zq w E (S.objs a) base S.fix) E (iI (S.objs a)) w→jV E vs (S.args a) →
  Calls P f vs w fun e w'=>∃v E',e=.returned v∧aM E' v (S.res a)∧bq (zq w E (S.objs a) base S.fix) E' (iI (S.objs' a)) w'
def ajM (st:St) (js:List Nat) (s c:SV):Prop:=
 match c with
 | .tup l=>match s with
  | .tup l'=>nk st js l' l
  | _=>False
 | .agg l=>match s with
  | .agg l'=>nk st js l' l
  | _=>False
 | c=>aax st js s c
def anv (js:List Nat) (c:SV):SV:=
 match c with
 | .tup l=>.tup (nA js l)
 | .agg l=>.agg (nA js l)
 | c=>pY js c
def aaM (s c:SV):Bool:=
 match c with
 | .tup l=>match s with
  | .tup l'=>jg l' l
  | _=>true
 | .agg l=>match s with
  | .agg l'=>jg l' l
  | _=>true
 | c=>jg [s] [c]
def adL:Nat→Nat→List Nat→Bool
 | 0,_,_=>true
 | n+1,k,j :: l=>(j.beq k).and (adL n (k+1) l)
 | _+1,_,[]=>false
theorem afT:∀(n k:Nat) (l:List Nat),adL n k l=true→∀q,q<n→l[q]?=some (k+q)
 | 0,_,_,_,q,h=>by omega
 | n+1,k,[],h,_,_=>by simp[adL] at h
 | n+1,k,j :: l,h,q,hq=>by
  simp only[adL,agw] at h
  have:=agf h.1
  subst this
  cases q with
  | zero=>rfl
  | succ q=>
   have:=afT n (j+1) l h.2 q (by omega)
   rw[aoz,this];congr 1;omega
def aqF (X:bB) (rs:List ResultVar) (fix:Nat) (res:SV) (os:List Ob):Exit→St→Prop:=fun e st=>
 match e with
 | .normal | .ret=>match oC X st rs with
  | some s=>∃js:List Nat,(distinct js=true∧adL fix 0 js=true∧(aaM s res).or (jM st js os)=false)∧ajM st js s res∧nL st js js os
  | none=>False
 | _=>False
def aqM (P:Program) (Tb:Tab) (fn:Func) (S:rz) (a:S.A):Prop:=
 ((S.args a).length.ble fn.ntmps=true∧S.fix.ble (S.objs a).length=true∧S.fix.ble (S.objs' a).length=true) ∧
  match fn.body with
  | some c=>vc c ⟨P,Tb,fn.ntmps,0,0,false,none,S.inl,S.gl,true⟩ (tO (S.args a) (S.objs a)) (aqF ⟨P,Tb,fn.ntmps,0,0,false,none,S.inl,S.gl,true⟩ fn.results.toList S.fix (S.res a) (S.objs' a))
  | none=>False
theorem cZ.aiL {E:Env} {w:World} {i:Nat} {o:Ob} (h:cZ E w i o) {b:Nat} (hb:E.blk i=some b):∃x,w.heap[b]?=some x∧yu x=true:=by
 cases h with
 | cells b' T vs cs hh hw _ _ _=>simp[Env.blk,hh,aG] at hb;subst hb;exact ⟨_,hw,rfl⟩
 | row T sz n f v xs u hh hw _ _ _ _=>
  rcases hw.2 with ⟨rfl,_⟩ | ⟨g,cap,cur,rfl,_,hg,_⟩
  ·simp[Env.blk,hh,aG] at hb
  ·simp[Env.blk,hh,aG] at hb;subst hb;exact ⟨_,hg,rfl⟩
 | arr b' T vs n f u hh hw _ _ _=>simp[Env.blk,hh,aG] at hb;subst hb;exact ⟨_,hw,rfl⟩
 | map r es clock kt n get hh hw _ _ _ _=>simp[Env.blk,hh,aG] at hb;subst hb;exact ⟨_,hw,rfl⟩
theorem bq.arM {C:Ctx} {E:Env} {st:St} {w:World} (h:bq C E st w) {j:Nat} {o:Ob} (ho:st.obj j=some o):j<st.no:=by
 obtain ⟨v,hv⟩:=(h.ob j o ho).ai8
 refine Classical.byContradiction fun hn=>?_
 rw[h.new j (by omega)] at hv;cases hv
theorem anj {C:Ctx} {E:Env} {st:St} {w:World} (h:bq C E st w) {js:List Nat} {t:Nat→Prop} {os:List Ob} {s c:SV} (hm:ajM st js s c) (hl:aaM s c=false) {v:Value} (hv:aM E v s) :
  aM (aR E st w js false os 0 t) v c:=by
 have many:∀(l' l:List SV) (vs:Array Value),nk st js l' l→jg l' l=false→vs.size=l'.length→(∀(k:Nat) (u:Value) (s:SV),vs[k]?=some u→l'[k]?=some s→aM E u s) →
   vs.size=l.length∧∀(k:Nat) (u:Value) (s:SV),vs[k]?=some u→l[k]?=some s→aM (aR E st w js false os 0 t) u s:=by
  intro l' l vs ha hlnd hs he
  obtain ⟨h1,h2⟩:=rE st js l' l ha
  refine ⟨by omega,fun k u c hu hc=>?_⟩
  have hk:k<l'.length:=by rw[←hs];exact (abB.1 hu).1
  have hs':l'[k]?=some l'[k]:=abn hk
  obtain ⟨q1,q2⟩:=lM l' l k
  refine qE h (h2 k _ c hs' hc) (fun hl=>?_) (fun f l0 f' m0 e1 e2 e3=>?_) (he k u _ hu hs')
  ·have:=q1 _ c hs' hc hl;rw[hlnd] at this;cases this
  ·have:=q2 f l0 f' m0 (by rw[hs',e1]) (by rw[hc,e2]) e3;rw[hlnd] at this;cases this
 have one:aax st js s c→jg [s] [c]=false→aM (aR E st w js false os 0 t) v c:=by
  intro ha hlnd
  obtain ⟨q1,q2⟩:=lM [s] [c] 0
  refine qE h ha (fun hl=>?_) (fun f l0 f' m0 e1 e2 e3=>?_) hv
  ·have:=q1 s c rfl rfl hl;rw[hlnd] at this;cases this
  ·have:=q2 f l0 f' m0 (by rw[e1];rfl) (by rw[e2];rfl) e3;rw[hlnd] at this;cases this
 unfold ajM at hm
 unfold aaM at hl
 split at hm
 ·split at hm
  ·simp only at hl
   cases hv with
   | tup vs l hs he=>
    obtain ⟨g1,g2⟩:=many _ _ vs hm hl hs he
    exact .tup vs _ g1 g2
  ·exact hm.elim
 ·split at hm
  ·simp only at hl
   cases hv with
   | agg vs l hs h1 he=>
    obtain ⟨g1,g2⟩:=many _ _ vs hm hl hs he
    exact .agg vs _ g1 h1 g2
  ·exact hm.elim
 ·rename_i n1 n2
  have hl':jg [s] [c]=false:=by
   revert hl
   split
   ·exact absurd rfl (n1 _)
   ·exact absurd rfl (n2 _)
   ·exact id
  exact one hm hl'
theorem amc {C:Ctx} {E:Env} {st:St} {w:World} (h:bq C E st w) {js:List Nat} (hd:distinct js=true) {os:List Ob} (hm:nL st js js os) (hl:jM st js os=false) (hge:nD C.m js=true) {fix:Nat} (hfix:fix≤os.length) :
  bq (zq w (aR E st w js false os 0 fun b=>C.base≤b) os C.base fix) (aR E st w js false os 0 fun b=>C.base≤b) (iI os) w:=by
 have h0:=qU h hd (lend:=false) (ro:=0) (t:=fun b=>C.base≤b) hm (fun e=>by rw[hl] at e;cases e)
 obtain ⟨hlen,hget⟩:=mJ st js js os hm
 refine ⟨h0.ob,h0.sep,fun k o b ho hb=>?_,h0.mem,h0.mem0,fun b cs hb=>.inl hb,h0.new,rfl,⟨rfl,rfl,rfl,aln h.fr.bsz h.fr.wsz,aha _,⟨rfl,rfl,rfl⟩,h0.fr.isz,fun _ _ _=>rfl,⟨rfl,rfl,rfl⟩⟩,fun _ _=>rfl,hfix,afc _,rfl⟩
 obtain ⟨g1,g2,g3⟩:=h0.own k o b ho hb
 have g3:=g3.resolve_right (fun x=>alJ _ x.2)
 rw[dP] at ho
 have hk:k<js.length:=by rw[hlen];exact (abA.1 ho).1
 have hj:js[k]?=some js[k]:=abn hk
 have hM:=hget k _ o hj ho
 have hob:∃o',st.obj js[k]=some o':=by
  unfold obM at hM
  cases hst:st.obj js[k] with
  | some o'=>exact ⟨o',rfl⟩
  | none=>rw[hst] at hM;split at hM<;>exact hM.elim
 obtain ⟨o',ho'⟩:=hob
 have hbj:E.blk js[k]=some b:=by
  have:(aR E st w js false os 0 fun b=>C.base≤b).blk k=E.blk js[k]:=by simp[Env.blk,aR,hj]
  rw[←this];exact hb
 have hbase:=(h.own _ o' b ho' hbj).2.1
 have:=oM js hge k _ hj
 exact ⟨g1,.inl (hbase.resolve_right (fun x=>by omega)),.inl g3⟩
noncomputable def ad4 (E:Env) (st:St) (w:World) (js:List Nat) (os:List Ob):Env:={ aR E st w js false os 0 E.tm with ws:=E.ws,I:=E.I,k:=E.k }
theorem acN (E:Env) (st:St) (w:World) (js:List Nat) (os:List Ob):(aR E st w js false os 0 E.tm).Le (ad4 E st w js os):=⟨fun _ _ h=>h,fun _ _ h=>h,rfl⟩
theorem anN {C:Ctx} {E:Env} {st:St} {w:World} (h:bq C E st w) (hm0:C.m=0) {js:List Nat} (hd:distinct js=true) (hfix:∀k,k<C.kh→js[k]?=some k) {os:List Ob} (hm:nL st js js os) (hl:jM st js os=false) (hlen':C.kh≤os.length)
  (hk:E.k=none) {w1:World} (hlow:∀k,k<E.ws.heap.size→¬E.I k→w1.heap[k]?=w.heap[k]?) (hos:w1.os=w.os) (htape:w1.tape=w.tape) (hout:w1.output=w.output) (hsz:w1.heap.size=w.heap.size) (hcells:∀(b:Nat) (o:Obj),w.heap[b]?=some o→yu o=true→w1.heap[b]?=w.heap[b]?) :
  bq C (ad4 E st w js os) (iI os) w1:=by
 have h0:=qU h hd (lend:=false) (ro:=0) (t:=E.tm) hm (fun e=>by rw[hl] at e;cases e)
 obtain ⟨hlen,hget⟩:=mJ st js js os hm
 have hle:=acN E st w js os
 have memback:∀b cs,(aR E st w js false os 0 E.tm).mem b=some cs→E.mem b=some cs:=fun b cs hb=>lS hb
 refine ⟨fun k o ho=>?_,h0.sep,fun k o b ho hb=>?_,fun b cs hb=>?_,fun b cs hb=>fC (os:=os) (ro:=0) (t:=E.tm) (h.mem0 b cs hb),fun b cs hb=>?_,h0.new,h.base,⟨hos.trans h.fr.os,htape.trans h.fr.tape,hout.trans h.fr.output,h.fr.bsz,by show E.ws.heap.size≤w1.heap.size;rw[hsz];exact h.fr.wsz,h.fr.wos,h.fr.isz,fun k hk' hI=>?_,h.fr.sync⟩,fun k hk'=>?_,?_,h.mkh,hk⟩
 ·refine ((h0.ob k o ho).mono hle).world fun b hb=>?_
  obtain ⟨x,hx,hxc⟩:=(h0.ob k o ho).aiL (b:=b) hb
  exact hcells b x hx hxc
 ·obtain ⟨g1,g2,g3⟩:=h0.own k o b ho hb
  rw[dP] at ho
  have hk:k<js.length:=by rw[hlen];exact (abA.1 ho).1
  have hj:js[k]?=some js[k]:=abn hk
  have hM:=hget k _ o hj ho
  have hob:∃o',st.obj js[k]=some o':=by
   unfold obM at hM
   cases hst:st.obj js[k] with
   | some o'=>exact ⟨o',rfl⟩
   | none=>rw[hst] at hM;split at hM<;>exact hM.elim
  obtain ⟨o',ho'⟩:=hob
  have hbj:E.blk js[k]=some b:=by
   have:(aR E st w js false os 0 E.tm).blk k=E.blk js[k]:=by simp[Env.blk,aR,hj]
   rw[←this];exact hb
  obtain ⟨q1,q2,q3⟩:=h.own _ o' b ho' hbj
  refine ⟨g1,.inl (q2.resolve_right (fun x=>by omega)),.inl (q3.resolve_right (fun x=>by omega))⟩
 ·obtain ⟨T,fr,hw⟩:=h.mem b cs (memback b cs hb)
  exact ⟨T,fr,by rw[hcells b _ hw rfl];exact hw⟩
 ·exact h.memnew b cs (memback b cs hb)
 ·rw[hlow k hk' hI];exact h.fr.block k hk' hI
 ·show (js[k]?).bind E.hd=C.hd0 k
  rw[hfix k hk']
  exact h.hd0 k hk'
 ·show C.kh≤os.length
  exact hlen'
theorem o8 {P:Program} {Tb:Tab} {f:Nat} {fn:Func} {S:rz} (hm:P.follows .mixedOrders=true) (hTb:Tb.Ok P) (hf:P.funcs[f]?=some fn) (hnm:(fn.name=="runtime.NumGoroutine")=false) (hb:fn.body.isSome=true)
  (h:∀a,S.pre a→aqM P Tb fn S a):jN P f S:=by
 refine ⟨⟨fn,hf,hb,hnm⟩,fun a0 hpre base E vs w hgl hh hA=>?_⟩
 obtain ⟨⟨h1,h2,h3⟩,hvc⟩:=h a0 hpre
 cases hbody:fn.body with
 | none=>rw[hbody] at hb;cases hb
 | some c=>
  simp only[hbody] at hvc
  have hfix:S.fix≤(S.objs a0).length:=aiT h2
  have hfix':S.fix≤(S.objs' a0).length:=aiT h3
  have hlen:(S.args a0).length≤fn.ntmps:=aiT h1
  obtain ⟨hsz,hrep⟩:=hA
  refine callsIn_wide.1 (callsIn_of_wp_marks (F:=Fence.wide) (n:=9) hf hbody trivial ?_ rfl)
  refine ace c { zq w E (S.objs a0) base S.fix with nt:=fn.ntmps } ⟨P,Tb,fn.ntmps,0,0,false,none,S.inl,S.gl,true⟩ _ hm hTb rfl rfl ⟨rfl,fun l xs hy=>(by cases hy),fun _=>⟨rfl,rfl⟩,fun i b hi hb=>absurd hi (alJ _),aha _,hgl,fun _ _ hb=>hb⟩ (aha _) (.inl rfl) _ _ E _ w hvc ⟨?_,fun t=>?_,?_,(fun D o hD _=>by simp[zq] at hD),[],fun _=>rfl,rfl,atz,by simp⟩ _ ?_
  ·simp;omega
  ·have hget:(tO (S.args a0) (S.objs a0)).get t=match (S.args a0)[t]? with | some s=>s | none=>.any:=by
    unfold tO St.get
    simp only[nC,afc,if_true,atw]
    cases (S.args a0)[t]?<;>rfl
   rw[hget]
   cases hs:(S.args a0)[t]? with
   | none=>exact .any _
   | some s=>
    have ht:t<vs.size:=by rw[hsz];exact (abA.1 hs).1
    have hu:vs[t]?=some vs[t]:=aex ht
    have:(vs++Array.replicate (fn.ntmps-vs.size) undef).getD t undef=vs[t]:=by
     rw[aeC,aoC ht,hu];rfl
    rw[this]
    exact hrep t _ s hu hs
  ·exact ⟨fun i o ho=>hh.ob i o ho,fun i j o o' b ho ho'=>hh.sep i j o o' b ho ho',fun i o b ho hb=>hh.own i o b ho hb,hh.mem,hh.mem0,hh.memnew,fun i hi=>hh.new i hi,hh.base,⟨hh.fr.os,hh.fr.tape,hh.fr.output,hh.fr.bsz,hh.fr.wsz,hh.fr.wos,hh.fr.isz,hh.fr.block,hh.fr.sync⟩,hh.hd0,hh.mno,hh.mkh,hh.kk⟩
  ·intro e st' E' a' w' hq hM
   have main:(match oC ⟨P,Tb,fn.ntmps,0,0,false,none,S.inl,S.gl,true⟩ st' fn.results.toList with
     | some s=>∃js:List Nat,(distinct js=true∧adL S.fix 0 js=true∧(aaM s (S.res a0)).or (jM st' js (S.objs' a0))=false)∧ajM st' js s (S.res a0)∧nL st' js js (S.objs' a0)
     | none=>False) →
     LeavesInM Fence.wide 9 P fn a'.tmps (fun e w'=>∃v E',e=.returned v∧aM E' v (S.res a0)∧bq (zq w E (S.objs a0) base S.fix) E' (iI (S.objs' a0)) w') a'.defers .returning w':=by
    intro hres
    split at hres
    ·rename_i s hs
     obtain ⟨js,⟨hd,hfj,hlnd⟩,hr,hobs⟩:=hres
     obtain ⟨hl1',hl2'⟩:=aup.1 hlnd
     obtain ⟨v,hv,hrun⟩:=nP hM hTb hs
     obtain ⟨_,l,_,hl1,hl2,hl3⟩:=hM.marks
     rw[hl1]
     refine lC l w' hl2 (fun D hD=>(hl3 D hD).2) fun w1 g1 g2 g3 g4 g5=>?_
     have hnot:∀(b:Nat) (o:Obj),w'.heap[b]?=some o→yu o=true→b∉l:=fun b o hb ho hm=>by rw[(hl3 b hm).2] at hb;cases hb;cases ho
     obtain ⟨hEk,hEI,hEw⟩:E'.k=none∧E'.I=kE E.hd (S.objs a0) 0∧E'.ws=w:=hM.heap.fr.sync
     have hG:=anN hM.heap rfl hd (fun k hk=>by have:=afT S.fix 0 js hfj k hk;rw[aiF] at this;exact this) hobs hl2' hfix' hEk (w1:=w1) (fun k hk hI=>g5 k fun hm=>?_) g1 g2 g3 g4 (fun b o hb ho=>g5 b (hnot b _ hb ho))
     ·refine ⟨v,hrun w1 (fun b cs T hb=>g5 b (hnot b _ hb rfl)),v,ad4 E' st' w' js (S.objs' a0),rfl,?_,?_⟩
      ·exact (anj hM.heap (t:=E'.tm) (os:=S.objs' a0) hr hl1' hv).mono (acN _ _ _ _ _)
      ·exact ⟨hG.ob,hG.sep,hG.own,hG.mem,hG.mem0,hG.memnew,hG.new,hG.base,⟨hG.fr.os,hG.fr.tape,hG.fr.output,hG.fr.bsz,hG.fr.wsz,hG.fr.wos,hG.fr.isz,hG.fr.block,hG.fr.sync⟩,hG.hd0,hG.mno,hG.mkh,hG.kk⟩
     ·rcases (hl3 k hm).1.2 with hx | hx
      ·have:E'.ws.heap.size≤k:=hx;omega
      ·exact hI hx
    ·exact hres.elim
   cases e with
   | normal=>exact main hq
   | ret=>exact main hq
   | _=>exact hq.elim
def aea:Nat→List Ob→List Nat
 | _,[]=>[]
 | n,_ :: l=>n :: aea (n+1) l
def adM:Nat→List Ob→Nat
 | n,[]=>n
 | n,_ :: l=>adM (n+1) l
def vw:Nat→List Ob→List Ob
 | 0,l=>l
 | _+1,[]=>[]
 | n+1,_ :: l=>vw n l
def aaW:Nat→List Nat→List Nat→List Nat
 | 0,_,l=>l
 | _+1,[],l=>l
 | n+1,j :: js,l=>j :: aaW n js l
def pX (no fix:Nat) (js:List Nat) (os:List Ob):List Nat:=aaW fix js (aea no (vw fix os))
def rT (st:St) (js:List Nat) (fix:Nat) (os:List Ob):St:=⟨st.fr,ku (pX st.no fix js os) (pX st.no fix js os) os (mW js st.ob),adM st.no (vw fix os),st.k⟩
theorem abU:∀(n:Nat) (l:List Ob),vw n l=l.drop n
 | 0,l=>by rw[vw];rfl
 | n+1,[]=>by rw[vw];rfl
 | n+1,_ :: l=>by rw[vw,abU n l];rfl
theorem afZ:∀(l:List Ob) (n k:Nat),(aea n l)[k]?=if k<l.length then some (n+k) else none
 | [],n,k=>by simp[aea]
 | _ :: l,n,0=>by simp[aea]
 | _ :: l,n,k+1=>by
  rw[aea,aoz,afZ l (n+1) k,ai1]
  by_cases h:k<l.length
  ·rw[if_pos h,if_pos (by omega)];congr 1;omega
  ·rw[if_neg h,if_neg (by omega)]
theorem aje:∀(l:List Ob) (n:Nat),adM n l=n+l.length
 | [],n=>by simp[adM]
 | _ :: l,n=>by rw[adM,aje l (n+1),ai1];omega
theorem aep:∀(n:Nat) (js l:List Nat) (k:Nat),n≤js.length→(aaW n js l)[k]?=if k<n then js[k]? else l[k-n]?
 | 0,_,l,k,_=>by simp[aaW]
 | n+1,[],l,k,h=>by simp at h
 | n+1,j :: js,l,0,h=>by simp[aaW]
 | n+1,j :: js,l,k+1,h=>by
  rw[aaW,aoz,aep n js l k (by simpa using h),aoz,show k+1-(n+1)=k-n by omega]
  by_cases hk:k<n
  ·rw[if_pos hk,if_pos (by omega)]
  ·rw[if_neg hk,if_neg (by omega)]
theorem x9 {no fix:Nat} {js:List Nat} {os:List Ob} (h:fix≤js.length) (h2:fix≤os.length) (k:Nat):(pX no fix js os)[k]?=if k<fix then js[k]? else if k<os.length then some (no+(k-fix)) else none:=by
 unfold pX
 rw[aep _ _ _ _ h,afZ,abU,arP]
 by_cases hk:k<fix
 ·rw[if_pos hk,if_pos hk]
 ·rw[if_neg hk,if_neg hk]
  by_cases hk2:k<os.length
  ·rw[if_pos hk2,if_pos (by omega)]
  ·rw[if_neg hk2,if_neg (by omega)]
theorem afo {no fix:Nat} {js:List Nat} {os:List Ob} (h:fix≤js.length) (h2:fix≤os.length):(pX no fix js os).length=os.length:=by
 have h1:(pX no fix js os)[os.length]?=none:=by rw[x9 h h2,if_neg (by omega),if_neg (by omega)]
 have h3:∀k,k<os.length→∃x,(pX no fix js os)[k]?=some x:=fun k hk=>by
  rw[x9 h h2]
  by_cases hkf:k<fix
  ·rw[if_pos hkf];exact ⟨_,abn (by omega)⟩
  ·rw[if_neg hkf,if_pos hk];exact ⟨_,rfl⟩
 have h4:=List.getElem?_eq_none_iff.1 h1
 refine Nat.le_antisymm h4 ?_
 rcases aq0 os.length with h5 | h5
 ·omega
 ·obtain ⟨x,hx⟩:=h3 (os.length-1) (by omega)
  have:=(abA.1 hx).1
  omega
theorem abg:∀(l:List Nat),(∀k k' i:Nat,l[k]?=some i→l[k']?=some i→k=k')→distinct l=true
 | [],_=>rfl
 | j :: l,h=>by
  simp only[distinct,agw,aoW]
  refine ⟨?_,abg l fun k k' i h1 h2=>by have:=h (k+1) (k'+1) i (by simpa using h1) (by simpa using h2);omega⟩
  cases hc:gX j l with
  | false=>rfl
  | true=>
   obtain ⟨q,hq⟩:=asD ((eZ j l).1 hc)
   have:=h 0 (q+1) j rfl (by simpa using hq)
   omega
noncomputable def ajm (E E' : Env) (no fix n : Nat) : Env :=
  { hd := fun k => if k < no then E.hd k else if k < no + n then E'.hd (k - no + fix) else none
    mem := E'.mem, tm := E.tm, ws := E.ws, I := E.I, k := E.k }
theorem acd {E' E2:Env} {js:List Nat} (htm:∀b,E'.tm b→E2.tm b) (hmem:∀b cs,E'.mem b=some cs→E2.mem b=some cs) (hhd:∀k j,js[k]?=some j→E2.hd j=E'.hd k) {v:Value} {s:SV} (h:aM E' v s):aM E2 v (pY js s):=by
 cases h with
 | p fr v d hp=>
  refine .p fr v d (hp.mono fun b cs hm=>?_)
  cases fr with
  | false=>exact hmem b cs hm
  | true=>
   simp only[Env.m] at hm ⊢
   split at hm
   ·rename_i hle
    rw[if_pos (htm b hle)]
    exact hmem b cs hm
   ·cases hm
 | el i sz j off b n cap hh=>exact .any _
 | sub i sz lo n b n' cap c a hh hle hc ha=>exact .any _
 | full a n f h=>exact .any _
 | asl i N lo n b c a hh hle hc ha=>exact .any _
 | mp i r hh=>
  simp only[pY,d9]
  cases hj:js[i]? with
  | none=>exact .any _
  | some j=>exact .mp _ r ((hhd i j hj).trans hh)
 | own i off b hh=>
  simp only[pY,d9]
  cases hj:js[i]? with
  | none=>exact .any _
  | some j=>exact .own j off b ((hhd i j hj).trans hh)
 | row i v hh hs=>
  simp only[pY,d9]
  cases hj:js[i]? with
  | none=>exact .any _
  | some j=>exact .row j _ ((hhd i j hj).trans hh) hs
 | agg=>exact .any _
 | tup=>exact .any _
 | fn=>exact .any _
 | any=>exact .any _
theorem ang {E' E2:Env} {js:List Nat} (htm:∀b,E'.tm b→E2.tm b) (hmem:∀b cs,E'.mem b=some cs→E2.mem b=some cs) (hhd:∀k j,js[k]?=some j→E2.hd j=E'.hd k) {v:Value} {s:SV} (h:aM E' v s):aM E2 v (anv js s):=by
 have many:∀(vs:Array Value) (l:List SV),vs.size=l.length→(∀(k:Nat) (u:Value) (s:SV),vs[k]?=some u→l[k]?=some s→aM E' u s) →
   vs.size=(nA js l).length∧∀(k:Nat) (u:Value) (s:SV),vs[k]?=some u→(nA js l)[k]?=some s→aM E2 u s:=by
  intro vs l hl he
  refine ⟨by rw[o9];exact hl,fun k u s hu hs=>?_⟩
  rw[u6] at hs
  cases hc:l[k]? with
  | none=>simp[hc] at hs
  | some c=>simp[hc] at hs;subst hs;exact acd htm hmem hhd (he k u c hu hc)
 unfold anv
 split
 ·cases h with
  | tup vs l hl he=>obtain ⟨g1,g2⟩:=many vs _ hl he;exact .tup vs _ g1 g2
 ·cases h with
  | agg vs l hl h1 he=>obtain ⟨g1,g2⟩:=many vs _ hl he;exact .agg vs _ g1 h1 g2
 ·exact acd htm hmem hhd h
theorem eF {X:bB} {f:Nat} {args:List SV} {st:St} {K:SV→St→Prop} {S:rz} (hS:jN X.P f S) (a:S.A) (js:List Nat)
  (hc:distinct js=true∧nD X.m js=true∧S.fix.ble (S.objs a).length=true∧S.fix.ble (S.objs' a).length=true∧X.nw=true∧(jg args (S.args a)).or (jM st js (S.objs a))=false)
  (hgls:S.gl=[]∨S.gl=X.gl) (hargs:nk st js args (S.args a)) (hobs:nL st js js (S.objs a)) (hpre:S.pre a)
  (hK:K (anv (pX st.no S.fix js (S.objs' a)) (S.res a)) (rT st js S.fix (S.objs' a))):aaO X f args st K:=by
 obtain ⟨hfn,hS⟩:=hS
 obtain ⟨hd,hge,hf1,hf2,hnw,hlb⟩:=hc
 have hf1:=aiT hf1
 have hf2:=aiT hf2
 obtain ⟨hl1,hl2⟩:=aup.1 hlb
 refine ⟨hfn,fun C E vs w hCm hCro hrm hlent hgl hnw' hh hA=>?_⟩
 have htr:=hnw' hnw
 rw[←hCm] at hge
 obtain ⟨hol,hget⟩:=mJ st js js _ hobs
 have hheap:=amc hh hd hobs hl2 hge hf1
 obtain ⟨Ec,hEc⟩:∃Ec,Ec=aR E st w js false (S.objs a) 0 (fun b=>C.base≤b):=⟨_,rfl⟩
 obtain ⟨hal,hag⟩:=rE st js _ _ hargs
 obtain ⟨hsz,hvs⟩:=hA
 have hA':jV Ec vs (S.args a):=by
  refine ⟨by omega,fun k u c hu hc=>?_⟩
  have hka:k<args.length:=by rw[←hsz];exact (abB.1 hu).1
  have hs:args[k]?=some args[k]:=abn hka
  obtain ⟨q1,q2⟩:=lM args (S.args a) k
  rw[hEc]
  exact qE hh (hag k _ c hs hc) (fun hl=>by have:=q1 _ c hs hc hl;rw[hl1] at this;cases this)
   (fun f l f' m e1 e2 e3=>by have:=q2 f l f' m (by rw[hs,e1]) (by rw[hc,e2]) e3;rw[hl1] at this;cases this) (hvs k u _ hu hs)
 rw[←hEc] at hheap
 have hmemc:∀b cs,E.mem b=some cs→Ec.mem b=some cs:=fun b cs hb=>by rw[hEc];exact fC hb
 have hmemb:∀b cs,Ec.mem b=some cs→E.mem b=some cs:=fun b cs hb=>by rw[hEc] at hb;exact lS hb
 have hhdc:∀k,Ec.hd k=(js[k]?).bind E.hd:=fun k=>by rw[hEc];rfl
 refine (hS a hpre C.base Ec vs w (fun p hp=>hmemc _ _ (hh.mem0 _ _ (hgl p (hgls.elim (fun e=>by rw[e] at hp;cases hp) (fun e=>e▸hp))))) hheap hA').mono ?_
 rintro e w' ⟨v,E',rfl,hv,h'⟩
 obtain ⟨hEk,hEI,hEw⟩:E'.k=none∧E'.I=kE Ec.hd (S.objs a) 0∧E'.ws=w:=h'.fr.sync
 have hob:∀(k j:Nat),js[k]?=some j→∃o o',(S.objs a)[k]?=some o∧st.obj j=some o':=by
  intro k j hj
  have hk:k<(S.objs a).length:=by rw[←hol];exact (abA.1 hj).1
  have ho:=abn hk
  have hM:=hget k j _ hj ho
  unfold obM at hM
  cases hst:st.obj j with
  | some o'=>exact ⟨_,o',ho,rfl⟩
  | none=>rw[hst] at hM;split at hM<;>exact hM.elim
 have blkc:∀k j:Nat,js[k]?=some j→Ec.blk k=E.blk j:=fun k j hj=>by simp[Env.blk,hhdc,hj]
 -- given blocks
 have given:∀b,E'.I b→∃(k j:Nat) (o:Ob),js[k]?=some j∧st.obj j=some o∧E.blk j=some b:=by
  intro b hb
  rw[hEI] at hb
  obtain ⟨k,o,_,ho,hbk⟩:=hb
  have hk:k<js.length:=by rw[hol];exact (abA.1 ho).1
  have hj:js[k]?=some js[k]:=abn hk
  obtain ⟨_,o',_,ho'⟩:=hob k _ hj
  exact ⟨k,_,o',hj,ho',by rw[←blkc k _ hj];exact hbk⟩
 have givenB:∀b,E'.I b→C.base≤b∧E.mine b∧b<w.heap.size:=by
  intro b hb
  obtain ⟨k,j,o,hj,ho,hbj⟩:=given b hb
  have:=oM js hge k j hj
  obtain ⟨_,q2,q3⟩:=hh.own j o b ho hbj
  exact ⟨q2.resolve_right (fun x=>by omega),q3.resolve_right (fun x=>by omega),(hh.ob j o ho).gq hbj⟩
 have keep:∀b,b<w.heap.size→¬E'.I b→w'.heap[b]?=w.heap[b]?:=fun b hb hn=>by
  have:=h'.fr.block b (by rw[hEw];exact hb) hn
  rw[hEw] at this;exact this
 have hwsz:w.heap.size≤w'.heap.size:=by have:=h'.fr.wsz;rw[hEw] at this;exact this
 have mineB:∀b,E'.mine b→C.base≤b∧E.mine b:=by
  rintro b (hb | hb)
  ·rw[hEw] at hb
   exact ⟨aln (aln hh.fr.bsz hh.fr.wsz) hb,.inl (aln hh.fr.wsz hb)⟩
  ·exact ⟨(givenB b hb).1,(givenB b hb).2.1⟩
 have hfj:S.fix≤js.length:=by omega
 obtain ⟨q,hq⟩:∃q,q=(S.objs' a).length-S.fix:=⟨_,rfl⟩
 obtain ⟨J,hJ⟩:∃J,J=pX st.no S.fix js (S.objs' a):=⟨_,rfl⟩
 have hJget:∀k,J[k]?=if k<S.fix then js[k]? else if k<(S.objs' a).length then some (st.no+(k-S.fix)) else none:=fun k=>by rw[hJ];exact x9 hfj hf2 k
 have hJlen:J.length=(S.objs' a).length:=by rw[hJ];exact afo hfj hf2
 have jlt:∀k j:Nat,js[k]?=some j→j<st.no:=by
  intro k j hj
  obtain ⟨_,o',_,ho'⟩:=hob k j hj
  exact hh.arM ho'
 have hJd:∀k k' i:Nat,J[k]?=some i→J[k']?=some i→k=k':=by
  intro k k' i h1 h2
  rw[hJget] at h1 h2
  by_cases c1:k<S.fix
  ·rw[if_pos c1] at h1
   by_cases c2:k'<S.fix
   ·rw[if_pos c2] at h2;exact uJ js hd k k' i h1 h2
   ·rw[if_neg c2] at h2
    have:=jlt _ _ h1
    split at h2
    ·cases h2;omega
    ·cases h2
  ·rw[if_neg c1] at h1
   by_cases c2:k'<S.fix
   ·rw[if_pos c2] at h2
    have:=jlt _ _ h2
    split at h1
    ·cases h1;omega
    ·cases h1
   ·rw[if_neg c2] at h2
    split at h1
    ·split at h2
     ·cases h1;have:=Option.some.inj h2;omega
     ·cases h2
    ·cases h1
 have hJdist:=abg J hJd
 obtain ⟨E2,hE2⟩:∃E2,E2=ajm E E' st.no S.fix q:=⟨_,rfl⟩
 have hhd2:∀k j:Nat,J[k]?=some j→E2.hd j=E'.hd k:=by
  intro k j hj
  rw[hJget] at hj
  rw[hE2]
  by_cases c1:k<S.fix
  ·rw[if_pos c1] at hj
   have:=jlt _ _ hj
   show (if j<st.no then E.hd j else _)=_
   rw[if_pos this]
   have h0:=h'.hd0 k c1
   rw[h0]
   show E.hd j=Ec.hd k
   rw[hhdc,hj];rfl
  ·rw[if_neg c1] at hj
   split at hj
   ·rename_i c2
    cases hj
    show (if st.no+(k-S.fix)<st.no then _ else if st.no+(k-S.fix)<st.no+q then E'.hd (st.no+(k-S.fix)-st.no+S.fix) else none)=_
    rw[if_neg (by omega),if_pos (by omega),show st.no+(k-S.fix)-st.no+S.fix=k by omega]
   ·cases hj
 have hle:E.Le E2:=by
  rw[hE2]
  refine ⟨fun i u hi=>?_,fun b cs hb=>h'.mem0 b cs (hmemc b cs hb),rfl⟩
  have:i<st.no:=by
   refine Classical.byContradiction fun hn=>?_
   rw[hh.new i (by omega)] at hi;cases hi
  show (if i<st.no then E.hd i else _)=_
  rw[if_pos this];exact hi
 have htm:∀b,E'.tm b→E2.tm b:=fun b hb=>by
  rw[h'.base] at hb
  rw[hE2]
  show E.tm b
  rw[hh.base]
  exact htr b hb
 have hmem2:∀b cs,E'.mem b=some cs→E2.mem b=some cs:=fun b cs hb=>by rw[hE2];exact hb
 have hcnt:(rT st js S.fix (S.objs' a)).no=st.no+q:=by
  show adM st.no (vw S.fix (S.objs' a))=_
  rw[aje,abU,arP,hq]
 -- the objects now
 have look2:∀j,(∀p:Nat,J[p]?=some j→(rT st js S.fix (S.objs' a)).obj j=((S.objs' a)[p]?).map (sQ J))∧(j∉J→(rT st js S.fix (S.objs' a)).obj j=if j∈js then none else st.obj j):=by
  intro j
  obtain ⟨h1,h2⟩:=ru J J (S.objs' a) (mW js st.ob) hJdist hJlen j
  refine ⟨fun p hp=>?_,fun hj=>?_⟩
  ·unfold St.obj rT;simp only;rw[←hJ,h1 p hp]
   cases (S.objs' a)[p]?<;>rfl
  ·unfold St.obj rT;simp only;rw[←hJ,h2 hj,nW]
   by_cases hin:j∈js
   ·rw[if_pos hin,if_pos hin]
   ·rw[if_neg hin,if_neg hin]
 have cases2:∀j o,(rT st js S.fix (S.objs' a)).obj j=some o→(st.obj j=some o∧j∉js∧j∉J)∨∃(p:Nat) (o0:Ob),J[p]?=some j∧(S.objs' a)[p]?=some o0∧o=sQ J o0:=by
  intro j o ho
  by_cases hj:j∈J
  ·obtain ⟨p,hp⟩:=asD hj
   rw[(look2 j).1 p hp] at ho
   cases h0:(S.objs' a)[p]? with
   | none=>simp[h0] at ho
   | some o0=>simp[h0] at ho;exact .inr ⟨p,o0,hp,h0,ho.symm⟩
  ·rw[(look2 j).2 hj] at ho
   split at ho
   ·cases ho
   ·rename_i hn;exact .inl ⟨ho,hn,hj⟩
 have blk2:∀k j:Nat,J[k]?=some j→E2.blk j=E'.blk k:=fun k j hj=>by simp[Env.blk,hhd2 k j hj]
 have oldlt:∀j o,st.obj j=some o→j<st.no:=fun j o ho=>hh.arM ho
 have blkO:∀j,j<st.no→E2.blk j=E.blk j:=fun j hj=>by
  rw[hE2]
  simp[Env.blk,ajm,hj]
 have notGiven:∀j o b,st.obj j=some o→j∉js→E.blk j=some b→¬E'.I b:=by
  intro j o b ho hn hb hI
  obtain ⟨k,j',o',hj',ho',hb'⟩:=given b hI
  have:=hh.sep j j' o o' b ho ho' hb hb'
  subst this
  exact hn (adh hj')
 have newB:∀k o b,(S.objs' a)[k]?=some o→E'.blk k=some b→E'.mem b=none∧E'.mine b:=by
  intro k o b ho hb
  obtain ⟨q1,_,q3⟩:=h'.own k o b (by rw[dP];exact ho) hb
  exact ⟨q1,q3.resolve_right (fun x=>alJ _ x.2)⟩
 have hG:bq C E2 (rT st js S.fix (S.objs' a)) w':=by
  refine ⟨fun j o ho=>?_,fun i j o o' b ho ho' hb hb'=>?_,fun j o b ho hb=>?_,fun b cs hb=>?_,fun b cs hb=>hle.mem _ _ (hh.mem0 b cs hb),fun b cs hb=>?_,fun i hi=>?_,?_,?_,fun k hk=>?_,?_,hh.mkh,?_⟩
  ·rcases cases2 j o ho with ⟨h1,h2,_⟩ | ⟨p,o0,hp,h0,rfl⟩
   ·refine ((hh.ob j o h1).mono hle).world fun b hb=>?_
    rw[blkO j (oldlt j o h1)] at hb
    exact keep b ((hh.ob j o h1).gq hb) (notGiven j o b h1 h2 hb)
   ·have hrep:=h'.ob p o0 (by rw[dP];exact h0)
    have hhk:=hhd2 p j hp
    cases hrep with
    | cells b T vs cs hh' hw hl h1' he=>
     exact .cells b T vs _ (hhk.trans hh') hw (by rw[o9];exact hl) h1' fun k u s hu hs=>by
      rw[u6] at hs
      cases hc:cs[k]? with
      | none=>simp[hc] at hs
      | some c=>simp[hc] at hs;subst hs;exact acd htm hmem2 hhd2 (he k u c hu hc)
    | row T sz n f v xs u hh' hw hmax hl hc he=>exact .row T sz n f v xs u (hhk.trans hh') hw hmax hl hc fun j k s hj hs=>(he j k s hj hs).mono hmem2
    | arr b T vs n f u hh' hw hs hc he=>exact .arr b T vs n f u (hhk.trans hh') hw hs hc fun k hk=>(he k hk).mono hmem2
    | map r es clock kt n get hh' hw h1 h2 h3 h4=>exact .map r es clock kt n get (hhk.trans hh') hw h1 h2 h3 (h4.mono hmem2)
  ·rcases cases2 i o ho with ⟨h1,h2,h3⟩ | ⟨p,o0,hp,h0,rfl⟩
   ·rw[blkO i (oldlt i o h1)] at hb
    rcases cases2 j o' ho' with ⟨g1,g2,g3⟩ | ⟨p',o0',hp',h0',rfl⟩
    ·rw[blkO j (oldlt j o' g1)] at hb'
     exact hh.sep i j o o' b h1 g1 hb hb'
    ·rw[blk2 p' j hp'] at hb'
     have hm:=(newB p' o0' b h0' hb').2
     rcases hm with hm | hm
     ·rw[hEw] at hm
      have:=(hh.ob i o h1).gq hb
      omega
     ·exact absurd hm (notGiven i o b h1 h2 hb)
   ·rw[blk2 p i hp] at hb
    rcases cases2 j o' ho' with ⟨g1,g2,g3⟩ | ⟨p',o0',hp',h0',rfl⟩
    ·rw[blkO j (oldlt j o' g1)] at hb'
     have hm:=(newB p o0 b h0 hb).2
     rcases hm with hm | hm
     ·rw[hEw] at hm
      have:=(hh.ob j o' g1).gq hb'
      omega
     ·exact absurd hm (notGiven j o' b g1 g2 hb')
    ·rw[blk2 p' j hp'] at hb'
     have:=h'.sep p p' o0 o0' b (by rw[dP];exact h0) (by rw[dP];exact h0') hb hb'
     subst this
     rw[hp] at hp';exact Option.some.inj hp'
  ·rcases cases2 j o ho with ⟨h1,h2,h3⟩ | ⟨p,o0,hp,h0,rfl⟩
   ·rw[blkO j (oldlt j o h1)] at hb
    obtain ⟨q1,q2,q3⟩:=hh.own j o b h1 hb
    have hlt:=(hh.ob j o h1).gq hb
    refine ⟨?_,q2,?_⟩
    ·rw[hE2]
     show E'.mem b=none
     cases hm:E'.mem b with
     | none=>rfl
     | some cs=>
      rcases h'.memnew b cs hm with x | ⟨x,y⟩
      ·have:=hmemb b cs x;rw[q1] at this;cases this
      ·rcases y with y | y
       ·rw[hEw] at y;omega
       ·exact absurd y (notGiven j o b h1 h2 hb)
    ·rw[hE2];exact q3
   ·rw[blk2 p j hp] at hb
    obtain ⟨q1,q2⟩:=newB p o0 b h0 hb
    obtain ⟨m1,m2⟩:=mineB b q2
    exact ⟨by rw[hE2];exact q1,.inl m1,.inl (by rw[hE2];exact m2)⟩
  ·rw[hE2] at hb;exact h'.mem b cs hb
  ·rw[hE2] at hb
   rcases h'.memnew b cs hb with x | ⟨_,y⟩
   ·have:=hh.memnew b cs (hmemb b cs x)
    rw[hE2];exact this
   ·obtain ⟨m1,m2⟩:=mineB b y
    exact .inr ⟨m1,by rw[hE2];exact m2⟩
  ·rw[hcnt] at hi
   rw[hE2]
   show (if i<st.no then E.hd i else if i<st.no+q then _ else none)=none
   rw[if_neg (by omega),if_neg (by omega)]
  ·rw[hE2];exact hh.base
  ·rw[hE2]
   exact ⟨h'.fr.os.trans hh.fr.os,h'.fr.tape.trans hh.fr.tape,h'.fr.output.trans hh.fr.output,hh.fr.bsz,aln hh.fr.wsz hwsz,hh.fr.wos,hh.fr.isz,fun k hk hI=>by
    have hkw:k<w.heap.size:=aov hk hh.fr.wsz
    rw[keep k hkw (fun hx=>by
     rcases (givenB k hx).2.1 with hy | hy
     ·have hk':k<E.ws.heap.size:=hk;omega
     ·exact hI hy)]
    exact hh.fr.block k hk hI,hh.fr.sync⟩
  ·rw[hE2]
   have:=hh.mno
   show (if k<st.no then E.hd k else _)=_
   rw[if_pos (by omega)];exact hh.hd0 k hk
  ·rw[hcnt];have:=hh.mno;omega
  ·rw[hE2];exact hh.kk
 refine ⟨v,E2,_,_,rfl,ang htm hmem2 hhd2 hv,⟨hle,by rw[hE2];rfl,by rw[hE2];rfl⟩,hG,?_,by rw[hJ];exact hK⟩
 intro D o ho hc
 have hD:=(abB.1 ho).1
 rw[keep D hD fun hI=>by
  obtain ⟨k,j,o',hj,ho',hb⟩:=given D hI
  obtain ⟨x,hx,hxc⟩:=(hh.ob j o' ho').aiL hb
  rw[ho] at hx;cases hx;rw[hc] at hxc;cases hxc]
 exact ho
def ac9 (P:Program) (f T n:Nat):Prop:=
 (∃fn,P.funcs[f]?=some fn∧fn.body.isSome=true∧(fn.name=="runtime.NumGoroutine")=false) ∧
 ∀(b:Nat) (vs:Array Value) (w:World),w.heap[b]?=some (.cells vs T (0,0))→vs.size=n →
  (vs[0]?=some (.pointer none)→Calls P f #[.pointer (some ⟨b,0,none⟩)] w fun e w'=>e=.returned (.tuple #[])∧w'=w.setCell ⟨b,0,none⟩ (.pointer (some ⟨b,0,none⟩))) ∧
  (vs[0]?=some (.pointer (some ⟨b,0,none⟩))→Calls P f #[.pointer (some ⟨b,0,none⟩)] w fun e w'=>e=.returned (.tuple #[])∧w'=w)
theorem setCell_at {w:World} {b:Nat} {vs:Array Value} {T:TypeId} {fr:Nat×Nat} (h:w.heap[b]?=some (.cells vs T fr)) (off:Nat) (v:Value):(w.setCell ⟨b,off,none⟩ v).heap[b]?=some (.cells (vs.setIfInBounds off v) T fr):=by
 show (w.heap.modify b _)[b]?=_
 rw[asH,if_pos rfl,h];rfl
theorem yO {w:World} {b k:Nat} (off:Nat) (v:Value) (h:k≠b):(w.setCell ⟨b,off,none⟩ v).heap[k]?=w.heap[k]?:=by
 show (w.heap.modify b _)[k]?=_
 rw[asH,if_neg fun e=>h e.symm]
theorem tH {X : bB} {f T n : Nat} (h : ac9 X.P f T n) {st : St} {i : Nat} {c : SV} {cs : List SV} {K : SV → St → Prop} (hob : st.obj i = some (.cells T (c :: cs))) (hn : cs.length + 1 = n) (hro : X.ro.ble i = true)
    (hc : c = .own i 0 ∨ ∃ b, c = .p b (.val (.pointer none))) (hK : K (.tup []) (st.bX i (some (.cells T (.own i 0 :: cs))))) : aaO X f [.own i 0] st K := by
  obtain ⟨hfn, h⟩ := h
  refine ⟨hfn, fun C E vs w hCm hCro hrm hlent hgl hnw hh hA => ?_⟩
  obtain ⟨hs1, hs2⟩ := hA
  obtain ⟨v, rfl⟩ : ∃ v, vs = #[v] := by
    have h1 : vs.size = 1 := hs1
    exact ⟨vs[0]'(by omega), by apply Array.ext <;> simp [h1]; intro i hi; obtain rfl : i = 0 := by omega
                                rfl⟩
  obtain ⟨b, hb, rfl⟩ := fF (hs2 0 v _ rfl rfl)
  obtain ⟨b', us, hb2, hw, hU⟩ := (hh.ob i _ hob).iR
  rw [hb] at hb2; cases hb2
  have hsz : us.size = n := by rw [hU.size]; simpa using hn
  obtain ⟨h1, h2⟩ := h b us w hw hsz
  have hu0 : us[0]? = some us[0] := aex (by omega)
  have hr0 := hU.rep 0 us[0] c hu0 rfl
  have hblk : E.blk i = some b := by simp [Env.blk, hb, aG]
  rcases hc with rfl | ⟨p, rfl⟩
  · obtain ⟨b3, hb3, e3⟩ := fF hr0
    rw [hb] at hb3; cases hb3
    rw [e3] at hu0
    refine (h2 hu0).mono ?_
    rintro e w' ⟨rfl, rfl⟩
    refine ⟨.tuple #[], E, .tup [], _, rfl, .tup #[] [] rfl (fun k u s hu => by simp at hu), ⟨Env.Le.refl E, rfl, rfl⟩, ?_, iC.refl _, hK⟩
    exact hh.write hob hblk (by rw [hCro]; exact aiT hro) (hh.ob i _ hob) rfl rfl rfl rfl (fun _ _ => rfl)
  · have e3 := hr0.aN
    rw [e3] at hu0
    refine (h1 hu0).mono ?_
    rintro e w' ⟨rfl, rfl⟩
    refine ⟨.tuple #[], E, .tup [], _, rfl, .tup #[] [] rfl (fun k u s hu => by simp at hu), ⟨Env.Le.refl E, rfl, rfl⟩, ?_, lX hw fun k hk => yO 0 _ hk, hK⟩
    refine hh.write hob hblk (by rw [hCro]; exact aiT hro) (.cells b T _ _ hb (setCell_at hw 0 _) (by rw [Array.size_setIfInBounds]; exact hU.size) (fun k u hu => ?_) (fun k u s hu hs => ?_)) rfl rfl rfl (by simp [World.setCell]) (fun k hk => yO 0 _ hk)
    · rw [atu] at hu
      by_cases hk : 0 = k
      · rw [if_pos hk] at hu
        split at hu
        · cases hu; rfl
        · cases hu
      · rw [if_neg hk] at hu; exact hU.one k u hu
    · rw [atu] at hu
      by_cases hk : 0 = k
      · subst hk
        rw [if_pos rfl] at hu
        split at hu
        · cases hu
          simp at hs; subst hs
          exact .own i 0 b hb
        · cases hu
      · rw [if_neg hk] at hu
        refine hU.rep k u s hu ?_
        cases k with
        | zero => exact absurd rfl hk
        | succ k => simpa using hs
theorem bq.gone {C:Ctx} {E:Env} {st:St} {w w':World} (h:bq C E st w) {j:Nat} {o:Ob} (hob:st.obj j=some o) (hm:C.m≤j) (hrm:C.ro≤C.m) (hos:w'.os=w.os) (htape:w'.tape=w.tape) (hout:w'.output=w.output) (hsz:w.heap.size≤w'.heap.size)
  (hkeep:∀k,k<w.heap.size→E.blk j≠some k→w'.heap[k]?=w.heap[k]?):bq C E (st.bX j none) w':=by
 have hset:∀k,(st.bX j none).obj k=if j=k then none else st.obj k:=fun k=>kX st.fr st.ob st.no _ _ _ _
 have hold:∀k o,(st.bX j none).obj k=some o→st.obj k=some o∧j≠k:=fun k o ho=>by
  rw[hset] at ho
  by_cases e:j=k
  ·rw[if_pos e] at ho;cases ho
  ·rw[if_neg e] at ho;exact ⟨ho,e⟩
 refine ⟨fun k o' ho=>?_,fun a b o1 o2 bl ho ho'=>h.sep a b o1 o2 bl (hold a o1 ho).1 (hold b o2 ho').1,fun k o' b ho=>h.own k o' b (hold k o' ho).1,fun b cs hb=>?_,h.mem0,h.memnew,h.new,h.base,⟨hos.trans h.fr.os,htape.trans h.fr.tape,hout.trans h.fr.output,h.fr.bsz,aln h.fr.wsz hsz,h.fr.wos,h.fr.isz,fun k hk hI=>?_,h.fr.sync⟩,h.hd0,h.mno,h.mkh,h.kk⟩
 ·obtain ⟨h1,h2⟩:=hold k o' ho
  exact (h.ob k o' h1).world fun b hb=>hkeep b ((h.ob k o' h1).gq hb) fun e=>h2 (h.sep j k o o' b hob h1 e hb)
 ·obtain ⟨T,fr,hw⟩:=h.mem b cs hb
  refine ⟨T,fr,(hkeep b (h.lY hb) fun e=>?_).trans hw⟩
  rw[(h.own j o b hob e).1] at hb;cases hb
 ·rw[hkeep k (aov hk h.fr.wsz) fun e=>?_]
  ·exact h.fr.block k hk hI
  ·rcases (h.own j o k hob e).2.2 with (x | x) | x
   ·have hk':k<E.ws.heap.size:=hk;omega
   ·exact hI x
   ·omega
def aoE (P:Program) (f T n eT:Nat):Prop:=
 (∃fn,P.funcs[f]?=some fn∧fn.body.isSome=true∧(fn.name=="runtime.NumGoroutine")=false) ∧
 ∀(b:Nat) (vs:Array Value) (w:World) (g cap:Nat) (cur:Array Value) (l:List UInt8),w.heap[b]?=some (.cells vs T (0,0))→vs.size=n→vs[1]?=some (.slice (some ⟨g,0,none⟩) l.length cap) →
  w.heap[g]?=some (.cells cur eT (0,0))→l.length≤cap→cap≤maxLen→cur.size=cap→(∀(j:Nat) (x:UInt8),l[j]?=some x→cur[j]?=some (.int .u8 x.toNat))→l≠[] →
  Calls P f #[.pointer (some ⟨b,0,none⟩)] w fun e w'=>e=.returned (.string ⟨l.toArray⟩)∧w'=w.drew.freeze ⟨g,0,none⟩ l.length
theorem aag {w:World} {g n k:Nat} (h:k≠g):(w.freeze ⟨g,0,none⟩ n).heap[k]?=w.heap[k]?:=by
 unfold World.freeze
 split
 ·rfl
 ·show (w.heap.modify g _)[k]?=_
  rw[asH,if_neg fun e=>h e.symm]
theorem ail {w:World} {g n:Nat}:(w.freeze ⟨g,0,none⟩ n).heap.size=w.heap.size:=by
 unfold World.freeze
 split
 ·rfl
 ·simp
theorem ahV {w:World} {g n:Nat}:(w.freeze ⟨g,0,none⟩ n).os=w.os∧(w.freeze ⟨g,0,none⟩ n).tape=w.tape∧(w.freeze ⟨g,0,none⟩ n).output=w.output:=by
 unfold World.freeze
 split<;>exact ⟨rfl,rfl,rfl⟩
theorem amB {X : bB} {f T n eT : Nat} (h : aoE X.P f T n eT) {st : St} {i j m : Nat} {c : SV} {cs : List SV} {g : Nat → List PV} {K : SV → St → Prop} (hob : st.obj i = some (.cells T (c :: .row j :: cs))) (hn : cs.length + 2 = n) (hrow : st.obj j = some (.row eT 1 m g)) (hm : X.m.ble j = true)
    (l : List UInt8) (hl : l.length = m) (h0 : l ≠ []) (hg : ∀ k, k < m → g k = [.val (.int .u8 ((l.getD k 0).toNat : Int))]) (hK : K (.p true (.val (.string ⟨l.toArray⟩))) (st.bX j none)) : aaO X f [.own i 0] st K := by
  obtain ⟨hfn, h⟩ := h
  refine ⟨hfn, fun C E vs w hCm hCro hrm hlent hgl hnw hh hA => ?_⟩
  obtain ⟨hs1, hs2⟩ := hA
  obtain ⟨v, rfl⟩ : ∃ v, vs = #[v] := by
    have h1 : vs.size = 1 := hs1
    exact ⟨vs[0]'(by omega), by apply Array.ext <;> simp [h1]; intro i hi; obtain rfl : i = 0 := by omega
                                rfl⟩
  obtain ⟨b, hb, rfl⟩ := fF (hs2 0 v _ rfl rfl)
  obtain ⟨b', us, hb2, hw, hU⟩ := (hh.ob i _ hob).iR
  rw [hb] at hb2; cases hb2
  have hsz : us.size = n := by rw [hU.size]; simpa using hn
  have hu1 : us[1]? = some us[1] := aex (by omega)
  have hr1 := hU.rep 1 us[1] (.row j) hu1 rfl
  have hrep := hh.ob j _ hrow
  have hm0 : m ≠ 0 := by intro e; subst e; exact h0 (atJ hl)
  obtain ⟨v0, xs, u, hhd, hwo, hmax, hlen, hc, he⟩ := jL hrep
  generalize hue : us[1] = u1 at hr1
  cases hr1 with
  | row _ _ hh2 hsl =>
    rw [hhd] at hh2; cases hh2
    rcases hwo.2 with ⟨rfl, hz⟩ | ⟨gb, cap, cur, rfl, _, hgg, hnc, hcm, hcs, htake⟩
    · exact absurd hz hm0
    · rw [hue] at hu1
      have hcell : ∀ (k : Nat) (x : UInt8), l[k]? = some x → cur[k]? = some (.int .u8 x.toNat) := by
        intro k x hx
        have hk : k < m := by rw [← hl]; exact (abA.1 hx).1
        have e1 := hg k hk
        have hgd : l.getD k 0 = x := by rw [abo, hx]; rfl
        rw [hgd] at e1
        obtain ⟨c1, _⟩ := hc k 0 (.val (.int .u8 (x.toNat : Int))) hk (by rw [e1]; rfl)
        have c2 := (he k 0 (.val (.int .u8 (x.toNat : Int))) hk (by rw [e1]; rfl)).aN
        rw [c2, apT, atm, ← htake, alD, if_pos (by omega), aeX] at c1
        exact c1
      refine (h b us w gb cap cur l hw hsz (by rw [hl]; exact hu1) hgg (by omega) hcm (by omega) hcell h0).mono ?_
      rintro e w' ⟨rfl, rfl⟩
      have hdrew : ∀ k : Nat, w.drew.heap[k]? = w.heap[k]? := fun _ => rfl
      have hblk : E.blk j = some gb := by simp [Env.blk, hhd, aG]
      obtain ⟨f1, f2, f3⟩ := ahV (w := w.drew) (g := gb) (n := l.length)
      refine ⟨_, E, _, _, rfl, .p true _ _ (.val _), ⟨Env.Le.refl E, rfl, rfl⟩, hh.gone hrow (by rw [hCm]; exact aiT hm) hrm f1 f2 f3 (by rw [ail]; exact aha _) (fun k hk hne => ?_), ?_, hK⟩
      · rw [aag fun e => hne (by rw [e]; exact hblk)]; exact hdrew k
      · intro D o ho hcD
        rw [aag fun e => ?_]
        · exact ho
        · subst e; rw [hgg] at ho; cases ho; cases hcD
end Go.Sx
namespace Go.Sx.Pn
open Go Go.Proofs Go.Sx
set_option maxRecDepth 20000
end Go.Sx.Pn
