/- ChartShares, part 1 of its proof: declarations that the last part uses. -/
import Derived.WalkKit
import Derived.CallsIn
import Derived.TacticsIn
import Derived.OrdersIn
import Derived.Laws.AppendOwn
import Derived.Laws.Tables
import Derived.Below
import Derived.RangeFuncSeq
import Derived.RangeFuncLeaves
import Derived.RangeFuncOwn
import Derived.MapKept
import Derived.Laws.Strings
import Derived.OwnWalkIn
import Derived.RangeFuncCalls
import Derived.ChangeKeysEq
import Derived.Laws.IdiomStrings
import Derived.Laws.MakeOwn
import Derived.Lib.AppendStr
import Derived.Laws.OwnMore
import Derived.LoopNIn
import Derived.Laws.BitsAllLaws
import Derived.Laws.Bits64
import Derived.ProofKit
import Derived.OpenShut
import Derived.DataElems
import Derived.Sort.Grow
import Derived.Test.YteenedbiifampaaGreatDoorProg
import Derived.Shelf.Strings.Builder1
import Derived.Shelf.Strings.Builder2
import Derived.Shelf.Strings.OnBuilder
import Derived.Shelf.Strings.Trim
import Derived.Shelf.Small.Utf8
import Derived.Shelf.Small.Bits
import Derived.Shelf.Small.Strs
import Derived.Shelf.Small.Wraps
import Derived.Shelf.Strings.Builder2Cap
import Derived.Shelf.Strconv.Itoa0
import Derived.Shelf.Strconv.Itoa1
import Derived.Shelf.LaysM
import Derived.Shelf.Strconv.Itoa2
import Derived.Shelf.Strconv.Itoa3
import Derived.Shelf.Strings.Search1
import Derived.Shelf.Strings.Search2
import Derived.Shelf.Strings.Search3
import Derived.Shelf.Strings.Shaped
import Derived.Shelf.Strings.Runes
import Derived.Shelf.Strings.AsciiSet
import Derived.Shelf.Unicode.DecodeSlow
import Derived.Shelf.Slices.Equal
import Derived.Ground.Names2Prog
import Derived.Shelf.Slices.Clone
import Derived.Shelf.Slices.Empties2
import Derived.Lib.ItoaNum
import Derived.Shelf.SlGeneric
import Derived.Shelf.SlSortCmp.NoneTotal
import Derived.Ground.SlsfProg
import Derived.Lib.Walk
import Derived.Lib.Strings
import Derived.Lib.Builder
import Derived.Lib.UnsafeStr
import Derived.Laws.Externs
import Derived.Laws.IdiomCopy
import Derived.Shelf.RegionOpenPlain
import Derived.Test.YteenedbiifampaaGreatDoorCards
import Derived.Test.YteenedbiifampaaGreatDoorTie
import Derived.Deep.DeepHandedRow
import Derived.Lib.LaidTab
import Derived.Lib.TrailingZeros
import Derived.Lib.SmallJoins
import Derived.Stop.LaidErr
import Derived.ChangeMaps5
set_option maxHeartbeats 1000000
set_option maxRecDepth 4000
set_option linter.unusedSimpArgs false
set_option linter.unusedVariables false
set_option linter.unusedSectionVars false
namespace Go
abbrev aaf := @List.length_append
abbrev abn := @List.getElem?_eq_getElem
abbrev abo := @List.getD_eq_getElem?_getD
abbrev abq := @Int.natCast_nonneg
abbrev abA := @List.getElem?_eq_some_iff
abbrev abB := @Array.getElem?_eq_some_iff
abbrev adh := @List.mem_of_getElem?
abbrev aex := @Array.getElem?_eq_getElem
abbrev aeC := @Array.getD_eq_getD_getElem?
abbrev aeX := @Array.getElem?_toList
abbrev afc := @Nat.zero_le
abbrev afk := @List.getElem?_append_left
abbrev agf := @Nat.eq_of_beq_eq_true
abbrev agw := @Bool.and_eq_true
abbrev agH := @List.getElem?_append_right
abbrev aha := @Nat.le_refl
abbrev ahb := @List.take_length
abbrev ahN := @List.mem_append
abbrev aiy := @List.mem_singleton
abbrev aiF := @Nat.zero_add
abbrev aiI := @Bool.true_and
abbrev aiT := @Nat.le_of_ble_eq_true
abbrev ai0 := @List.mem_cons
abbrev ai1 := @List.length_cons
abbrev ajs := @List.getElem?_map
abbrev ajz := @List.length_take
abbrev ak7 := @List.all_eq_true
abbrev alh := @Bool.true_or
abbrev aln := @Nat.le_trans
abbrev alD := @List.getElem?_take
abbrev alJ := @Nat.not_lt_zero
abbrev alS := @Nat.mul_le_mul_right
abbrev al7 := @Array.length_toList
abbrev amo := @List.length_map
abbrev aov := @Nat.lt_of_lt_of_le
abbrev aoz := @List.getElem?_cons_succ
abbrev aoB := @Array.getElem?_eq_none
abbrev aoC := @Array.getElem?_append_left
abbrev aoF := @Option.map_some
abbrev aoI := @List.mem_cons_of_mem
abbrev aoK := @List.length_nil
abbrev aoM := @List.map_cons
abbrev aoN := @List.drop_eq_getElem_cons
abbrev aoP := @List.mem_cons_self
abbrev aoW := @Bool.not_eq_true'
abbrev apT := @Nat.mul_one
abbrev aqu := @Classical.not_not
abbrev aqz := @Bool.false_or
abbrev aqA := @Bool.false_and
abbrev aqH := @List.length_eq_zero_iff
abbrev aqK := @Bool.or_eq_true
abbrev aqR := @Bool.eq_iff_iff
abbrev aqX := @List.getElem?_drop
abbrev aq0 := @Nat.eq_zero_or_pos
abbrev aq7 := @Bool.and_false
abbrev arp := @List.getElem_of_mem
abbrev arD := @List.append_nil
abbrev arP := @List.length_drop
abbrev arZ := @Int.toNat_natCast
abbrev ar2 := @List.all_eq_false
abbrev asD := @List.getElem?_of_mem
abbrev asE := @Nat.lt_or_ge
abbrev asF := @List.getElem?_eq_none
abbrev asG := @List.map_append
abbrev asH := @Array.getElem?_modify
abbrev asI := @Nat.succ_mul
abbrev asJ := @List.mem_map
abbrev asK := @List.foldl_append
abbrev asL := @List.foldl_cons
abbrev asM := @Nat.add_mul
abbrev atj := @List.any_eq_true
abbrev atl := @List.append_assoc
abbrev atm := @Nat.add_zero
abbrev atn := @Nat.sub_self
abbrev ato := @List.take_append_drop
abbrev atp := @Array.getElem?_append_right
abbrev atq := @Nat.add_sub_cancel_left
abbrev atr := @List.take_of_length_le
abbrev att := @Bool.eq_false_iff
abbrev atu := @Array.getElem?_setIfInBounds
abbrev atv := @List.any_eq_false
abbrev atw := @Nat.sub_zero
abbrev atx := @Option.map_eq_some_iff
abbrev aty := @List.getElem?_toArray
abbrev atz := @List.nodup_nil
abbrev atA := @List.length_replicate
abbrev atB := @Nat.blt_eq
abbrev atC := @Int.max_eq_left
abbrev atD := @List.contains_eq_mem
abbrev atF := @List.length_set
abbrev atG := @List.size_toArray
abbrev atH := @List.nodup_append
abbrev atI := @Nat.add_assoc
abbrev atJ := @List.eq_nil_of_length_eq_zero
abbrev atK := @Nat.mod_eq_of_lt
abbrev atL := @List.getElem_mem
abbrev atM := @List.drop_eq_nil_of_le
abbrev atN := @List.find?_eq_none
abbrev atO := @Array.mem_of_getElem?
abbrev atP := @Nat.min_eq_left
abbrev atQ := @Bool.or_false
abbrev atS := @List.getElem?_set
abbrev atT := @List.pairwise_iff_getElem
abbrev atU := @List.map_nil
abbrev atV := @List.map_toArray
abbrev atW := @List.getElem?_replicate
abbrev atX := @List.any_cons
abbrev atY := @Array.ext_getElem?
abbrev atZ := @List.nodup_cons
abbrev at0 := @List.pairwise_cons
abbrev at1 := @List.take_add_one
abbrev at5 := @Array.mem_toList_iff
abbrev at6 := @Bool.and_eq_true_iff
abbrev at7 := @List.mem_flatMap
abbrev aua := @List.mem_append_left
abbrev aub := @List.pairwise_append
abbrev auc := @Nat.add_mul_mod_self_right
abbrev aud := @List.getElem?_range
abbrev aue := @List.length_pos_iff
abbrev auf := @List.flatMap_append
abbrev aug := @List.take_take
abbrev auh := @List.getElem?_cons_zero
abbrev aui := @List.filter_cons_of_neg
abbrev auj := @List.filter_cons_of_pos
abbrev auk := @List.range'_succ
abbrev aul := @Array.all_eq_true_iff_forall_mem
abbrev aum := @Option.bind_some
abbrev aun := @List.mem_append_right
abbrev auo := @List.range_eq_range'
abbrev aup := @Bool.or_eq_false_iff
abbrev auq := @Bool.decide_and
abbrev aur := @List.dropWhile_cons
abbrev aus := @List.mapM_cons
abbrev aut := @Nat.pos_of_ne_zero
abbrev auu := @List.sum_cons
abbrev auv := @Array.toList_push
abbrev auw := @List.flatten_cons
abbrev auy := @List.find?_append
abbrev auz := @List.flatMap_cons
end Go
namespace Go.Sx
open Go
inductive PV:Type
 | val (v:Value)
 | seq (n:Nat) (f:Nat→List PV)
 | pt (l:List PV) (off:Nat)
 | agg (l:List PV)
 | tup (l:List PV)
 | fn (f:Nat) (capt:List PV)
 | arr (n:Nat) (f:Nat→PV)
 | bnd (f:Nat) (l:List PV)
inductive MK:Type
 | int (a:Int)
 | str (s:ByteArray)
 | bools (l:List Bool)
inductive dw:Type
 | int (k:IntKind)
 | str
 | bools (n:Nat)
def dV (l:List Bool):Array Value:=(l.map Value.bool).toArray
def dw.val:dw→MK→Value
 | .int k,.int a=>.int k a
 | .str,.str s=>.string s
 | .bools _,.bools l=>.agg (dV l)
 | _,_=>undef
def dw.ok:dw→MK→Prop
 | .int _,.int _=>True
 | .str,.str _=>True
 | .bools n,.bools l=>l.length=n
 | _,_=>False
inductive SV:Type
 | p (fresh:Bool) (d:PV)
 | own (i off:Nat)
 | el (i sz j off:Nat)
 | row (i:Nat)
 | sub (i sz lo n:Nat)
 | agg (l:List SV)
 | tup (l:List SV)
 | fn (f:Nat) (capt:List SV)
 | full (n:Nat) (f:Nat→List PV)
 | any
 | asl (i N lo n:Nat)
 | mp (i:Nat)
inductive Ob:Type
 | cells (T:TypeId) (cs:List SV)
 | row (T:TypeId) (sz n:Nat) (f:Nat→List PV)
 | arr (T:TypeId) (n:Nat) (f:Nat→PV)
 | map (kt:dw) (n:Nat) (get:MK→Option PV)
structure Env where
 hd:Nat→Option Value
 mem:Nat→Option (Array Value)
 tm:Nat→Prop
 ws:World
 I:Nat→Prop
 k:Option Nat
def Env.mine (E:Env) (b:Nat):Prop:=E.ws.heap.size≤b∨E.I b
open Classical in
noncomputable def Env.m (E:Env):Bool→Nat→Option (Array Value)
 | true,b=>if E.tm b then E.mem b else none
 | false,b=>E.mem b
inductive aO (μ:Nat→Option (Array Value)):Value→PV→Prop
 | val (v:Value):aO μ v (.val v)
 | nil (f):aO μ (.slice none 0 0) (.seq 0 f)
 | emp (a cap f):aO μ (.slice (some a) 0 cap) (.seq 0 f)
 | seq (b o n cap sz:Nat) (f:Nat→List PV) (cs:Array Value) (u:Nat→Nat→Value) (hm:μ b=some cs) (hcap:n≤cap) (hmax:n≤maxLen)
   (hl:∀j,j<n→(f j).length=sz)
   (hc:∀j k s,j<n→(f j)[k]?=some s→cs[o+(j*sz+k)]?=some (u j k)∧(u j k).oneCell'=true)
   (he:∀j k s,j<n→(f j)[k]?=some s→aO μ (u j k) s):aO μ (.slice (some ⟨b,o,none⟩) n cap) (.seq n f)
 | pt (b o off:Nat) (l:List PV) (cs:Array Value) (u:Nat→Value) (hm:μ b=some cs)
   (hc:∀k s,l[k]?=some s→cs[o+k]?=some (u k)∧(u k).oneCell'=true)
   (he:∀k s,l[k]?=some s→aO μ (u k) s):aO μ (.pointer (some ⟨b,o+off,none⟩)) (.pt l off)
 | agg (vs:Array Value) (l:List PV) (hl:vs.size=l.length) (h1:∀(k:Nat) (u:Value),vs[k]?=some u→u.oneCell'=true)
   (he:∀(k:Nat) (u:Value) (s:PV),vs[k]?=some u→l[k]?=some s→aO μ u s):aO μ (.agg vs) (.agg l)
 | tup (vs:Array Value) (l:List PV) (hl:vs.size=l.length)
   (he:∀(k:Nat) (u:Value) (s:PV),vs[k]?=some u→l[k]?=some s→aO μ u s):aO μ (.tuple vs) (.tup l)
 | fn (f:Nat) (vs:Array Value) (l:List PV) (hl:vs.size=l.length)
   (he:∀(k:Nat) (u:Value) (s:PV),vs[k]?=some u→l[k]?=some s→aO μ u s):aO μ (.func (.func f) #[] vs) (.fn f l)
 | arr (vs:Array Value) (n:Nat) (f:Nat→PV) (u:Nat→Value) (hs:vs.size=n) (hc:∀k,k<n→vs[k]?=some (u k)∧(u k).oneCell'=true)
   (he:∀k,k<n→aO μ (u k) (f k)):aO μ (.agg vs) (.arr n f)
 | bnd (f:Nat) (vs:Array Value) (l:List PV) (hl:vs.size=l.length)
   (he:∀(k:Nat) (u:Value) (s:PV),vs[k]?=some u→l[k]?=some s→aO μ u s):aO μ (.func (.func f) vs #[]) (.bnd f l)
def uI:Value→Bool
 | .slice _ _ _=>true
 | _=>false
inductive aM (E:Env):Value→SV→Prop
 | p (fr:Bool) (v:Value) (d:PV) (h:aO (E.m fr) v d):aM E v (.p fr d)
 | own (i off b:Nat) (h:E.hd i=some (.pointer (some ⟨b,0,none⟩))):aM E (.pointer (some ⟨b,off,none⟩)) (.own i off)
 | el (i sz j off b n cap:Nat) (h:E.hd i=some (.slice (some ⟨b,0,none⟩) n cap)):aM E (.pointer (some ⟨b,j*sz+off,none⟩)) (.el i sz j off)
 | row (i:Nat) (v:Value) (h:E.hd i=some v) (hs:uI v=true):aM E v (.row i)
 | sub (i sz lo n b n' cap c:Nat) (a:Addr) (h:E.hd i=some (.slice (some ⟨b,0,none⟩) n' cap)) (hle:lo+n≤n') (hc:n≤c) (hr:n'≤lo+c) (ha:0<c→a=⟨b,lo*sz,none⟩):aM E (.slice (some a) n c) (.sub i sz lo n)
 | agg (vs:Array Value) (l:List SV) (hl:vs.size=l.length) (h1:∀(k:Nat) (u:Value),vs[k]?=some u→u.oneCell'=true)
   (he:∀(k:Nat) (u:Value) (s:SV),vs[k]?=some u→l[k]?=some s→aM E u s):aM E (.agg vs) (.agg l)
 | tup (vs:Array Value) (l:List SV) (hl:vs.size=l.length)
   (he:∀(k:Nat) (u:Value) (s:SV),vs[k]?=some u→l[k]?=some s→aM E u s):aM E (.tuple vs) (.tup l)
 | fn (f:Nat) (vs:Array Value) (l:List SV) (hl:vs.size=l.length)
   (he:∀(k:Nat) (u:Value) (s:SV),vs[k]?=some u→l[k]?=some s→aM E u s):aM E (.func (.func f) #[] vs) (.fn f l)
 | full (a:Option Addr) (n:Nat) (f:Nat→List PV) (h:aO (E.m false) (.slice a n n) (.seq n f)):aM E (.slice a n n) (.full n f)
 | any (v:Value):aM E v .any
 | asl (i N lo n b c:Nat) (a:Addr) (h:E.hd i=some (.pointer (some ⟨b,0,none⟩))) (hle:lo+n≤N) (hc:n≤c) (ha:0<c→a=⟨b,lo,none⟩):aM E (.slice (some a) n c) (.asl i N lo n)
 | mp (i r:Nat) (h:E.hd i=some (.map (some r))):aM E (.map (some r)) (.mp i)
theorem aO.mono {μ μ':Nat→Option (Array Value)} (hμ:∀b cs,μ b=some cs→μ' b=some cs) {v:Value} {d:PV} (h:aO μ v d):aO μ' v d:=by
 induction h with
 | val v=>exact .val v
 | nil f=>exact .nil f
 | emp a c f=>exact .emp a c f
 | seq b o n cap sz f cs u hm hcap hmax hl hc _ ih=>exact .seq b o n cap sz f cs u (hμ _ _ hm) hcap hmax hl hc ih
 | pt b o off l cs u hm hc _ ih=>exact .pt b o off l cs u (hμ _ _ hm) hc ih
 | agg vs l hl h1 _ ih=>exact .agg vs l hl h1 ih
 | tup vs l hl _ ih=>exact .tup vs l hl ih
 | fn f vs l hl _ ih=>exact .fn f vs l hl ih
 | arr vs n f u hs hc _ ih=>exact .arr vs n f u hs hc ih
 | bnd f vs l hl _ ih=>exact .bnd f vs l hl ih
structure Env.Le (E E':Env):Prop where
 hd:∀i v,E.hd i=some v→E'.hd i=some v
 mem:∀b cs,E.mem b=some cs→E'.mem b=some cs
 base:E'.tm=E.tm
theorem Env.Le.refl (E:Env):E.Le E:=⟨fun _ _ h=>h,fun _ _ h=>h,rfl⟩
theorem Env.Le.trans {A B C:Env} (h:A.Le B) (k:B.Le C):A.Le C:=⟨fun i v x=>k.hd _ _ (h.hd _ _ x),fun b c x=>k.mem _ _ (h.mem _ _ x),k.base.trans h.base⟩
theorem Env.Le.m {E E':Env} (h:E.Le E') (fr:Bool):∀b cs,E.m fr b=some cs→E'.m fr b=some cs:=by
 intro b cs hb
 cases fr with
 | false=>exact h.mem _ _ hb
 | true=>
  simp only[Env.m] at hb ⊢
  rw[h.base]
  split at hb
  ·rename_i hx;rw[if_pos hx];exact h.mem _ _ hb
  ·cases hb
theorem Env.aqI (E:Env):∀b cs,E.m true b=some cs→E.m false b=some cs:=by
 intro b cs hb
 simp only[Env.m] at hb ⊢
 split at hb
 ·exact hb
 ·cases hb
theorem Env.eO (E:Env) (fr:Bool):∀b cs,E.m fr b=some cs→E.m false b=some cs:=by
 cases fr
 ·exact fun _ _ h=>h
 ·exact E.aqI
theorem aM.mono {E E':Env} (hE:E.Le E') {v:Value} {s:SV} (h:aM E v s):aM E' v s:=by
 induction h with
 | p fr v d h=>exact .p fr v d (h.mono (hE.m fr))
 | own i off b h=>exact .own i off b (hE.hd _ _ h)
 | el i sz j off b n cap h=>exact .el i sz j off b n cap (hE.hd _ _ h)
 | row i v h hs=>exact .row i v (hE.hd _ _ h) hs
 | sub i sz lo n b n' cap c a h hle hc hr ha=>exact .sub i sz lo n b n' cap c a (hE.hd _ _ h) hle hc hr ha
 | agg vs l hl h1 _ ih=>exact .agg vs l hl h1 ih
 | tup vs l hl _ ih=>exact .tup vs l hl ih
 | fn f vs l hl _ ih=>exact .fn f vs l hl ih
 | full a n f h=>exact .full a n f (h.mono (hE.m false))
 | any v=>exact .any v
 | asl i N lo n b c a h hle hc ha=>exact .asl i N lo n b c a (hE.hd _ _ h) hle hc ha
 | mp i r h=>exact .mp i r (hE.hd _ _ h)
def aG:Value→Option Nat
 | .pointer (some a)=>some a.block
 | .slice (some a) _ _=>some a.block
 | .map (some r)=>some r
 | _=>none
def Env.blk (E:Env) (i:Nat):Option Nat:=(E.hd i).bind aG
def aa5 (μ:Nat→Option (Array Value)) (es:Array MapEntry) (kt:dw) (get:MK→Option PV):Prop:=∀k,kt.ok k →
 (∀d,get k=some d→∃x∈es.toList,x.key=kt.val k∧x.val.oneCell'=true∧aO μ x.val d)∧(get k=none→∀x∈es.toList,x.key≠kt.val k)
theorem aa5.mono {μ μ':Nat→Option (Array Value)} (hμ:∀b cs,μ b=some cs→μ' b=some cs) {es:Array MapEntry} {kt:dw} {get:MK→Option PV} (h:aa5 μ es kt get):aa5 μ' es kt get:=
 fun k hk=>⟨fun d hd=>by obtain ⟨x,h1,h2,h3,h4⟩:=(h k hk).1 d hd;exact ⟨x,h1,h2,h3,h4.mono hμ⟩,(h k hk).2⟩
inductive cZ (E:Env) (w:World) (i:Nat):Ob→Prop
 | cells (b:Nat) (T:TypeId) (vs:Array Value) (cs:List SV) (hh:E.hd i=some (.pointer (some ⟨b,0,none⟩)))
   (hw:w.heap[b]?=some (.cells vs T (0,0))) (hl:vs.size=cs.length) (h1:∀(k:Nat) (u:Value),vs[k]?=some u→u.oneCell'=true)
   (he:∀(k:Nat) (u:Value) (s:SV),vs[k]?=some u→cs[k]?=some s→aM E u s):cZ E w i (.cells T cs)
 | row (T:TypeId) (sz n:Nat) (f:Nat→List PV) (v:Value) (xs:List Value) (u:Nat→Nat→Value) (hh:E.hd i=some v) (hw:w.ownsRow 0 T sz v n xs) (hmax:n≤maxLen)
   (hl:∀j,j<n→(f j).length=sz)
   (hc:∀j k s,j<n→(f j)[k]?=some s→xs[j*sz+k]?=some (u j k)∧(u j k).oneCell'=true)
   (he:∀j k s,j<n→(f j)[k]?=some s→aO E.mem (u j k) s):cZ E w i (.row T sz n f)
 | arr (b:Nat) (T:TypeId) (vs:Array Value) (n:Nat) (f:Nat→PV) (u:Nat→Value) (hh:E.hd i=some (.pointer (some ⟨b,0,none⟩)))
   (hw:w.heap[b]?=some (.cells vs T (0,0))) (hs:vs.size=n∧n≤1000) (hc:∀k,k<n→vs[k]?=some (u k)∧(u k).oneCell'=true)
   (he:∀k,k<n→aO E.mem (u k) (f k)):cZ E w i (.arr T n f)
 | map (r:Nat) (es:Array MapEntry) (clock:Nat) (kt:dw) (n:Nat) (get:MK→Option PV) (hh:E.hd i=some (.map (some r)))
   (hw:w.heap[r]?=some (.map es clock)) (hn:es.size=n) (hk:∀x∈es.toList,∃k,kt.ok k∧x.key=kt.val k) (hnd:(es.toList.map (·.key)).Nodup)
   (hg:aa5 E.mem es kt get):cZ E w i (.map kt n get)
theorem cZ.mono {E E':Env} (hE:E.Le E') {w:World} {i:Nat} {o:Ob} (h:cZ E w i o):cZ E' w i o:=by
 cases h with
 | cells b T vs cs hh hw hl h1 he=>exact .cells b T vs cs (hE.hd _ _ hh) hw hl h1 fun k u s a b=>(he k u s a b).mono hE
 | row T sz n f v xs u hh hw hmax hl hc he=>exact .row T sz n f v xs u (hE.hd _ _ hh) hw hmax hl hc fun j k s a b=>(he j k s a b).mono hE.mem
 | arr b T vs n f u hh hw hs hc he=>exact .arr b T vs n f u (hE.hd _ _ hh) hw hs hc fun k hk=>(he k hk).mono hE.mem
 | map r es clock kt n get hh hw hn hk hnd hg=>exact .map r es clock kt n get (hE.hd _ _ hh) hw hn hk hnd (hg.mono hE.mem)
theorem cZ.world {E:Env} {w w':World} {i:Nat} {o:Ob} (h:cZ E w i o) (hw:∀b,E.blk i=some b→w'.heap[b]?=w.heap[b]?):cZ E w' i o:=by
 cases h with
 | cells b T vs cs hh hh2 hl h1 he=>exact .cells b T vs cs hh ((hw b (by simp[Env.blk,hh,aG])).trans hh2) hl h1 he
 | row T sz n f v xs u hh hw2 hmax hl hc he=>
  refine .row T sz n f v xs u hh ⟨hw2.1,?_⟩ hmax hl hc he
  rcases hw2.2 with h | ⟨g,cap,cur,hv,hb,hg,rest⟩
  ·exact .inl h
  ·exact .inr ⟨g,cap,cur,hv,hb,(hw g (by simp[Env.blk,hh,hv,aG])).trans hg,rest⟩
 | arr b T vs n f u hh hw2 hs hc he=>exact .arr b T vs n f u hh ((hw b (by simp[Env.blk,hh,aG])).trans hw2) hs hc he
 | map r es clock kt n get hh hw2 hn hk hnd hg=>exact .map r es clock kt n get hh ((hw r (by simp[Env.blk,hh,aG])).trans hw2) hn hk hnd hg
structure St where
 fr:List (Nat×SV)
 ob:List (Nat×Option Ob)
 no:Nat
 k:Option Nat
def look {α:Type}:List (Nat×α)→Nat→Option α
 | [],_=>none
 | (k,v) :: l,t=>cond (k.beq t) (some v) (look l t)
def St.get (st:St) (t:Nat):SV:=match look st.fr t with | some s=>s | none=>.any
def St.obj (st:St) (i:Nat):Option Ob:=match look st.ob i with | some o=>o | none=>none
theorem bC {α:Type} (l:List (Nat×α)) (k:Nat) (v:α) (t:Nat):look ((k,v) :: l) t=if k=t then some v else look l t:=by
 by_cases h:k=t
 ·subst h;simp[look]
 ·have:k.beq t=false:=by cases hb:k.beq t with | false=>rfl | true=>exact absurd (agf hb) h
  simp[look,this,h]
structure Ctx where
 w0:World
 bor:Nat→Prop
 mem0:Nat→Option (Array Value)
 base:Nat
 nt:Nat
 hd0:Nat→Option Value
 m:Nat
 ro:Nat
 kh:Nat
 wk:World
 nm:Bool
 J:Option Nat→(Nat→Prop)→World→Prop
 tm:Nat→Prop
open Classical in
noncomputable def Ctx.adY (C:Ctx) (b:Nat):Option (Array Value):=if C.tm b then C.mem0 b else none
structure Fr (C:Ctx) (E:Env) (w:World):Prop where
 os:w.os=C.w0.os
 tape:w.tape=C.w0.tape
 output:w.output=C.w0.output
 bsz:C.base≤E.ws.heap.size
 wsz:E.ws.heap.size≤w.heap.size
 wos:E.ws.os=C.w0.os∧E.ws.tape=C.w0.tape∧E.ws.output=C.w0.output
 isz:∀b,E.I b→b<E.ws.heap.size
 block:∀k,k<E.ws.heap.size→¬E.I k→w.heap[k]?=E.ws.heap[k]?
 sync:C.J E.k E.I E.ws
structure bq (C:Ctx) (E:Env) (st:St) (w:World):Prop where
 ob:∀i o,st.obj i=some o→cZ E w i o
 sep:∀i j o o' b,st.obj i=some o→st.obj j=some o'→E.blk i=some b→E.blk j=some b→i=j
 own:∀i o b,st.obj i=some o→E.blk i=some b→E.mem b=none∧(C.base≤b∨(i<C.m∧(C.bor b∨i<C.ro)))∧(E.mine b∨(i<C.m∧i<C.ro))
 mem:∀b cs,E.mem b=some cs→∃T fr,w.heap[b]?=some (.cells cs T fr)
 mem0:∀b cs,C.mem0 b=some cs→E.mem b=some cs
 memnew:∀b cs,E.mem b=some cs→C.mem0 b=some cs∨(C.base≤b∧E.mine b)
 new:∀i,st.no≤i→E.hd i=none
 base:E.tm=C.tm
 fr:Fr C E w
 hd0:∀k,k<C.kh→E.hd k=C.hd0 k
 mno:C.kh≤st.no
 mkh:C.m≤C.kh
 kk:E.k=st.k
def yu:Obj→Bool
 | .cells _ _ _=>true
 | .map _ _=>true
 | _=>false
def iC (w w':World):Prop:=∀(D:Nat) (o:Obj),w.heap[D]?=some o→yu o=false→w'.heap[D]?=some o
theorem iC.refl (w:World):iC w w:=fun _ _ h _=>h
def Marks (C:Ctx) (E:Env) (a:Act) (w:World):Prop:=
 iC C.wk w∧∃l:List Nat,(C.nm=true→l=[])∧a.defers=l.map (fun D=>{ target:=.collected D,args:=#[] })∧l.Nodup∧∀D,D∈l→(C.base≤D∧E.mine D)∧w.heap[D]?=some (.deferred (some []))
theorem Marks.keep {C:Ctx} {E E':Env} {a:Act} {w w':World} (h:Marks C E a w) (hs:E'.ws=E.ws∧E'.I=E.I) (hk:iC w w'):Marks C E' a w':=by
 obtain ⟨h0,l,hl,h1,h2,h3⟩:=h
 exact ⟨fun D o hD ho=>hk D o (h0 D o hD ho) ho,l,hl,h1,h2,fun D hD=>⟨⟨(h3 D hD).1.1,by have:=(h3 D hD).1.2;unfold Env.mine at *;rw[hs.1,hs.2];exact this⟩,hk D _ (h3 D hD).2 rfl⟩⟩
structure aA (C:Ctx) (E:Env) (st:St) (a:Act) (w:World):Prop where
 size:a.tmps.size=C.nt
 slot:∀t,aM E (a.tmps.getD t undef) (st.get t)
 heap:bq C E st w
 marks:Marks C E a w
def St.put (st:St) (t:Nat) (s:SV):St:={ st with fr:=(t,s) :: st.fr }
theorem get_put (st:St) (t t':Nat) (s:SV):(st.put t s).get t'=if t=t' then s else st.get t':=by
 unfold St.put St.get
 simp only[bC]
 by_cases h:t=t'<;>simp[h]
theorem aA.put {C:Ctx} {E:Env} {st:St} {a:Act} {w:World} (h:aA C E st a w) {t:Nat} {s:SV} {v:Value} (ht:t<C.nt) (hs:aM E v s) :
  aA C E (st.put t s) (a.put (some t) v) w:=by
 refine ⟨by simp[Act.put,h.size],fun t'=>?_,⟨h.heap.ob,h.heap.sep,h.heap.own,h.heap.mem,h.heap.mem0,h.heap.memnew,h.heap.new,h.heap.base,h.heap.fr,h.heap.hd0,h.heap.mno,h.heap.mkh,h.heap.kk⟩,h.marks⟩
 rw[get_put]
 simp only[Act.put,aeC,atu]
 by_cases e:t=t'
 ·subst e;rw[if_pos rfl,if_pos rfl,if_pos (by rw[h.size];exact ht)];exact hs
 ·rw[if_neg e,if_neg e]
  have:=h.slot t'
  rwa [aeC] at this
def St.adG (st:St):Option Nat→SV→St
 | some t,s=>st.put t s
 | none,_=>st
def bQ (C:Nat):Option Nat→Bool
 | some t=>Nat.blt t C
 | none=>true
theorem aA.adG {C:Ctx} {E:Env} {st:St} {a:Act} {w:World} (h:aA C E st a w) {t:Option Nat} {s:SV} {v:Value} (ht:bQ C.nt t=true) (hs:aM E v s) :
  aA C E (st.adG t s) (a.put t v) w:=by
 cases t with
 | none=>exact h
 | some t=>exact h.put (by simpa [bQ,atB] using ht) hs
inductive TD:Type
 | int (k:IntKind)
 | bool
 | string
 | slice (e:Nat)
 | array (n e:Nat)
 | struct (fs:List (Nat×Nat))
 | map (k e:Nat)
 | other
def TD.isAgg:TD→Bool
 | .struct _=>true
 | .array _ _=>true
 | _=>false
structure TI where
 desc:TD
 size:Nat
 bytes:Nat
 zero:List Value
abbrev Tab := List (Nat × TI)
def oh (fs:Array Field):List (Nat×Nat):=fs.toList.map fun f=>(f.offset,f.type)
def TD.Ok (P:Program) (t:Nat):TD→Prop
 | .int k=>P.underlying t=some (.int k)
 | .bool=>P.underlying t=some .bool
 | .string=>P.underlying t=some .string
 | .slice e=>P.underlying t=some (.slice e)
 | .array n e=>P.underlying t=some (.array n e)
 | .struct l=>∃fs,P.underlying t=some (.struct fs)∧oh fs=l∧P.stoodInHeld t=false∧(fs.all fun f=>f.name != "_")=true∧P.eqGuardType P.depth t=false∧(fs.all fun f=>(P.info? f.type).isSome)=true
 | .map k e=>P.underlying t=some (.map k e)
 | .other=>∃d,P.underlying t=some d∧(∀fs,d≠.struct fs)∧(∀n e,d≠.array n e)
structure TI.Ok (P:Program) (t:Nat) (i:TI):Prop where
 desc:i.desc.Ok P t
 info:∃I:TypeInfo,P.info? t=some I∧I.size=i.size∧I.bytes=i.bytes∧∃z,I.zero=some z∧z.cells.toList=i.zero∧(∀(k:Nat) (u:Value),z.cells[k]?=some u→u.oneCell'=true)∧z.cells.size=i.size
 flat:i.desc.isAgg=false→∃(I:TypeInfo) (z:Value),P.info? t=some I∧I.zero=some z∧z.cells=#[z]
def Tab.Ok (P:Program) (Tb:Tab):Prop:=∀t i,look Tb t=some i→i.Ok P t
inductive BR:Type
 | ok (v:Value)
 | need (p:Prop) (v:Value)
 | no
def uw (op:BinOp) (k:IntKind) (a b:Int):BR:=
 match op with
 | .add=>.ok (.int k (k.wrap (a+b)))
 | .sub=>.ok (.int k (k.wrap (a-b)))
 | .mul=>.ok (.int k (k.wrap (a*b)))
 | .quo=>.need (b≠0) (.int k (k.wrap (a.tdiv b)))
 | .rem=>.need (b≠0) (.int k (a.tmod b))
 | .and=>.ok (.int k (bits .and k a b))
 | .or=>.ok (.int k (bits .or k a b))
 | .xor=>.ok (.int k (bits .xor k a b))
 | .andNot=>.ok (.int k (bits .andNot k a b))
 | .eql=>.ok (.bool (a==b))
 | .neq=>.ok (.bool (a != b))
 | .lss=>.ok (.bool (decide (a<b)))
 | .leq=>.ok (.bool (decide (a≤b)))
 | .gtr=>.ok (.bool (decide (b<a)))
 | .geq=>.ok (.bool (decide (b≤a)))
 | .shl=>.need (0≤b) (.int k (k.wrap (a*2 ^ (min b.toNat k.bits))))
 | .shr=>.need (0≤b) (.int k (a.fdiv (2 ^ (min b.toNat k.bits))))
def ahC (op:BinOp) (x y:ByteArray):BR:=
 match op with
 | .add=>.need (((x.size+y.size:Nat):Int)≤9223372036854775807) (.string (x++y))
 | .eql=>.ok (.bool (x.data.toList==y.data.toList))
 | .neq=>.ok (.bool (!(x.data.toList==y.data.toList)))
 | .lss=>.ok (.bool (Op.bytesLess x.data.toList y.data.toList))
 | .leq=>.ok (.bool (Op.bytesLess x.data.toList y.data.toList||x.data.toList==y.data.toList))
 | .gtr=>.ok (.bool (!(Op.bytesLess x.data.toList y.data.toList||x.data.toList==y.data.toList)))
 | .geq=>.ok (.bool (!Op.bytesLess x.data.toList y.data.toList))
 | _=>.no
def aiK (op:BinOp) (x y:Bool):BR:=
 match op with
 | .eql=>.ok (.bool (x==y))
 | .neq=>.ok (.bool (!(x==y)))
 | _=>.no
def sameKind:IntKind→IntKind→Bool
 | .i8,.i8 | .i16,.i16 | .i32,.i32 | .i64,.i64 | .u8,.u8 | .u16,.u16 | .u32,.u32 | .u64,.u64=>true
 | _,_=>false
def iQ (Tb:Tab):List (Nat×Nat)→Nat→List PV→List PV→Option Bool
 | [],_,[],[]=>some true
 | (off,t) :: fs,n,.val x :: xs,.val y :: ys=>
  cond (off.beq n) (match look Tb t,x,y with
   | some ⟨.int _,_,_,_⟩,.int k a,.int k' b=>cond (sameKind k k') ((iQ Tb fs (n+1) xs ys).map fun r=>(a==b)&&r) none
   | some ⟨.bool,_,_,_⟩,.bool a,.bool b=>(iQ Tb fs (n+1) xs ys).map fun r=>(a==b)&&r
   | some ⟨.string,_,_,_⟩,.string a,.string b=>(iQ Tb fs (n+1) xs ys).map fun r=>(a.data.toList==b.data.toList)&&r
   | _,_,_=>none) none
 | _,_,_,_=>none
def rH:Nat→List PV→List PV→Option Bool
 | 0,[],[]=>some true
 | n+1,.val (.int k a) :: xs,.val (.int k' b) :: ys=>cond (sameKind k k') ((rH n xs ys).map fun r=>(a==b)&&r) none
 | _,_,_=>none
def oO:Nat→List PV→List PV→Option Bool
 | 0,[],[]=>some true
 | n+1,.val (.bool a) :: xs,.val (.bool b) :: ys=>(oO n xs ys).map fun r=>(a==b)&&r
 | _,_,_=>none
def mg (g:Nat→PV):Nat→Nat→List PV
 | _,0=>[]
 | i,n+1=>g i :: mg g (i+1) n
def dW (n:Nat) (g:Nat→PV):List PV:=mg g 0 n
def binop (Tb:Tab) (op:BinOp) (t:Nat) (x y:SV):BR:=
 match x,y with
 | .p _ (.val (.int k a)),.p _ (.val (.int k' b))=>
  match op with
  | .shl=>uw op k a b
  | .shr=>uw op k a b
  | _=>cond (sameKind k k') (uw op k a b) .no
 | .p _ (.val (.string a)),.p _ (.val (.string b))=>ahC op a b
 | .p _ (.val (.bool a)),.p _ (.val (.bool b))=>
  match look Tb t with
  | some ⟨.bool,_,_,_⟩=>aiK op a b
  | _=>.no
 | .p _ (.agg xs),.p _ (.agg ys)=>
  match look Tb t with
  | some ⟨.struct fs,_,_,_⟩=>
   match op with
   | .eql=>match iQ Tb fs 0 xs ys with | some r=>.ok (.bool r) | none=>.no
   | .neq=>match iQ Tb fs 0 xs ys with | some r=>.ok (.bool (!r)) | none=>.no
   | _=>.no
  | some ⟨.array n e,_,_,_⟩=>match look Tb e with
   | some ⟨.int _,1,_,_⟩=>match op with
    | .eql=>match rH n xs ys with | some r=>.ok (.bool r) | none=>.no
    | .neq=>match rH n xs ys with | some r=>.ok (.bool (!r)) | none=>.no
    | _=>.no
   | _=>.no
  | _=>.no
 | .p _ (.arr m f),.p _ (.arr m' g)=>
  match look Tb t with
  | some ⟨.array n e,_,_,_⟩=>match (n.beq m).and (n.beq m'),look Tb e with
   | true,some ⟨.bool,1,_,_⟩=>match op with
    | .eql=>match oO n (dW n f) (dW n g) with | some r=>.ok (.bool r) | none=>.no
    | .neq=>match oO n (dW n f) (dW n g) with | some r=>.ok (.bool (!r)) | none=>.no
    | _=>.no
   | _,_=>.no
  | _=>.no
 | _,_=>.no
def unop (op:UnOp) (x:SV):BR:=
 match op,x with
 | .neg,.p _ (.val (.int k n))=>.ok (.int k (k.wrap (0-n)))
 | .not,.p _ (.val (.bool b))=>.ok (.bool (!b))
 | .xor,.p _ (.val (.int k n))=>.ok (.int k (bits .xor k (cond k.signed (-1) k.max) n))
 | _,_=>.no
def rZ:List SV→Option (Bool×List PV)
 | []=>some (true,[])
 | .p b d :: l=>match rZ l with
  | some (c,ds)=>some (b&&c,d :: ds)
  | none=>none
 | _=>none
def lF (l:List SV):SV:=
 match rZ l with
 | some (b,ds)=>.p b (.agg ds)
 | none=>.agg l
def nY (size:Nat):TD→Option Nat
 | .array n _=>match ((Nat.blt 5 n).and (Nat.ble n 1000)).and (size.beq n) with
  | true=>some n
  | false=>none
 | _=>none
def jZ (l:List PV) (k:Nat):PV:=match l with
 | []=>.val undef
 | d :: l=>match k with
  | 0=>d
  | k+1=>jZ l k
def aaH (n:Nat):SV→Option (Bool×(Nat→PV))
 | .p b (.arr n' g)=>match n'.beq n with
  | true=>some (b,g)
  | false=>none
 | .p b (.agg l)=>match l.length.beq n with
  | true=>some (b,jZ l)
  | false=>none
 | _=>none
def dX (b:Bool):List PV→List SV
 | []=>[]
 | d :: l=>.p b d :: dX b l
def cellsOf:SV→Option (List SV)
 | .p b (.agg l)=>some (dX b l)
 | .p _ (.tup _)=>none
 | .p b (.val v)=>match v with
  | .agg _=>none
  | .tuple _=>none
  | v=>some [.p b (.val v)]
 | .p b (.arr n g)=>some (dX b (dW n g))
 | .p b d=>some [.p b d]
 | .agg l=>some l
 | .tup _=>none
 | .any=>none
 | .sub _ _ _ _=>none
 | .full _ _=>none
 | s=>some [s]
def takeN {α:Type}:Nat→List α→Option (List α)
 | 0,_=>some []
 | _+1,[]=>none
 | n+1,x :: l=>match takeN n l with
  | some r=>some (x :: r)
  | none=>none
def dJ {α:Type}:Nat→List α→List α
 | 0,l=>l
 | _+1,[]=>[]
 | n+1,_ :: l=>dJ n l
def nth {α:Type}:List α→Nat→Option α
 | [],_=>none
 | x :: _,0=>some x
 | _ :: l,n+1=>nth l n
def splice:List SV→Nat→List SV→Option (List SV)
 | cs,0,[]=>some cs
 | _ :: cs,0,x :: new=>match splice cs 0 new with
  | some r=>some (x :: r)
  | none=>none
 | c :: cs,n+1,new=>match splice cs n new with
  | some r=>some (c :: r)
  | none=>none
 | _,_,_=>none
def bV (agg:Bool) (size off:Nat) (cs:List SV):Option SV:=
 match agg with
 | true=>match takeN size (dJ off cs) with
  | some l=>some (lF l)
  | none=>none
 | false=>nth cs off
def ofConst:Value→SV
 | .agg cs=>match cs.toList.all (·.oneCell') with
  | true=>.p true (.agg (cs.toList.map .val))
  | false=>.any
 | .func (.func f) ⟨[]⟩ ⟨[]⟩=>.fn f []
 | v=>.p true (.val v)
def St.ev (st:St):Operand→SV
 | .tmp t=>st.get t
 | .const v=>ofConst v
 | .global _=>.any
 | .func f=>.fn f []
def St.alloc (st:St) (o:Ob):St:={ st with ob:=(st.no,some o) :: st.ob,no:=st.no+1 }
def St.bX (st:St) (i:Nat) (o:Option Ob):St:={ st with ob:=(i,o) :: st.ob }
def adH:PV→PV→Prop
 | .val (.slice none 0 0),.seq n _=>n=0
 | .val (.int k a),.val (.int k' b)=>match sameKind k k' with | true=>a=b | false=>False
 | .val (.bool a),.val (.bool b)=>a=b
 | .val (.string a),.val (.string b)=>a=b
 | .val a,.val b=>a=b
 | .seq n f,.seq n' f'=>n=n'∧∀k,k<n→f k=f' k
 | .pt l o,.pt l' o'=>l=l'∧o=o'
 | .fn f l,.fn f' l'=>f=f'∧l=l'
 | .bnd f l,.bnd f' l'=>f=f'∧l=l'
 | .arr n f,.arr n' f'=>n=n'∧∀k,k<n→f k=f' k
 | _,_=>False
def vE:List PV→List PV→Prop
 | [],[]=>True
 | [x],[y]=>adH x y
 | x :: xs,y :: ys=>adH x y∧vE xs ys
 | _,_=>False
def ad9:PV→PV→Prop
 | .agg xs,.agg ys=>vE xs ys
 | x,y=>adH x y
def sN:List PV→List PV→Prop
 | [],[]=>True
 | [x],[y]=>ad9 x y
 | x :: xs,y :: ys=>ad9 x y∧sN xs ys
 | _,_=>False
def ak:PV→PV→Prop
 | .tup xs,.tup ys=>sN xs ys
 | x,y=>ad9 x y
structure Spec where
 A:Type
 args:A→List SV
 objs:A→List Ob
 pre:A→Prop
 res:A→PV
 objs':A→List Ob
 fresh:Bool
 ro:Nat
 inl:List Nat:=[]
 gl:List (Nat×Array Value):=[]
structure bB where
 P:Program
 Tb:Tab
 nt:Nat
 ro:Nat
 m:Nat
 rnd:Bool
 yl:Option (Nat×List (List PV))
 inl:List Nat
 gl:List (Nat×Array Value)
 nw:Bool
def amv (v:Value) (K:Value→Prop):Prop:=
 match v with
 | .int k n=>K (.int k n)
 | .bool b=>K (.bool b)
 | .string s=>K (.string s)
 | .slice a l c=>K (.slice a l c)
 | .pointer a=>K (.pointer a)
 | v=>K v
theorem alX (v:Value) (K:Value→Prop):amv v K=K v:=by cases v<;>rfl
def alL (d:PV) (K:PV→Prop):Prop:=
 match d with
 | .val v=>amv v fun v=>K (.val v)
 | .seq n f=>K (.seq n f)
 | .pt l o=>K (.pt l o)
 | .agg l=>K (.agg l)
 | .tup l=>K (.tup l)
 | .fn f l=>K (.fn f l)
 | .arr n f=>K (.arr n f)
 | .bnd f l=>K (.bnd f l)
theorem alG (d:PV) (K:PV→Prop):alL d K=K d:=by
 cases d with
 | val v=>exact alX v fun v=>K (.val v)
 | _=>rfl
def ame (b:Bool) (K:Bool→Prop):Prop:=match b with | true=>K true | false=>K false
theorem als (b:Bool) (K:Bool→Prop):ame b K=K b:=by cases b<;>rfl
def zy (s:SV) (K:SV→Prop):Prop:=
 match s with
 | .p b d=>ame b fun b=>alL d fun d=>K (.p b d)
 | .own i o=>K (.own i o)
 | .el i sz j o=>K (.el i sz j o)
 | .row i=>K (.row i)
 | .sub i sz lo n=>K (.sub i sz lo n)
 | .agg l=>K (.agg l)
 | .tup l=>K (.tup l)
 | .fn f l=>K (.fn f l)
 | .full n f=>K (.full n f)
 | .any=>K .any
 | .asl i N lo n=>K (.asl i N lo n)
 | .mp i=>K (.mp i)
theorem aai (s:SV) (K:SV→Prop):zy s K=K s:=by
 cases s<;>first | rfl | (simp only[zy,als,alG])
def aS (st:St) (d:Option Nat) (s:SV) (K:St→Prop):Prop:=
 zy s fun s=>match d,st with
  | some t,⟨fr,ob,no,k⟩=>K ⟨(t,s) :: fr,ob,no,k⟩
  | none,⟨fr,ob,no,k⟩=>K ⟨fr,ob,no,k⟩
theorem wF (st:St) (d:Option Nat) (s:SV) (K:St→Prop):aS st d s K=K (st.adG d s):=by
 unfold aS;rw[aai];cases d<;>rfl
def aop (st:St) (d:Option Nat) (r:BR) (K:St→Prop):Prop:=
 match r with
 | .ok v=>aS st d (.p true (.val v)) K
 | .need p v=>p∧aS st d (.p true (.val v)) K
 | .no=>False
def sW:Bool→Prop→Prop→Prop
 | true,a,_=>a
 | false,_,b=>b
theorem aZ {t:Bool} {A B:Prop} (h:t=true→A) (h':t=false→B):sW t A B:=by
 cases t
 ·exact h' rfl
 ·exact h rfl
theorem yj {t:Bool} {A B:Prop} (h:sW t A B):(t=true∧A)∨(t=false∧B):=by
 cases t
 ·exact .inr ⟨rfl,h⟩
 ·exact .inl ⟨rfl,h⟩
def pW (st:St) (o:Ob) (K:St→Nat→Prop):Prop:=
 match st with
 | ⟨fr,ob,no,k⟩=>K ⟨fr,(no,some o) :: ob,no+1,k⟩ no
theorem ni (st:St) (o:Ob) (K:St→Nat→Prop):pW st o K=K (st.alloc o) st.no:=rfl
def zeros (l:List Value):List SV:=match l with
 | []=>[]
 | v :: l=>.p true (.val v) :: zeros l
def qg (place:Nat→Option (Nat×Nat)) (st:St):List SV→List (Nat×Operand)→Option (List SV)
 | cs,[]=>some cs
 | cs,(i,x) :: rest=>
  match place i,cellsOf (st.ev x) with
  | some (off,size),some new=>
   match new.length.beq size with
   | true=>match splice cs off new with
    | some r=>qg place st r rest
    | none=>none
   | false=>none
  | _,_=>none
def qX (Tb:Tab) (fs:List (Nat×Nat)) (i:Nat):Option (Nat×Nat):=
 match nth fs i with
 | some (off,t)=>match look Tb t with
  | some ⟨_,size,_,_⟩=>some (off,size)
  | none=>none
 | none=>none
def vM:Nat→List SV→List SV
 | 0,_=>[]
 | n+1,z=>z++vM n z
def bn (sz:Nat) (l:List PV) (j:Nat):List PV:=match takeN sz (dJ (j*sz) l) with
 | some r=>r
 | none=>[]
def ac0 (W:World) (b:Nat) (cs:Array Value):Prop:=∃T fr,W.heap[b]?=some (.cells cs T fr)
def acF (μ:Nat→Option (Array Value)) (W:World):Prop:=∀b cs,μ b=some cs→ac0 W b cs
structure gI (I:Nat→Prop) (μ:Nat→Option (Array Value)) (W W':World):Prop where
 os:W'.os=W.os
 tape:W'.tape=W.tape
 output:W'.output=W.output
 size:W.heap.size≤W'.heap.size
 own:∀b,I b→W'.heap[b]?=W.heap[b]?
 mem:∀b cs,μ b=some cs→ac0 W b cs→ac0 W' b cs
def ac8 (J:Option Nat→(Nat→Prop)→World→Prop):Prop:=∀(k:Option Nat) (I I':Nat→Prop) (W W':World),J k I W→(∀b,I b→I' b)→(∀b,I' b→I b∨W.heap.size≤b)→(∀b,I' b→b<W'.heap.size) →
 W'.os=W.os→W'.tape=W.tape→W'.output=W.output→W.heap.size≤W'.heap.size→(∀b,b<W.heap.size→¬I b→W'.heap[b]?=W.heap[b]?)→J k I' W'
def aej (μ:Nat→Option (Array Value)) (us:Array Value) (x:List PV):Prop:=
 us.size=x.length∧∀(k:Nat) (u:Value) (s:PV),us[k]?=some u→x[k]?=some s→aO μ u s
def rG:Nat→List Ob→List (Nat×Option Ob)
 | _,[]=>[]
 | i,o :: l=>(i,some o) :: rG (i+1) l
def iI (l:List Ob):St:={ fr:=[],ob:=rG 0 l,no:=l.length,k:=none }
def kE (hd:Nat→Option Value) (l:List Ob) (ro:Nat) (b:Nat):Prop:=∃(k:Nat) (o:Ob),ro≤k∧l[k]?=some o∧(hd k).bind aG=some b
def kP (w:World) (E:Env) (l:List Ob) (ro:Nat):Ctx:=
 { w0:=w,bor:=kE E.hd l ro,mem0:=E.mem,base:=w.heap.size,nt:=0,hd0:=E.hd,m:=l.length,ro:=ro,kh:=l.length,wk:={ w with heap:=#[] },nm:=false,J:=fun k I ws=>k=none∧I=kE E.hd l ro∧ws=w,tm:=fun b=>w.heap.size≤b }
def jV (E:Env) (vs:Array Value) (l:List SV):Prop:=
 vs.size=l.length∧∀(k:Nat) (u:Value) (s:SV),vs[k]?=some u→l[k]?=some s→aM E u s
def Spec.post (S:Spec) (a:S.A):List Ob:=(S.objs a).take S.ro++S.objs' a
def aL (P:Program) (f:Nat) (S:Spec):Prop:=
 (∃fn,P.funcs[f]?=some fn∧fn.body.isSome=true∧(fn.name=="runtime.NumGoroutine")=false) ∧
 ∀(a:S.A),S.pre a→∀(E:Env) (vs:Array Value) (w:World),(∀p∈S.gl,E.mem p.1=some p.2) →
  bq (kP w E (S.objs a) S.ro) E (iI (S.objs a)) w→jV E vs (S.args a) →
  Calls P f vs w fun e w'=>∃v E',e=.returned v∧aO (E'.m S.fresh) v (S.res a)∧bq (kP w E (S.objs a) S.ro) E' (iI (S.post a)) w'
structure aaO (X:bB) (f:Nat) (args:List SV) (st:St) (K:SV→St→Prop):Prop where
 fn:∃fn,X.P.funcs[f]?=some fn∧fn.body.isSome=true∧(fn.name=="runtime.NumGoroutine")=false
 run:∀(C:Ctx) (E:Env) (vs:Array Value) (w:World),C.m=X.m→C.ro=X.ro→C.ro≤C.m→(∀i b,i<C.m→(C.hd0 i).bind aG=some b→b<C.base)→(∀p∈X.gl,C.mem0 p.1=some p.2)→(X.nw=true→∀b,C.base≤b→C.tm b)→bq C E st w→jV E vs args →
  Calls X.P f vs w fun e w'=>∃v E' s st',e=.returned v∧aM E' v s∧(E.Le E'∧E'.ws=E.ws∧E'.I=E.I)∧bq C E' st' w'∧iC w w'∧K s st'
def gX (i:Nat):List Nat→Bool
 | []=>false
 | j :: l=>(i.beq j).or (gX i l)
def aa0 (st:St) (js:List Nat) (s c:SV):Prop:=
 match c with
 | .own k off'=>match s with
  | .own i off=>nth js k=some i∧off=off'
  | _=>False
 | .row k=>match s with
  | .row i=>nth js k=some i
  | _=>False
 | .p false d=>match s with
  | .p _ d'=>ak d' d
  | .row i=>match gX i js,st.obj i with
   | false,some (.row _ _ n f)=>ak (.seq n f) d
   | _,_=>False
  | .asl i N lo n=>match gX i js,st.obj i with
   | false,some (.arr _ N' f)=>N'=N∧ak (.seq n (fun k=>[f (lo+k)])) d
   | _,_=>False
  | _=>False
 | .mp k=>match s with
  | .mp i=>nth js k=some i
  | _=>False
 | .any=>True
 | _=>False
def rU (st:St) (js:List Nat):List SV→List SV→Prop
 | [],[]=>True
 | [s],[c]=>aa0 st js s c
 | s :: ss,c :: cs=>aa0 st js s c∧rU st js ss cs
 | _,_=>False
def aax (st:St) (js:List Nat) (s c:SV):Prop:=
 match c with
 | .fn f l=>match s with
  | .fn f' l'=>f'=f∧rU st js l' l
  | _=>False
 | c=>aa0 st js s c
def nk (st:St) (js:List Nat):List SV→List SV→Prop
 | [],[]=>True
 | [s],[c]=>aax st js s c
 | s :: ss,c :: cs=>aax st js s c∧nk st js ss cs
 | _,_=>False
def uG:SV→SV→Bool
 | .row _,.p _ _=>true
 | .asl _ _ _ _,.p _ _=>true
 | _,_=>false
def rF:List SV→List SV→Bool
 | .row _ :: l,.p _ _ :: m=>true
 | .asl _ _ _ _ :: l,.p _ _ :: m=>true
 | _ :: l,_ :: m=>rF l m
 | _,_=>false
def jg:List SV→List SV→Bool
 | .row _ :: _,.p _ _ :: _=>true
 | .asl _ _ _ _ :: _,.p _ _ :: _=>true
 | .fn _ l' :: l,.fn _ m' :: m=>(rF l' m').or (jg l m)
 | _ :: l,_ :: m=>jg l m
 | _,_=>false
def obM (st:St) (js:List Nat) (j:Nat) (o:Ob):Prop:=
 match o with
 | .cells T cs=>match st.obj j with
  | some (.cells T' cs')=>T'=T∧nk st js cs' cs
  | _=>False
 | .row T sz n f=>match st.obj j with
  | some (.row T' sz' n' f')=>T'=T∧sz'=sz∧n'=n∧∀k,k<n→f' k=f k
  | _=>False
 | .arr T n f=>match st.obj j with
  | some (.arr T' n' f')=>T'=T∧n'=n∧∀k,k<n→f' k=f k
  | _=>False
 | .map kt n get=>match st.obj j with
  | some (.map kt' n' get')=>kt'=kt∧n'=n∧∀k,get' k=get k
  | _=>False
def nL (st:St) (all:List Nat):List Nat→List Ob→Prop
 | [],[]=>True
 | [j],[o]=>obM st all j o
 | j :: js,o :: os=>obM st all j o∧nL st all js os
 | _,_=>False
def ad3 (st:St) (j:Nat) (o:Ob):Bool:=
 match o with
 | .cells _ cs=>match st.obj j with
  | some (.cells _ cs')=>jg cs' cs
  | _=>false
 | _=>false
def jM (st:St):List Nat→List Ob→Bool
 | j :: js,o :: os=>(ad3 st j o).or (jM st js os)
 | _,_=>false
def pY (js:List Nat):SV→SV
 | .own k off=>match nth js k with | some i=>.own i off | none=>.any
 | .row k=>match nth js k with | some i=>.row i | none=>.any
 | .p b d=>.p b d
 | .mp k=>match nth js k with | some i=>.mp i | none=>.any
 | _=>.any
def nA (js:List Nat):List SV→List SV
 | []=>[]
 | s :: l=>pY js s :: nA js l
def sQ (js:List Nat):Ob→Ob
 | .cells T cs=>.cells T (nA js cs)
 | .row T sz n f=>.row T sz n f
 | .arr T n f=>.arr T n f
 | .map kt n get=>.map kt n get
def ku (all:List Nat):List Nat→List Ob→List (Nat×Option Ob)→List (Nat×Option Ob)
 | j :: js,o :: os,l=>ku all js os ((j,some (sQ all o)) :: l)
 | _,_,l=>l
def distinct:List Nat→Bool
 | []=>true
 | j :: l=>(!(gX j l)).and (distinct l)
def nD (ro:Nat):List Nat→Bool
 | []=>true
 | j :: l=>(ro.ble j).and (nD ro l)
def yc:List SV→List SV→Prop
 | .p _ (.val v) :: l,.p _ (.val u) :: l'=>v=u∧yc l l'
 | [],[]=>True
 | _,_=>False
def afG (st:St) (j:Nat) (o:Ob):Prop:=
 match o with
 | .cells T cs=>match st.obj j with
  | some (.cells T' cs')=>T=T'∧yc cs cs'
  | _=>False
 | _=>False
def acV (st:St):List Nat→List Ob→Prop
 | [],_=>True
 | j :: js,o :: os=>afG st j o∧acV st js os
 | _,_=>False
def evs (st:St):List Operand→List SV
 | []=>[]
 | x :: l=>st.ev x :: evs st l
def asy:List Nat→Bool
 | []=>true
 | _=>false
def aaE (X:bB) (gr:Bool) (f:Nat) (args:List SV) (dst:Option Nat) (st:St) (K:St→Prop):Prop:=
 ∃S:Spec,aL X.P f S∧∃(a:S.A) (js:List Nat),(distinct js=true∧(X.nw.or (asy (dJ S.ro js))).and (nD X.ro (dJ S.ro js))=true∧js.length=(S.objs a).length∧(S.objs' a).length=(dJ S.ro js).length∧(gr=true→dJ S.ro js=[]∨acV st (dJ S.ro js) (S.objs' a)) ∧
   ((jg args (S.args a)).or (jM st js (S.objs a))=true→S.fresh=true∧dJ S.ro js=[])∧(S.gl=[]∨S.gl=X.gl)) ∧
  nk st js args (S.args a)∧nL st js js (S.objs a)∧S.pre a ∧
  match st with
  | ⟨fr,ob,no,k⟩=>aS ⟨fr,ku js (dJ S.ro js) (S.objs' a) ob,no,k⟩ dst (.p (S.fresh.and X.nw) (S.res a)) K
def aiw (n:Nat) (x:SV) (dst:Option Nat) (st:St) (K:St→Prop):Prop:=
 match x with
 | .own i off=>match st.obj i with
  | some (.arr _ n' f)=>match off with
   | 0=>match n'.beq n with
    | true=>aS st dst (.p false (.arr n f)) K
    | false=>False
   | _+1=>False
  | some (.cells _ cs)=>match bV true n off cs with
   | some s=>aS st dst s K
   | none=>False
  | _=>False
 | .el i sz j off=>match st.obj i with
  | some (.row _ sz' m f)=>match sz.beq sz' with
   | true=>j<m∧∃g,takeN n (dJ off (f j))=some (dW n g)∧aS st dst (.p false (.arr n g)) K
   | false=>False
  | _=>False
 | .p b (.pt l off)=>∃g,takeN n (dJ off l)=some (dW n g)∧aS st dst (.p b (.arr n g)) K
 | _=>False
def uP (X:bB) (o:Oper) (st:St) (K:St→Prop):Prop:=
  match o.op with
  | .load T x=>match look X.Tb T with
    | some ⟨d,size,_,_⟩=>match nY size d with
     | some n=>aiw n (st.ev x) o.dst st K
     | none=>match st.ev x with
      | .own i off=>match st.obj i with
        | some (.cells _ cs)=>match bV d.isAgg size off cs with
          | some s=>aS st o.dst s K
          | none=>False
        | some (.arr _ n f)=>match d.isAgg,size with
          | false,1=>off<n∧aS st o.dst (.p false (f off)) K
          | _,_=>False
        | _=>False
      | .el i sz j off=>match st.obj i with
        | some (.row _ sz' n f)=>match sz.beq sz' with
          | true=>j<n∧match bV d.isAgg size off (dX false (f j)) with
            | some s=>aS st o.dst s K
            | none=>False
          | false=>False
        | _=>False
      | .p b (.pt l off)=>match bV d.isAgg size off (dX b l) with
          | some s=>aS st o.dst s K
          | none=>False
      | _=>False
    | none=>False
  | .fieldAddr T x f=>match look X.Tb T with
    | some ⟨.struct fs,_,_,_⟩=>match qX X.Tb fs f with
      | some (off,_+1)=>match st.ev x with
        | .own i o'=>aS st o.dst (.own i (o'+off)) K
        | .el i sz j o'=>aS st o.dst (.el i sz j (o'+off)) K
        | .p b (.pt l o')=>aS st o.dst (.p b (.pt l (o'+off))) K
        | _=>False
      | _=>False
    | _=>False
  | .indexAddr T x i=>match look X.Tb T with
    | some ⟨.slice e,_,_,_⟩=>match look X.Tb e with
      | some ⟨_,sz+1,_,_⟩=>match st.ev x,st.ev i with
        | .p b (.seq n f),.p _ (.val (.int _ j))=>(0≤j∧j<(n:Int))∧(f j.toNat).length=sz+1∧aS st o.dst (.p b (.pt (f j.toNat) 0)) K
        | .row r,.p _ (.val (.int _ j))=>match st.obj r with
          | some (.row _ sz' n _)=>match sz'.beq (sz+1) with
            | true=>(0≤j∧j<(n:Int))∧aS st o.dst (.el r (sz+1) j.toNat 0) K
            | false=>False
          | _=>False
        | _,_=>False
      | _=>False
    | some ⟨.array n e,_,_,_⟩=>match look X.Tb e with
      | some ⟨_,sz,_,_⟩=>match st.ev x,st.ev i with
        | .own q off,.p _ (.val (.int _ j))=>(0≤j∧j<(n:Int))∧aS st o.dst (.own q (off+j.toNat*sz)) K
        | .p b (.pt l off),.p _ (.val (.int _ j))=>match sz with
          | 1=>(0≤j∧j<(n:Int))∧∃d,l[off+j.toNat]?=some d∧aS st o.dst (.p b (.pt [d] 0)) K
          | _=>False
        | _,_=>False
      | _=>False
    | _=>False
  | _=>False
def pq (f:Nat→List PV) (j off:Nat) (ds:List PV) (k:Nat):List PV:=if k=j then (f j).take off++ds++(f j).drop (off+ds.length) else f k
def vals (l:List Value):List PV:=match l with
 | []=>[]
 | v :: l=>.val v :: vals l
def oH (f:Nat→PV) (j:Nat) (d:PV) (k:Nat):PV:=if k=j then d else f k
def alV (X:bB) (T:Nat) (s:SV):Option (Nat×(Nat→PV)):=
 match look X.Tb T with
 | some ⟨d,size,_,_⟩=>match nY size d with
  | some n=>match aaH n s with
   | some (_,g)=>some (n,g)
   | none=>none
  | none=>none
 | none=>none
def aht (X:bB) (T:Nat) (x y:SV) (st:St):Option (Nat×Ob):=
 match look X.Tb T with
 | some ⟨d,size,_,_⟩=>match nY size d with
  | some n=>match x with
   | .own i 0=>match st.obj i,X.ro.ble i with
    | some (.arr T' n' _),true=>match n'.beq n,aaH n y with
     | true,some (_,g)=>some (i,.arr T' n g)
     | _,_=>none
    | _,_=>none
   | _=>none
  | none=>none
 | none=>none
def kindOf (Tb:Tab) (k:Nat):Option dw:=
 match look Tb k with
 | some ⟨.int ik,_,_,_⟩=>some (.int ik)
 | some ⟨.string,_,_,_⟩=>some .str
 | some ⟨.array n e,_,_,_⟩=>match look Tb e with
  | some ⟨.bool,1,_,_⟩=>some (.bools n)
  | _=>none
 | _=>none
def aj4 (kt:dw) (s:SV) (K:MK→Prop):Prop:=
 match kt,s with
 | .int ik,.p _ (.val (.int k a))=>match sameKind ik k with
  | true=>K (.int a)
  | false=>False
 | .str,.p _ (.val (.string s))=>K (.str s)
 | .bools n,.p _ (.arr n' f)=>match n.beq n' with
  | true=>∃l:List Bool,(l.length=n∧∀k,k<n→f k=.val (.bool (l.getD k false)))∧K (.bools l)
  | false=>False
 | _,_=>False
noncomputable def l5 (get:MK→Option PV) (mk:MK) (d:PV) (k:MK):Option PV:=open Classical in if k=mk then some d else get k
def acQ (X:bB) (T:Nat) (m k v:SV) (dst:Option Nat) (st:St) (K:St→Prop):Prop:=
 match look X.Tb T with
 | some ⟨.map kT _,_,_,_⟩=>match m with
  | .mp i=>match st.obj i,kindOf X.Tb kT with
   | some (.map kt0 n get),some kt=>match X.ro.ble i,v,cellsOf v with
    | true,.p _ (.val x),some [_]=>kt0=kt∧aj4 kt k fun mk=>∃n',((get mk=none→n'=n+1)∧(∀d,get mk=some d→n'=n))∧aS (st.bX i (some (.map kt n' (l5 get mk (.val x))))) dst .any K
    | _,_,_=>False
   | _,_=>False
  | _=>False
 | _=>False
def ahj (X:bB) (T:Nat) (m k:SV) (ok:Bool) (dst:Option Nat) (st:St) (K:St→Prop):Prop:=
 match look X.Tb T with
 | some ⟨.map kT eT,_,_,_⟩=>match m,look X.Tb eT with
  | .mp i,some ⟨dT,_,_,[z]⟩=>match st.obj i,kindOf X.Tb kT with
   | some (.map kt0 n get),some kt=>(kt0=kt∧dT.isAgg=false)∧aj4 kt k fun mk=>∃(d:PV) (b:Bool),((∀d',get mk=some d'→d'=d∧b=true)∧(get mk=none→d=.val z∧b=false)) ∧
     match ok with
     | false=>aS st dst (.p false d) K
     | true=>aS st dst (.p false (.tup [d,.val (.bool b)])) K
   | _,_=>False
  | _,_=>False
 | _=>False
def adZ (X:bB) (o:Oper) (st:St) (K:St→Prop):Prop:=
  match o.op with
  | .alloc T=>match look X.Tb T with
    | some ⟨d,size,_,z⟩=>match nY size d with
      | some n=>pW st (.arr T n (jZ (vals z))) fun st i=>aS st o.dst (.own i 0) K
      | none=>pW st (.cells T (zeros z)) fun st i=>aS st o.dst (.own i 0) K
    | none=>False
  | .box T x=>match alV X T (st.ev x) with
    | some (n,g)=>pW st (.arr T n g) fun st i=>aS st o.dst (.own i 0) K
    | none=>match cellsOf (st.ev x) with
      | some cs=>pW st (.cells T cs) fun st i=>aS st o.dst (.own i 0) K
      | none=>False
  | .makeMap T none=>match look X.Tb T with
    | some ⟨.map kT _,_,_,_⟩=>match kindOf X.Tb kT with
      | some kt=>pW st (.map kt 0 (fun _=>none)) fun st i=>aS st o.dst (.mp i) K
      | none=>False
    | _=>False
  | .insert T m k v=>acQ X T (st.ev m) (st.ev k) (st.ev v) o.dst st K
  | .mapUpdate T m k v=>acQ X T (st.ev m) (st.ev k) (st.ev v) o.dst st K
  | .lookup T m k ok=>ahj X T (st.ev m) (st.ev k) ok o.dst st K
  | .store T x y=>match aht X T (st.ev x) (st.ev y) st with
   | some (i,o')=>aS (st.bX i (some o')) o.dst .any K
   | none=>match look X.Tb T with
    | some ⟨d0,size,_,_⟩=>match st.ev x,cellsOf (st.ev y) with
      | .own i off,some new=>match new.length.beq size with
        | true=>match st.obj i with
          | some (.cells T' cs)=>match X.ro.ble i,splice cs off new with
            | true,some r=>aS (st.bX i (some (.cells T' r))) o.dst .any K
            | _,_=>False
          | some (.arr T' n f)=>match X.ro.ble i,d0.isAgg,size,new with
            | true,false,1,[.p _ d]=>off<n∧aS (st.bX i (some (.arr T' n (oH f off d)))) o.dst .any K
            | _,_,_,_=>False
          | _=>False
        | false=>False
      | .el i sz j off,some new=>match new.length.beq size,rZ new with
        | true,some (_,ds)=>match st.obj i with
          | some (.row T' sz' n f)=>match X.ro.ble i,sz.beq sz' with
            | true,true=>(j<n∧off+ds.length≤sz)∧aS (st.bX i (some (.row T' sz n (pq f j off ds)))) o.dst .any K
            | _,_=>False
          | _=>False
        | _,_=>False
      | _,_=>False
    | none=>False
  | .makeSlice T l c=>match look X.Tb T with
    | some ⟨.slice e,_,_,_⟩=>match look X.Tb e with
      | some ⟨_,sz+1,by_,z⟩=>match st.ev l,st.ev c with
        | .p _ (.val (.int _ n)),.p _ (.val (.int _ m))=>(0≤n∧n≤m∧m≤281474976710655∧by_*m.toNat≤281474976710656)∧pW st (.row e (sz+1) n.toNat fun _=>vals z) fun st i=>aS st o.dst (.row i) K
        | _,_=>False
      | _=>False
    | _=>False
  | .buildSlice T len parts=>match look X.Tb T with
    | some ⟨.slice e,_,_,_⟩=>match look X.Tb e with
      | some ⟨_,sz+1,_,z⟩=>
        match qg (fun i=>match i.blt len with | true=>some (i*(sz+1),sz+1) | false=>none) st (vM len (zeros z)) parts.toList with
        | some cs=>match rZ cs with
          | some (_,ds)=>match (len*(sz+1)).blt 1000 with
            | true=>pW st (.row e (sz+1) len (bn (sz+1) ds)) fun st i=>aS st o.dst (.row i) K
            | false=>False
          | none=>False
        | none=>False
      | _=>False
    | _=>False
  | _=>False
def sj (f:Nat→List PV) (lo n:Nat) (z:List PV) (k:Nat):List PV:=if lo≤k∧k<lo+n then z else f k
def bS (n:Nat) (f g:Nat→List PV) (k:Nat):List PV:=if k<n then f k else g (k-n)
def akM (st:St) (e sz:Nat):SV→Option (Nat×(Nat→List PV)×Option Nat)
 | .row j=>match st.obj j with
  | some (.row e' sz' m g)=>match (e'.beq e).and (sz'.beq sz) with
   | true=>some (m,g,some j)
   | false=>none
  | _=>none
 | .p _ (.seq m g)=>some (m,g,none)
 | .p _ (.val (.slice none 0 0))=>some (0,fun _=>[],none)
 | _=>none
def alP (i:Nat):Option Nat→Bool
 | some j=>!(i.beq j)
 | none=>true
def ovl (n lo m:Nat) (f:Nat→List PV) (k:Nat):List PV:=if n≤k∧k<n+m then f (lo+(k-n)) else f k
def abP (X:bB) (e sz:Nat) (s x:SV) (dst:Option Nat) (st:St) (K:St→Prop):Prop:=
 match s,x with
 | .sub i sz' 0 n,.sub j sz'' lo m=>match ((i.beq j).and (X.ro.ble i)).and ((sz'.beq sz).and (sz''.beq sz)),st.obj i with
  | true,some (.row e' sz3 N f)=>match (e'.beq e).and (sz3.beq sz) with
   | true=>(n+m≤N∧lo+m≤N∧0<N)∧aS (st.bX i (some (.row e sz N (ovl n lo m f)))) dst (.sub i sz 0 (n+m)) K
   | false=>False
  | _,_=>False
 | _,_=>False
def adK (X:bB) (t:Nat) (s x:SV) (dst:Option Nat) (st:St) (K:St→Prop):Prop:=
 match look X.Tb t with
 | some ⟨.slice e,_,_,_⟩=>match look X.Tb e with
  | some ⟨_,sz+1,by_,_⟩=>match akM st e (sz+1) x with
   | some (m,g,j)=>match s with
    | .row i=>match (alP i j).and (X.m.ble i),st.obj i with
     | true,some (.row e' sz' n f)=>match (e'.beq e).and (sz'.beq (sz+1)) with
      | true=>(n+m≤maxLen∧(n+m)*by_≤140737488355328)∧(∀k,k<m→(g k).length=sz+1) ∧
        pW (st.bX i none) (.row e (sz+1) (n+m) (bS n f g)) fun st i=>aS st dst (.row i) K
      | false=>False
     | _,_=>False
    | .p _ (.val (.slice none 0 0))=>(m≤maxLen∧m*by_≤140737488355328)∧(∀k,k<m→(g k).length=sz+1) ∧
      pW st (.row e (sz+1) m g) fun st i=>aS st dst (.row i) K
    | .full n f=>(0<m∧n+m≤maxLen∧(n+m)*by_≤140737488355328)∧(∀k,k<n→(f k).length=sz+1)∧(∀k,k<m→(g k).length=sz+1) ∧
      aS st dst (.p false (.seq (n+m) (bS n f g))) K
    | _=>False
   | none=>abP X e (sz+1) s x dst st K
  | _=>False
 | _=>False
def kN (s:ByteArray) (j:Nat):List PV:=[.val (.int .u8 (s.data.getD j 0).toNat)]
def ad8 (X:bB) (t t':Nat) (s x:SV) (dst:Option Nat) (st:St) (K:St→Prop):Prop:=
 match look X.Tb t,look X.Tb t' with
 | some ⟨.slice e,_,_,_⟩,some ⟨.string,_,_,_⟩=>match look X.Tb e,x with
  | some ⟨.int .u8,1,by_,[z]⟩,.p _ (.val (.string str))=>match s with
   | .row i=>match X.m.ble i,st.obj i with
    | true,some (.row e' sz' n f)=>match (e'.beq e).and (sz'.beq 1) with
     | true=>((by_=1∧z=.int .u8 0)∧n+str.size≤maxLen∧n+str.size≤140737488355328) ∧
       pW (st.bX i none) (.row e 1 (n+str.size) (bS n f (kN str))) fun st i=>aS st dst (.row i) K
     | false=>False
    | _,_=>False
   | .p _ (.val (.slice none 0 0))=>((by_=1∧z=.int .u8 0)∧str.size≤maxLen∧str.size≤140737488355328) ∧
     pW st (.row e 1 str.size (kN str)) fun st i=>aS st dst (.row i) K
   | _=>False
  | _,_=>False
 | _,_=>False
def aeh (X:bB) (c:Call) (o:Oper) (st:St) (K:St→Prop):Prop:=
 match c with
 | ⟨.builtin .len,⟨[x]⟩,⟨[t]⟩⟩=>match look X.Tb t with
  | some ⟨.string,_,_,_⟩=>match st.ev x with
   | .p _ (.val (.string s))=>aS st o.dst (.p true (.val (.int .i64 s.size))) K
   | _=>False
  | some ⟨.slice _,_,_,_⟩=>match st.ev x with
   | .p _ (.seq n _)=>aS st o.dst (.p true (.val (.int .i64 n))) K
   | .p _ (.val (.slice none 0 0))=>aS st o.dst (.p true (.val (.int .i64 0))) K
   | .row i=>match st.obj i with
    | some (.row _ _ n _)=>aS st o.dst (.p true (.val (.int .i64 n))) K
    | _=>False
   | .sub _ _ _ n=>aS st o.dst (.p true (.val (.int .i64 n))) K
   | .asl _ _ _ n=>aS st o.dst (.p true (.val (.int .i64 n))) K
   | _=>False
  | some ⟨.map _ _,_,_,_⟩=>match st.ev x with
   | .mp i=>match st.obj i with
    | some (.map _ n _)=>aS st o.dst (.p true (.val (.int .i64 n))) K
    | _=>False
   | _=>False
  | _=>False
 | _=>False
def aaj:Value→PV
 | .int k n=>.val (.int k n)
 | .bool b=>.val (.bool b)
 | .string s=>.val (.string s)
 | .agg cs=>.agg (cs.toList.map .val)
 | v=>.val v
def vOk:Value→Bool
 | .agg cs=>cs.toList.all (·.oneCell')
 | .tuple _=>false
 | _=>true
def gu:List PV→Bool
 | []=>true
 | .val _ :: l=>gu l
 | _=>false
def alU:Bool→Prop
 | true=>True
 | false=>False
def wH (b:Bool):PV→Prop
 | .val _=>True
 | .agg l=>match gu l with
  | true=>True
  | false=>alU b
 | .arr n f=>match b with
  | true=>True
  | false=>∀k,k<n→gu [f k]=true
 | _=>alU b
def xU (b:Bool) (d x:PV):Prop:=wH b d∧ak d x
def mO:List SV→List PV→Prop
 | [],[]=>True
 | [.p b d],[v]=>xU b d v
 | .p b d :: l,v :: vs=>xU b d v∧mO l vs
 | _,_=>False
def agM (X:bB) (l:Nat) (args:List SV) (dst:Option Nat) (st:St) (K:St→Prop):Prop:=
 match X.yl,st with
 | some (l',xs),⟨fr,ob,no,some k⟩=>l=l'∧∃vs,xs[k]?=some vs∧mO args vs ∧
   aS ⟨fr,ob,no,some (k+1)⟩ dst (.p true (.val (.bool true))) K∧aS ⟨fr,ob,no,none⟩ dst (.p true (.val (.bool false))) K
 | _,_=>False
def frz (X:bB) (d:Option Nat):Bool:=
 match d with
 | some t=>gX (t+1000000) X.inl
 | none=>false
def mW:List Nat→List (Nat×Option Ob)→List (Nat×Option Ob)
 | [],l=>l
 | j :: js,l=>(j,none) :: mW js l
def an7 (i:Nat) (l:List Nat):List Nat:=match gX i l with
 | true=>l
 | false=>i :: l
def reach (st:St):Nat→SV→List Nat→List Nat
 | _,.row i,acc=>an7 i acc
 | _,.sub i _ _ _,acc=>an7 i acc
 | _,.asl i _ _ _,acc=>an7 i acc
 | n+1,.own i _,acc=>match gX i acc,st.obj i with
  | false,some (.cells _ cs)=>cs.foldl (fun acc s=>reach st n s acc) (i :: acc)
  | false,some (.arr _ _ _)=>i :: acc
  | _,_=>acc
 | n+1,.agg l,acc=>l.foldl (fun acc s=>reach st n s acc) acc
 | n+1,.tup l,acc=>l.foldl (fun acc s=>reach st n s acc) acc
 | n+1,.fn _ l,acc=>l.foldl (fun acc s=>reach st n s acc) acc
 | _,_,acc=>acc
def tV:List (Option PV)→Option (List PV)
 | []=>some []
 | some d :: l=>match tV l with
  | some ds=>some (d :: ds)
  | none=>none
 | none :: _=>none
def kY (st:St) (js:List Nat):Nat→SV→Option PV
 | _,.p _ d=>some d
 | _,.row i=>match gX i js,st.obj i with
  | true,some (.row _ _ n f)=>some (.seq n f)
  | _,_=>none
 | _,.sub i sz lo n=>match gX i js,st.obj i with
  | true,some (.row _ sz' _ f)=>match sz.beq sz' with
   | true=>some (.seq n (fun k=>f (lo+k)))
   | false=>none
  | _,_=>none
 | _,.asl i N lo n=>match gX i js,st.obj i with
  | true,some (.arr _ N' f)=>match N'.beq N with
   | true=>some (.seq n (fun k=>[f (lo+k)]))
   | false=>none
  | _,_=>none
 | n+1,.own i off=>match gX i js,st.obj i with
  | true,some (.cells _ cs)=>match tV (cs.map (kY st js n)) with
   | some ds=>some (.pt ds off)
   | none=>none
  | true,some (.arr _ m f)=>some (.pt (dW m f) off)
  | _,_=>none
 | n+1,.agg l=>match tV (l.map (kY st js n)) with
  | some ds=>some (.agg ds)
  | none=>none
 | n+1,.tup l=>match tV (l.map (kY st js n)) with
  | some ds=>some (.tup ds)
  | none=>none
 | n+1,.fn f l=>match tV (l.map (kY st js n)) with
  | some ds=>some (.fn f ds)
  | none=>none
 | _,_=>none
def abQ (X:bB) (s:SV) (d:Option Nat) (st:St) (K:St→Prop) (js:List Nat):Prop:=
 match nD X.m js,kY st js 5 s with
 | true,some d'=>aS { st with ob:=mW js st.ob } d (.p false d') K
 | _,_=>False
def agS (X:bB) (s:SV) (d:Option Nat) (st:St) (K:St→Prop):Prop:=
 match s with
 | .row i=>match X.m.ble i,st.obj i with
  | true,some (.row _ _ n f)=>aS (st.bX i none) d (.p false (.seq n f)) K
  | _,_=>False
 | .sub i sz lo n=>match X.m.ble i,st.obj i with
  | true,some (.row _ sz' _ f)=>match sz.beq sz' with
   | true=>aS (st.bX i none) d (.p false (.seq n (fun k=>f (lo+k)))) K
   | false=>False
  | _,_=>False
 | .own i off=>abQ X (.own i off) d st K (reach st 5 (.own i off) [])
 | .agg l=>abQ X (.agg l) d st K (reach st 5 (.agg l) [])
 | .tup l=>abQ X (.tup l) d st K (reach st 5 (.tup l) [])
 | .fn f l=>abQ X (.fn f l) d st K (reach st 5 (.fn f l) [])
 | .asl i N lo n=>abQ X (.asl i N lo n) d st K [i]
 | s=>aS st d s K
def aki (X:bB) (fr:List (Nat×SV)) (dst:Option Nat) (K:St→Prop) (s:SV) (st:St):Prop:=
 match st with
 | ⟨_,ob,no,k⟩=>match frz X dst with
  | true=>agS X s dst ⟨fr,ob,no,k⟩ K
  | false=>aS ⟨fr,ob,no,k⟩ dst s K
structure ads where
 A:Type
 args:Nat→A→List SV
 objs:Nat→A→List Ob
 pre:A→Prop
 ys:A→List (List PV)
def agP (P:Program) (f:Nat) (S:ads):Prop:=
 (∃fn,P.funcs[f]?=some fn∧fn.body.isSome=true∧(fn.name=="runtime.NumGoroutine")=false) ∧
 ∀(a:S.A),S.pre a→∀(l:Nat) (J:Option Nat→(Nat→Prop)→World→Prop) (E:Env) (vs:Array Value) (w:World),ac8 J→(∀b,E.tm b→∃cs,E.mem b=some cs) →
  (∀(k:Nat) (x:List PV) (us:Array Value) (I:Nat→Prop) (W1:World),(S.ys a)[k]?=some x→aej (E.m true) us x→J (some k) I W1→YieldAt Fence.wide 9 P l us W1 fun e W'=>
   (gI I E.mem W1 W'∧∀i b,i<(S.objs l a).length→(E.hd i).bind aG=some b→W'.heap[b]?=W1.heap[b]?) ∧
   ((e=.returned (.bool true)∧J (some (k+1)) I W')∨(e=.returned (.bool false)∧J none I W'))) →
  J (some 0) (fun _=>False) w→bq { kP w E (S.objs l a) (S.objs l a).length with tm:=E.tm } E (iI (S.objs l a)) w→jV E vs (S.args l a) →
  CallsIn Fence.wide 9 P f vs w fun e W'=>∃I,(∀b,I b→b<W'.heap.size)∧((e=.returned (.bool true)∧J (some (S.ys a).length) I W')∨(e=.returned (.bool false)∧J none I W'))
def ady (st:St) (js:List Nat) (s c:SV):Prop:=
 match c with
 | .p true d=>match s with
  | .p true d'=>ak d' d
  | _=>False
 | c=>aax st js s c
def rC (st:St) (js:List Nat):List SV→List SV→Prop
 | [],[]=>True
 | [s],[c]=>ady st js s c
 | s :: ss,c :: cs=>ady st js s c∧rC st js ss cs
 | _,_=>False
def aho (X:bB) (f:Nat) (args:List SV) (dst:Option Nat) (st:St) (K:St→Prop):Prop:=
 match X.yl,st with
 | some (l,xs),⟨fr,ob,no,some k⟩=>∃S:ads,agP X.P f S∧∃(a:S.A) (js:List Nat),(distinct js=true∧js.length=(S.objs l a).length∧(jg args (S.args l a)).or (jM ⟨fr,ob,no,some k⟩ js (S.objs l a))=false) ∧
   rC ⟨fr,ob,no,some k⟩ js args (S.args l a)∧nL ⟨fr,ob,no,some k⟩ js js (S.objs l a)∧S.pre a∧(∀i vs,(S.ys a)[i]?=some vs→xs[k+i]?=some vs) ∧
   aS ⟨fr,ob,no,some (k+(S.ys a).length)⟩ dst (.p true (.val (.bool true))) K∧aS ⟨fr,ob,no,none⟩ dst (.p true (.val (.bool false))) K
 | _,_=>False
def aaJ (f:Nat→PV) (lo n:Nat) (g:Nat→List PV) (k:Nat):PV:=if lo≤k∧k<lo+n then jZ (g (k-lo)) 0 else f k
def ajE (X:bB) (t:Nat) (x y:SV) (dst:Option Nat) (st:St) (K:St→Prop):Prop:=
 match look X.Tb t with
 | some ⟨.slice e,_,_,_⟩=>match look X.Tb e with
  | some ⟨_,1,_,_⟩=>match x with
   | .asl i N lo n=>match X.ro.ble i,st.obj i with
    | true,some (.arr T N' f)=>match y with
     | .p _ (.seq m g)=>(N'=N∧∀k,k<m→(g k).length=1)∧aS (st.bX i (some (.arr T N' (aaJ f lo (Nat.min m n) g)))) dst (.p true (.val (.int .i64 (Nat.min m n:Nat)))) K
     | _=>False
    | _,_=>False
   | _=>False
  | _=>False
 | _=>False
def xG (X:bB) (gr:Bool) (c:Call) (o:Oper) (st:St) (K:St→Prop):Prop:=
 match c with
 | ⟨.value f,args,_⟩=>match st.ev f with
  | .fn k capt=>match gX (k+2000000) X.inl,gr with
   | true,false=>aho X k (evs st args.toList++capt) o.dst st K
   | true,true=>False
   | false,_=>match gX k X.inl,gr with
    | false,_=>aaE X gr k (evs st args.toList++capt) o.dst st K
    | true,false=>aaO X k (evs st args.toList++capt) st (aki X st.fr o.dst K)
    | true,true=>False
  | .p b (.fn k capt)=>aaE X gr k (evs st args.toList++dX b capt) o.dst st K
  | .p b (.bnd k l)=>aaE X gr k (dX b l++evs st args.toList) o.dst st K
  | .p _ (.val (.func (.yield l) ⟨[]⟩ ⟨[]⟩))=>match gr with
   | false=>agM X l (evs st args.toList) o.dst st K
   | true=>False
  | _=>False
 | ⟨.builtin .append,⟨[s,x]⟩,⟨[t,t']⟩⟩=>match t.beq t' with
  | true=>adK X t (st.ev s) (st.ev x) o.dst st K
  | false=>ad8 X t t' (st.ev s) (st.ev x) o.dst st K
 | ⟨.builtin .min,⟨[x,y]⟩,_⟩=>match st.ev x,st.ev y with
  | .p _ (.val (.int k a)),.p _ (.val (.int _ b))=>aS st o.dst (.p true (.val (.int k (if b<a then b else a)))) K
  | _,_=>False
 | ⟨.builtin .max,⟨[x,y]⟩,_⟩=>match st.ev x,st.ev y with
  | .p _ (.val (.int k a)),.p _ (.val (.int _ b))=>aS st o.dst (.p true (.val (.int k (if b>a then b else a)))) K
  | _,_=>False
 | ⟨.builtin .copy,⟨[x,y]⟩,⟨[t,_]⟩⟩=>ajE X t (st.ev x) (st.ev y) o.dst st K
 | ⟨.builtin .clear,⟨[x]⟩,⟨[t]⟩⟩=>match look X.Tb t with
  | some ⟨.slice e,_,_,_⟩=>match look X.Tb e with
   | some ⟨_,sz+1,_,z⟩=>match st.ev x with
    | .sub i sz' lo n=>match (sz'.beq (sz+1)).and (X.ro.ble i),st.obj i with
     | true,some (.row T' sz'' m f)=>match sz''.beq (sz+1) with
      | true=>aS (st.bX i (some (.row T' (sz+1) m (sj f lo n (vals z))))) o.dst .any K
      | false=>False
     | _,_=>False
    | _=>False
   | _=>False
  | _=>False
 | _=>False
def iX (st:St) (x:Option Operand) (d:Int) (K:Int→Prop):Prop:=
 match x with
 | none=>K d
 | some x=>match st.ev x with
  | .p _ (.val (.int _ j))=>K j
  | _=>False
def amb (Tb:Tab) (t:Nat) (x y:SV):Option Nat:=
 match x,y with
 | .p _ (.seq n _),.p _ (.val (.slice none 0 0))=>match look Tb t with
  | some ⟨.slice _,_,_,_⟩=>some n
  | _=>none
 | _,_=>none
def uj (X:bB) (o:Oper) (st:St) (K:St→Prop):Prop:=
 match o.op with
 | .move x=>aS st o.dst (st.ev x) K
 | .assign x=>aS st o.dst (st.ev x) K
 | .pick c a b=>match st.ev c with
  | .p _ (.val (.bool t))=>sW t (aS st o.dst (st.ev a) K) (aS st o.dst (st.ev b) K)
  | _=>False
 | .binOp op t x y _=>match amb X.Tb t (st.ev x) (st.ev y) with
  | some n=>match op with
   | .eql=>∀b:Bool,(b=true→n=0)→aS st o.dst (.p true (.val (.bool b))) K
   | .neq=>∀b:Bool,(b=true→n=0)→aS st o.dst (.p true (.val (.bool (!b)))) K
   | _=>False
  | none=>aop st o.dst (binop X.Tb op t (st.ev x) (st.ev y)) K
 | .unOp op _ x=>aop st o.dst (unop op (st.ev x)) K
 | .convert s t x=>match look X.Tb s,look X.Tb t with
  | some _,some ⟨.int k,_,_,_⟩=>match st.ev x with
   | .p _ (.val (.int _ n))=>aS st o.dst (.p true (.val (.int k (k.wrap n)))) K
   | _=>False
  | some ⟨.slice e,_,_,_⟩,some ⟨.string,_,_,_⟩=>match look X.Tb e with
   | some ⟨.int .u8,_,_,_⟩=>match st.ev x with
    | .p _ (.seq n f)=>∃s:ByteArray,(s.size=n∧∀j,j<n→f j=kN s j)∧aS st o.dst (.p true (.val (.string s))) K
    | .row i=>match st.obj i with
     | some (.row _ 1 n f)=>∃s:ByteArray,(s.size=n∧∀j,j<n→f j=kN s j)∧aS st o.dst (.p true (.val (.string s))) K
     | _=>False
    | _=>False
   | _=>False
  | some _,some ⟨.string,_,_,_⟩=>match st.ev x with
   | .p b (.val (.string n))=>aS st o.dst (.p b (.val (.string n))) K
   | .p _ (.val (.int _ n))=>(0≤n∧n<128)∧aS st o.dst (.p true (.val (.string ⟨#[UInt8.ofNat n.toNat]⟩))) K
   | _=>False
  | _,_=>False
 | .makeFunc (.func f) ⟨[]⟩ capt=>aS st o.dst (.fn f (evs st capt.toList)) K
 | .makeFunc (.func f) first ⟨[]⟩=>match rZ (evs st first.toList) with
  | some (b,ds)=>aS st o.dst (.p b (.bnd f ds)) K
  | none=>False
 | .build T parts=>match look X.Tb T with
  | some ⟨.struct fs,_,_,z⟩=>match qg (qX X.Tb fs) st (zeros z) parts.toList with
   | some cs=>aS st o.dst (lF cs) K
   | none=>False
  | some ⟨.array n e,size,_,z⟩=>match look X.Tb e with
   | some ⟨_,sz,_,_⟩=>match qg (fun i=>some (i*sz,sz)) st (zeros z) parts.toList with
    | some cs=>match nY size (.array n e) with
     | some n=>match aaH n (lF cs) with
      | some (b,g)=>aS st o.dst (.p b (.arr n g)) K
      | none=>False
     | none=>aS st o.dst (lF cs) K
    | none=>False
   | none=>False
  | _=>False
 | .field T x f=>match look X.Tb T with
  | some ⟨.struct fs,_,_,_⟩=>match nth fs f with
   | some (off,t)=>match look X.Tb t with
    | some ⟨d,size,_,_⟩=>match st.ev x with
     | .p b (.agg l)=>match bV d.isAgg size off (dX b l) with
      | some s=>aS st o.dst s K
      | none=>False
     | .agg l=>match bV d.isAgg size off l with
      | some s=>aS st o.dst s K
      | none=>False
     | _=>False
    | none=>False
   | none=>False
  | _=>False
 | .extract x i=>match st.ev x with
  | .p b (.tup l)=>match nth l i with
   | some d=>aS st o.dst (.p b d) K
   | none=>False
  | .tup l=>match nth l i with
   | some s=>aS st o.dst s K
   | none=>False
  | _=>False
 | .index T x i=>match look X.Tb T with
  | some ⟨.string,_,_,_⟩=>match st.ev x,st.ev i with
   | .p _ (.val (.string s)),.p _ (.val (.int _ j))=>∃c:UInt8,(0≤j∧s[j.toNat]?=some c)∧aS st o.dst (.p true (.val (.int .u8 c.toNat))) K
   | _,_=>False
  | some ⟨.array n e,_,_,_⟩=>match look X.Tb e with
   | some ⟨d,sz,_,_⟩=>match st.ev i with
    | .p _ (.val (.int _ j))=>match st.ev x with
     | .p b (.agg l)=>(0≤j∧j<(n:Int))∧match bV d.isAgg sz (j.toNat*sz) (dX b l) with
      | some s=>aS st o.dst s K
      | none=>False
     | .agg l=>(0≤j∧j<(n:Int))∧match bV d.isAgg sz (j.toNat*sz) l with
      | some s=>aS st o.dst s K
      | none=>False
     | .p b (.arr n' f)=>match n'.beq n,d.isAgg,sz with
      | true,false,1=>(0≤j∧j<(n:Int))∧aS st o.dst (.p b (f j.toNat)) K
      | _,_,_=>False
     | _=>False
    | _=>False
   | none=>False
  | _=>False
 | .slice T x lo hi none=>match look X.Tb T with
  | some ⟨.string,_,_,_⟩=>match st.ev x with
   | .p _ (.val (.string s))=>iX st lo 0 fun l=>iX st hi s.size fun h=>(0≤l∧l≤h∧h≤(s.size:Int))∧aS st o.dst (.p true (.val (.string (s.extract l.toNat h.toNat)))) K
   | _=>False
  | some ⟨.slice e,_,_,_⟩=>match look X.Tb e with
   | some ⟨_,sz+1,_,_⟩=>match st.ev x with
    | .p b (.seq n f)=>iX st lo 0 fun l=>iX st hi n fun h=>(0≤l∧l≤h∧h≤(n:Int))∧(∀k,k<n→(f k).length=sz+1)∧aS st o.dst (.p b (.seq (h.toNat-l.toNat) (fun k=>f (l.toNat+k)))) K
    | .row r=>match st.obj r with
     | some (.row _ sz' m _)=>match sz'.beq (sz+1) with
      | true=>iX st lo 0 fun l=>iX st hi m fun h=>(0≤l∧l≤h∧h≤(m:Int)∧0<m)∧aS st o.dst (.sub r (sz+1) l.toNat (h.toNat-l.toNat)) K
      | false=>False
     | _=>False
    | .sub r sz' p n=>match sz'.beq (sz+1),st.obj r with
     | true,some (.row _ _ m _)=>iX st lo 0 fun l=>iX st hi n fun h=>(0≤l∧l≤h∧p+h≤(m:Int))∧aS st o.dst (.sub r (sz+1) (p+l.toNat) (h.toNat-l.toNat)) K
     | _,_=>False
    | _=>False
   | _=>False
  | some ⟨.array n e,_,_,_⟩=>match look X.Tb e with
   | some ⟨_,1,_,_⟩=>match st.ev x with
    | .own i 0=>iX st lo 0 fun l=>iX st hi n fun h=>(0≤l∧l≤h∧h≤(n:Int))∧aS st o.dst (.asl i n l.toNat (h.toNat-l.toNat)) K
    | _=>False
   | _=>False
  | _=>False
 | .nilCheck x=>match st.ev x with
  | .p b (.pt l off)=>aS st o.dst (.p b (.pt l off)) K
  | .own i off=>aS st o.dst (.own i off) K
  | _=>False
 | .slice T x lo (some hi) (some mx)=>match look X.Tb T with
  | some ⟨.slice e,_,_,_⟩=>match look X.Tb e with
   | some ⟨_,sz+1,_,_⟩=>match st.ev x with
    | .p _ (.seq n f)=>iX st lo 0 fun l=>iX st (some hi) n fun h=>iX st (some mx) n fun m=>(0≤l∧l≤h∧h=m∧h≤(n:Int))∧(∀k,k<n→(f k).length=sz+1)∧aS st o.dst (.full (h.toNat-l.toNat) (fun k=>f (l.toNat+k))) K
    | .row r=>match st.obj r with
     | some (.row _ _ n _)=>iX st lo 0 fun l=>iX st (some hi) n fun h=>iX st (some mx) n fun m=>(0≤l∧l≤h∧h≤m∧m≤(n:Int))∧aS st o.dst .any K
     | _=>False
    | _=>False
   | _=>False
  | _=>False
 | _=>False
def ny:Op→Bool
 | .call c=>match c.callee with
  | .builtin .len=>true
  | _=>false
 | .alloc _=>false
 | .box _ _=>false
 | .store _ _ _=>false
 | .buildSlice _ _ _=>false
 | .makeSlice _ _ _=>false
 | .makeMap _ _=>false
 | .insert _ _ _ _=>false
 | .mapUpdate _ _ _ _=>false
 | .lookup _ _ _ _=>false
 | _=>true
def iD:Op→Bool
 | .store _ _ _=>false
 | .insert _ _ _ _=>false
 | .mapUpdate _ _ _ _=>false
 | .call c=>match c.callee with
  | .builtin .append=>false
  | .builtin .clear=>false
  | .builtin .copy=>false
  | _=>true
 | _=>true
def arQ (X:bB) (x:Operand) (d:Option Nat) (st:St) (K:St→Prop):Prop:=agS X (st.ev x) d st K
def xR (X:bB) (o:Oper) (st:St) (K:St→Prop):Prop:=
 match o.op with
 | .call c=>aeh X c o st K
 | .load _ _=>uP X o st K
 | .fieldAddr _ _ _=>uP X o st K
 | .indexAddr _ _ _=>uP X o st K
 | .assign x=>match frz X o.dst with
  | true=>arQ X x o.dst st K
  | false=>uj X o st K
 | _=>uj X o st K
def ab9 (X:bB) (o:Oper) (st:St) (K:St→Prop):Prop:=
 match o.op with
 | .makeSlice T l c=>match look X.Tb T with
  | some ⟨.slice e,_,_,_⟩=>match look X.Tb e with
   | some ⟨_,sz+1,by_,z⟩=>match st.ev l,st.ev c with
    | .p _ (.val (.int _ n)),.p _ (.val (.int _ m))=>(0≤n∧n≤m∧m≤281474976710655∧by_*m.toNat≤281474976710656)∧aS st o.dst (.p false (.seq n.toNat fun _=>vals z)) K
    | _,_=>False
   | _=>False
  | _=>False
 | .buildSlice T len parts=>match look X.Tb T with
  | some ⟨.slice e,_,_,_⟩=>match look X.Tb e with
   | some ⟨_,sz+1,_,z⟩=>
    match qg (fun i=>match i.blt len with | true=>some (i*(sz+1),sz+1) | false=>none) st (vM len (zeros z)) parts.toList with
    | some cs=>match rZ cs with
     | some (_,ds)=>match (len*(sz+1)).blt 1000 with
      | true=>aS st o.dst (.p false (.seq len (bn (sz+1) ds))) K
      | false=>False
     | none=>False
    | none=>False
   | _=>False
  | _=>False
 | _=>False
def asi (X:bB) (d:Option Nat):Bool:=
 match d with
 | some t=>gX (t+4000000) X.inl
 | none=>false
def afu (X:bB) (gr:Bool) (o:Oper) (st:St) (K:St→Prop):Prop:=
 match o.op with
 | .call c=>xG X gr c o st K
 | _=>match asi X o.dst with
  | true=>ab9 X o st K
  | false=>adZ X o st K
def isBytes (Tb:Tab) (s t:Nat):Bool:=
 match look Tb s,look Tb t with
 | some ⟨.string,_,_,_⟩,some ⟨.slice _,_,_,_⟩=>true
 | some ⟨.slice _,_,_,_⟩,some ⟨.slice _,_,_,_⟩=>true
 | _,_=>false
def vI (X:bB) (o:Oper) (st:St) (K:St→Prop):Prop:=
 match o.op with
 | .convert s t x=>match look X.Tb s,look X.Tb t with
  | some ⟨.string,_,_,_⟩,some ⟨.slice e,_,_,_⟩=>match look X.Tb e with
   | some ⟨.int .u8,_,_,_⟩=>match st.ev x with
    | .p _ (.val (.string v))=>v.size≤maxLen∧aS st o.dst (.p X.nw (.seq v.size (kN v))) K
    | _=>False
   | _=>False
  | some ⟨.slice e,_,_,_⟩,some ⟨.slice _,_,_,_⟩=>match s.beq t,look X.Tb e with
   | true,some ⟨.int .u8,_,_,_⟩=>match st.ev x with
    | .row i=>match X.m.ble i,st.obj i with
     | true,some (.row _ _ n f)=>0<n∧aS (st.bX i none) o.dst (.p false (.seq n f)) K
     | _,_=>False
    | _=>False
   | _,_=>False
  | _,_=>False
 | _=>False
def step0 (X:bB) (gr:Bool) (o:Oper) (st:St) (K:St→Prop):Prop:=
 match bQ X.nt o.dst,ny o.op with
 | true,true=>match gr,o.op with
  | false,.convert s t _=>match isBytes X.Tb s t with
   | true=>vI X o st K
   | false=>xR X o st K
  | _,_=>xR X o st K
 | true,false=>afu X gr o st K
 | false,_=>False
def agx (X:bB) (d:Option Nat) (st:St) (K:St→Prop):Prop:=
 match d with
 | some t=>match gX (t+3000000) X.inl with
  | true=>agS X (st.get t) (some t) st K
  | false=>K st
 | none=>K st
def step (X:bB) (gr:Bool) (o:Oper) (st:St) (K:St→Prop):Prop:=step0 X gr o st fun st'=>agx X o.dst st' K
def akf (want lit:Bool) (A B:Prop):Prop:=
 match want,lit with
 | true,true=>A
 | false,false=>A
 | _,_=>B
def skipped:SV:=.p true (.val (.tuple ⟨[]⟩))
def stepG (X:bB) (gr:Bool) (all:List Oper) (o:Oper) (st:St) (K:St→Prop):Prop:=
 match o.guard with
 | none=>step X gr o st K
 | some (j,want)=>match nth all j with
  | some oj=>match oj.dst with
   | some d=>match st.get d,bQ X.nt o.dst with
    | .p _ (.val (.bool t)),true=>sW t
     (aS st (some d) (.p true (.val (.bool true))) fun st=>akf want true (step X gr o st K) (aS st o.dst skipped K))
     (aS st (some d) (.p true (.val (.bool false))) fun st=>akf want false (step X gr o st K) (aS st o.dst skipped K))
    | .p _ (.val (.tuple ⟨[]⟩)),true=>aS st o.dst skipped K
    | _,_=>False
   | none=>False
  | none=>False
noncomputable def ac4 (X:bB) (all:List Oper) (l:List Oper):St→(St→Prop)→Prop:=
 List.rec (motive:=fun _=>St→(St→Prop)→Prop) (fun st K=>K st) (fun o _ ih st K=>stepG X false all o st fun st'=>ih st' K) l
theorem akl (X:bB) (all:List Oper) (o:Oper) (rest:List Oper) (st:St) (K:St→Prop):ac4 X all (o :: rest) st K=stepG X false all o st fun st'=>ac4 X all rest st' K:=rfl
def aek:Op→Bool
 | .call ⟨.builtin .append,⟨[_,_]⟩,⟨[_,_]⟩⟩=>true
 | _=>false
def qm (Tb:Tab) (all:List Oper) (T:Nat):Bool:=
 match all with
 | []=>false
 | o :: l=>match o.op with
  | .call ⟨.builtin .append,⟨[_,_]⟩,⟨[t,_]⟩⟩=>match look Tb t with
   | some ⟨.slice e,_,_,_⟩=>(e.beq T).or (qm Tb l T)
   | _=>qm Tb l T
  | _=>qm Tb l T
def picks (all:List Oper):List Nat→List Oper
 | []=>[]
 | i :: l=>match nth all i with
  | some o=>o :: picks all l
  | none=>picks all l
def adv (X:bB) (all:List Oper) (o:Oper) (st:St) (K:St→Prop):Prop:=
 match o.guard,o.op,bQ X.nt o.dst with
 | none,.load T x,true=>match look X.Tb T with
  | some ⟨d,size,_,_⟩=>match nY size d,st.ev x with
   | none,.own i off=>match st.obj i with
    | some (.cells T' cs)=>match qm X.Tb all T' with
     | false=>match bV d.isAgg size off cs with
      | some s=>aS st o.dst s K
      | none=>False
     | true=>False
    | _=>False
   | _,_=>False
  | none=>False
 | _,_,_=>False
structure mq where
 l:List Nat
 own:List Nat
 u:Nat→List Nat
 f:Nat→List Nat→SV
 ob:Nat→List Nat→Ob
def numOf:List Nat→Nat→Nat
 | [],_=>0
 | p :: ρ,q=>match p.beq q with
  | true=>ρ.length
  | false=>numOf ρ q
def nums (no:Nat) (ρ us:List Nat):List Nat:=us.map fun q=>no+numOf ρ q
def ow (all:List Oper) (j:Nat):Nat:=
 match nth all j with
 | some o=>match o.dst with
  | some d=>d
  | none=>0
 | none=>0
def aat (o:Oper):List Nat:=(o.after.toList.filter (Region.binds .any)).map (·.on)
def mG (all:List Oper) (g:Nat→SV) (fr:List (Nat×SV)):List Nat→List (Nat×SV)
 | []=>fr
 | j :: l=>(ow all j,g j) :: mG all g fr l
def ahl (A:mq) (no:Nat) (ob:List (Nat×Option Ob)):List Nat→List (Nat×Option Ob)
 | []=>ob
 | p :: ρ=>(no+ρ.length,some (A.ob p (nums no (p :: ρ) (A.u p)))) :: ahl A no ob ρ
def setSt (all:List Oper) (A:mq) (st:St) (g:Nat→SV) (ρ:List Nat):St:=⟨mG all g st.fr A.l,ahl A st.no st.ob ρ,st.no+ρ.length,st.k⟩
def aef (A:mq) (no:Nat) (ρ:List Nat) (i:Nat) (o:Oper) (s:Nat→SV) (j:Nat):SV:=
 match gX j (aat o) with
 | true=>A.f j (nums no ρ (A.u j))
 | false=>match j.beq i with
  | true=>.any
  | false=>s j
def kH (A:mq) (i:Nat) (ρ:List Nat):List Nat:=
 match gX i A.own with
 | true=>i :: ρ
 | false=>ρ
structure aoR (all:List Oper) (A:mq) (st:St) (i:Nat) (ρ:List Nat) (fr:List (Nat×SV)) (st':St):Prop where
 fr:st'.fr=(ow all i,A.f i (nums st.no (kH A i ρ) (A.u i))) :: fr
 ob:st'.ob=ahl A st.no st.ob (kH A i ρ)
 no:st'.no=st.no+(kH A i ρ).length
 k:st'.k=st.k
def af4 (A:mq) (i:Nat) (ρ:List Nat):Bool:=(A.u i).all fun q=>(q.beq i).or (gX q ρ)
def tL (X:bB) (all:List Oper) (A:mq) (st:St) (ρ:List Nat) (i:Nat):Prop:=
 match gX i ρ with
 | true=>True
 | false=>match af4 A i ρ with
  | false=>True
  | true=>match nth all i with
   | some o=>∀s:Nat→SV,stepG X true all o (setSt all A st (aef A st.no ρ i o s) ρ) (aoR all A st i ρ (mG all (aef A st.no ρ i o s) st.fr A.l))
   | none=>False
def uS (P:Nat→Prop):List Nat→Prop
 | []=>True
 | i :: l=>P i∧uS P l
def abK (i:Nat):List Nat→List Nat
 | []=>[]
 | j :: l=>match j.beq i with
  | true=>l
  | false=>j :: abK i l
def rO (P:List Nat→Prop):Nat→List Nat→List Nat→Prop
 | 0,_,ρ=>P ρ
 | n+1,own,ρ=>P ρ∧uS (fun p=>rO P n (abK p own) (p :: ρ)) own
def aaT (all:List Oper) (A:mq) (st:St) (ρ:List Nat):St:=setSt all A st (fun j=>A.f j (nums st.no ρ (A.u j))) ρ
def adW (all:List Oper) (A:mq) (st:St) (K:St→Prop) (ρ:List Nat):Prop:=
 match A.own.all (fun q=>gX q ρ) with
 | true=>K (aaT all A st ρ)
 | false=>True
inductive OT:Type
 | done
 | one (i:Nat) (t:OT)
 | alt (i:Nat) (t u:OT)
 | stop
 | wr (i:Nat) (t:OT)
 | altw (i:Nat) (t u:OT)
 | rd (i:Nat) (l:List Nat) (t:OT)
 | nm (t:OT)
 | lim (l:List Nat) (t:OT)
 | set (A:mq) (t:OT)
def OT.seq:List Nat→OT
 | []=>.done
 | i :: l=>.one i (OT.seq l)
def agO {α:Type} (k:Nat) (v:α):List (Nat×α)→List (Nat×α)
 | []=>[(k,v)]
 | (k',v') :: l=>match k.ble k' with
  | true=>(k,v) :: (k',v') :: l
  | false=>(k',v') :: agO k v l
def xV {α:Type}:List (Nat×α)→List (Nat×α)
 | []=>[]
 | (k,v) :: l=>agO k v (xV l)
def acO (st:St):St:=⟨xV st.fr,xV st.ob,st.no,st.k⟩
structure NmK (K:St→Prop) (st:St):Prop where
 out:K (acO st)
noncomputable def gM (X:bB) (all:List Oper) (t:OT):St→(St→Prop)→Prop:=
 OT.rec (motive:=fun _=>St→(St→Prop)→Prop) (fun st K=>K st)
  (fun i _ ih st K=>match nth all i with
   | some o=>stepG X true all o st fun st'=>ih st' K
   | none=>False)
  (fun i _ _ ih1 ih2 st K=>(match nth all i with
   | some o=>stepG X true all o st fun st'=>ih1 st' K
   | none=>False)∧ih2 st K)
  (fun _ _=>True)
  (fun i _ ih st K=>match nth all i with
   | some o=>stepG X false all o st fun st'=>ih st' K
   | none=>False)
  (fun i _ _ ih1 ih2 st K=>(match nth all i with
   | some o=>stepG X false all o st fun st'=>ih1 st' K
   | none=>False)∧ih2 st K)
  (fun i l _ ih st K=>match nth all i with
   | some o=>adv X (picks all l) o st fun st'=>ih st' K
   | none=>False)
  (fun _ ih st K=>NmK (fun s=>ih s K) st)
  (fun _ _ ih st K=>ih st K)
  (fun A _ ih st K=>rO (fun ρ=>uS (fun i=>tL X all A st ρ i) A.l) A.own.length A.own []∧rO (adW all A st fun s=>ih s K) A.own.length A.own []) t
theorem ajP (X:bB) (all:List Oper) (A:mq) (t:OT) (st:St) (K:St→Prop):gM X all (.set A t) st K=(rO (fun ρ=>uS (fun i=>tL X all A st ρ i) A.l) A.own.length A.own []∧rO (adW all A st fun s=>gM X all t s K) A.own.length A.own []):=rfl
theorem aks (X:bB) (all:List Oper) (l:List Nat) (t:OT) (st:St) (K:St→Prop):gM X all (.lim l t) st K=gM X all t st K:=rfl
theorem alr (X:bB) (all:List Oper) (t:OT) (st:St) (K:St→Prop):gM X all (.nm t) st K=NmK (fun s=>gM X all t s K) st:=rfl
theorem alb (X:bB) (all:List Oper) (i:Nat) (l:List Nat) (t:OT) (st:St) (K:St→Prop):gM X all (.rd i l t) st K=match nth all i with
  | some o=>adv X (picks all l) o st fun st'=>gM X all t st' K
  | none=>False:=rfl
theorem ahX (X:bB) (all:List Oper) (i:Nat) (t u:OT) (st:St) (K:St→Prop):gM X all (.altw i t u) st K=((match nth all i with
  | some o=>stepG X false all o st fun st'=>gM X all t st' K
  | none=>False)∧gM X all u st K):=rfl
theorem acp (X:bB) (all:List Oper) (i:Nat) (t:OT) (st:St) (K:St→Prop):gM X all (.one i t) st K=match nth all i with
  | some o=>stepG X true all o st fun st'=>gM X all t st' K
  | none=>False:=rfl
theorem ae7 (X:bB) (all:List Oper) (i:Nat) (t:OT) (st:St) (K:St→Prop):gM X all (.wr i t) st K=match nth all i with
  | some o=>stepG X false all o st fun st'=>gM X all t st' K
  | none=>False:=rfl
theorem xk (X:bB) (all:List Oper) (i:Nat) (t u:OT) (st:St) (K:St→Prop):gM X all (.alt i t u) st K=((match nth all i with
  | some o=>stepG X true all o st fun st'=>gM X all t st' K
  | none=>False)∧gM X all u st K):=rfl
inductive LV:Type
 | s (s:SV)
 | rw (T:TypeId) (sz n:Nat) (f:Nat→List PV)
 | ob (o:Ob)
 | rws (T:TypeId) (sz n:Nat) (f:Nat→List PV)
 | ps (d:PV)
def gY (F:Fence):Prop:=F=Fence.wide∨∃l,F=Fence.wide.inRound l
theorem gY.fn {F:Fence} (h:gY F) (f:FuncId):F.fn f:=by
 rcases h with rfl | ⟨l,rfl⟩<;>trivial
theorem gY.depth {F:Fence} (h:gY F):F.depth=none:=by
 rcases h with rfl | ⟨l,rfl⟩<;>rfl
theorem gY.calls {F:Fence} (h:gY F) {n:Nat} {P:Program} {f:FuncId} {args:Array Value} {w:World} {R:Ending→World→Prop} (hc:Calls P f args w R):CallsIn F n P f args w R:=by
 rcases h with rfl | ⟨l,rfl⟩
 ·exact callsIn_wide.2 hc
 ·exact CallsIn.inRound l (callsIn_wide.2 hc)
theorem dH {F:Fence} (hF:gY F) {P:Program} {o:Oper} {a:Act} {w w':World} {next:Act→World→Prop} {Q:Exit→Act→World→Prop} {v:Value}
  (hd:∀c,o.op≠.defer c) (hrun:(execOp a.eval o).run P w=.ok (.value v) w') (hn:next (a.put o.dst v) w'):o.wpIn F 9 P a w next Q:=
 ⟨fun f _=>hF.fn f,by rw[Oper.semAt_plain F _ _ hd,hrun];exact hn⟩
theorem rP {F:Fence} (hF:gY F) {P:Program} {o:Oper} {a:Act} {w w':World} {next:Act→World→Prop} {Q:Exit→Act→World→Prop}
  (hd:∀c,o.op≠.defer c) (hrun:(execOp a.eval o).run P w=.ok .skip w') (hn:next (a.put o.dst undef) w'):o.wpIn F 9 P a w next Q:=
 ⟨fun f _=>hF.fn f,by rw[Oper.semAt_plain F _ _ hd,hrun];exact hn⟩
def Grow (w w':World):Prop:=w.heap.size≤w'.heap.size∧∀b,b<w.heap.size→w'.heap[b]?=w.heap[b]?
theorem Grow.refl (w:World):Grow w w:=⟨aha _,fun _ _=>rfl⟩
theorem Grow.trans {a b c:World} (h:Grow a b) (k:Grow b c):Grow a c:=⟨aln h.1 k.1,fun x hx=>(k.2 x (aov hx h.1)).trans (h.2 x hx)⟩
theorem Grow.cell {w w':World} (h:Grow w w') {b:Nat} (hb:b<w.heap.size) (k:Nat):w'.cell? ⟨b,k,none⟩=w.cell? ⟨b,k,none⟩:=by
 simp[World.cell?,h.2 b hb]
def aT (R:World→Prop) (P:Program) (o:Oper) (a:Act) (w:World) (next:Act→World→Prop):Prop:=
 ∃v,(∀w1,R w1→(execOp a.eval o).run P w1=.ok (.value v) w1)∧next (a.put o.dst v) w
theorem aT.mk' {R:World→Prop} {P:Program} {o:Oper} {a:Act} {w:World} {next:Act→World→Prop} {v:Value} (h:∀w1,R w1→(execOp a.eval o).run P w1=.ok (.value v) w1) (hn:next (a.put o.dst v) w):aT R P o a w next:=⟨v,h,hn⟩
def fH:Op→Bool
 | .load _ _=>true
 | .convert _ _ _=>true
 | .call c=>match c.callee with
  | .builtin .len=>true
  | _=>false
 | _=>false
theorem aO.aN {μ:Nat→Option (Array Value)} {v u:Value} (h:aO μ v (.val u)):v=u:=by cases h;rfl
theorem aM.aN {E:Env} {b:Bool} {v u:Value} (h:aM E v (.p b (.val u))):v=u:=by cases h with | p _ _ _ h=>exact h.aN
theorem aM.val {E:Env} (b:Bool) (v:Value):aM E v (.p b (.val v)):=.p b v _ (.val v)
theorem ahU (E:Env) (v:Value):aM E v (ofConst v):=by
 unfold ofConst
 split
 ·rename_i cs
  split
  ·rename_i h
   refine .p _ _ _ (.agg _ _ (by simp) (fun k u hu=>?_) (fun k u s hu hs=>?_))
   ·have:=ak7.1 h u (by rw[at5];exact atO hu)
    exact this
   ·simp only[ajs,aeX,hu,aoF,Option.some.injEq] at hs
    subst hs;exact .val u
  ·exact .any _
 ·exact .fn _ _ _ (by simp) (by intro k u s hu hs;simp at hs)
 ·exact .val true v
theorem aH {C:Ctx} {E:Env} {st:St} {a:Act} {w:World} (h:aA C E st a w) (x:Operand):aM E (a.eval x) (st.ev x):=by
 cases x with
 | tmp t=>exact h.slot t
 | const v=>exact ahU E v
 | global g=>exact .any _
 | func f=>exact .fn f #[] [] (by simp) (by intro k u s hu hs;simp at hs)
theorem aD {C:Ctx} {E:Env} {st:St} {a:Act} {w:World} (h:aA C E st a w) {X:bB} (hnt:C.nt=X.nt) {d:Option Nat} (hd:bQ X.nt d=true) {s:SV} {v:Value} {K:St→Prop}
  (hk:aS st d s K) (hs:aM E v s) {next:Act→World→Prop} (hn:∀st' E' a' w',K st'→aA C E' st' a' w'→next a' w'):next (a.put d v) w:=by
 rw[wF] at hk
 exact hn _ E _ _ hk (h.adG (by rw[hnt];exact hd) hs)
theorem vD {P:Program} {t:Nat} {i:TI} (h:i.Ok P t) (w:World):(isAgg t).run P w=.ok i.desc.isAgg w:=by
 have hd:=h.desc
 unfold isAgg
 obtain ⟨desc,size,by_,z⟩:=i
 cases desc with
 | struct l=>obtain ⟨fs,hu,_⟩:=hd;simp[run_underlying hu,TD.isAgg]
 | other=>
  obtain ⟨d,hu,h1,h2⟩:=hd
  simp only[Sem.run_bind,run_underlying hu,Result.andThen_ok,TD.isAgg]
  cases d<;>first | rfl | (exact absurd rfl (h1 _)) | (exact absurd rfl (h2 _ _))
 | _=>simp only[TD.Ok] at hd;simp[run_underlying hd,TD.isAgg]
theorem dQ {P:Program} {t:Nat} {i:TI} (h:i.Ok P t) (w:World):(sizeOf t).run P w=.ok i.size w:=by
 obtain ⟨I,hI,hs,_⟩:=h.info
 simp[sizeOf,typeInfo,hI,hs]
theorem nR {k k':IntKind} (h:sameKind k k'=true):k=k':=by cases k<;>cases k'<;>first | rfl | (simp[sameKind] at h)
def BR.holds (r:BR) (x:Sem Value) (P:Program) (w:World):Prop:=
 match r with
 | .ok v=>x.run P w=.ok v w
 | .need p v=>p→x.run P w=.ok v w
 | .no=>True
theorem aj0 (op:BinOp) (k:IntKind) (a b:Int) (t:Nat) (P:Program) (w:World):(uw op k a b).holds (binOp op t (.int k a) (.int k b)) P w:=by
 cases op<;>simp only[uw,BR.holds,binOp,Op.shift,Op.intArith,Op.intDiv,Op.intBits,Op.intCmp,ne_eq,not_true_eq_false,if_false]
 all_goals first
  | rfl
  | (intro h;rw[if_neg h];rfl)
  | (intro h;rw[if_neg (by omega)];rfl)
theorem aao (op:BinOp) (hop:op=.shl∨op=.shr) (k k':IntKind) (a b:Int) (t:Nat) (P:Program) (w:World):(uw op k a b).holds (binOp op t (.int k a) (.int k' b)) P w:=by
 rcases hop with rfl | rfl<;>simp only[uw,BR.holds,binOp,Op.shift]<;>(intro h;rw[if_neg (by omega)];rfl)
theorem ajX (op:BinOp) (x y:ByteArray) (t:Nat) (P:Program) (w:World):(ahC op x y).holds (binOp op t (.string x) (.string y)) P w:=by
 cases op<;>simp only[ahC,BR.holds,binOp,Op.stringOp,←ByteArray.toList_eq]
 all_goals first
  | rfl
  | (intro h;rw[if_neg (by simp[IntKind.max,IntKind.signed,IntKind.bits];omega)];rfl)
theorem agq {P:Program} {w:World} (op:BinOp) (t:Nat) (x y:Operand) (a b:Value) (h:(∀u v,¬(a=.agg u∧b=.agg v))∧¬(a=.nilIface∧b=.nilIface)):(eqGuard op t x y a b).run P w=.ok () w:=by
 cases op<;>try rfl
 all_goals
  cases a<;>cases b<;>first | rfl | (exact absurd ⟨rfl,rfl⟩ h.2) | (exact absurd ⟨rfl,rfl⟩ (h.1 _ _))
theorem gF {P:Program} {t:Nat} {i:TI} (h:i.Ok P t) (ha:i.desc.isAgg=false) (cs:Array Value) (off:Nat) (v:Value) (hv:cs[off]?=some v) (w:World):(part t cs off).run P w=.ok v w:=by
 unfold part
 simp[vD h,ha,hv]
theorem abe {P:Program} {Tb:Tab} (hTb:Tb.Ok P) (d:Nat) (vs ws:Array Value) (w:World):∀(Fs:List Field) (n:Nat) (xs ys:List PV) (r:Bool),
  iQ Tb (Fs.map fun f=>(f.offset,f.type)) n xs ys=some r→(∀f∈Fs,f.name≠"_") →
  (∀(k:Nat) (x:Value),xs[k]?=some (.val x)→vs[n+k]?=some x)→(∀(k:Nat) (x:Value),ys[k]?=some (.val x)→ws[n+k]?=some x) →
  (Op.eqFields (d+1) vs ws Fs).run P w=.ok r w
 | [],n,xs,ys,r,h,_,_,_=>by
  cases xs<;>cases ys<;>simp[iQ] at h
  subst h;simp[Op.eqFields]
 | f :: Fs,n,xs,ys,r,h,hn,h1,h2=>by
  cases xs with
  | nil=>simp[iQ] at h
  | cons x xs=>
   cases ys with
   | nil=>cases x<;>simp[iQ] at h
   | cons y ys=>
    cases x<;>try (simp[iQ] at h;done)
    cases y<;>try (simp[iQ] at h;done)
    rename_i x y
    simp only[aoM,iQ] at h
    cases hof:f.offset.beq n with
    | false=>simp[hof] at h
    | true=>
     have hoff:=agf hof
     simp only[hof,cond_true] at h
     have hx:vs[f.offset]?=some x:=by rw[hoff];exact h1 0 x rfl
     have hy:ws[f.offset]?=some y:=by rw[hoff];exact h2 0 y rfl
     have hnm:f.name≠"_":=hn f (by simp)
     have again:∀r',iQ Tb (Fs.map fun f=>(f.offset,f.type)) (n+1) xs ys=some r'→(Op.eqFields (d+1) vs ws Fs).run P w=.ok r' w:=fun r' hr'=>
      abe hTb d vs ws w Fs (n+1) xs ys r' hr' (fun g hg=>hn g (by simp[hg]))
       (fun k z hz=>by have:=h1 (k+1) z (by simpa using hz);rwa [show n+1+k=n+(k+1) by omega])
       (fun k z hz=>by have:=h2 (k+1) z (by simpa using hz);rwa [show n+1+k=n+(k+1) by omega])
     have fin:∀(i:TI) (e:Bool),look Tb f.type=some i→i.desc.isAgg=false→(Op.equalIn (d+1) f.type x y).run P w=.ok e w →
       (iQ Tb (Fs.map fun f=>(f.offset,f.type)) (n+1) xs ys).map (fun r=>e&&r)=some r→(Op.eqFields (d+1) vs ws (f :: Fs)).run P w=.ok r w:=by
      intro i e hi ha he hr
      have hok:=hTb _ _ hi
      cases hr':iQ Tb (Fs.map fun f=>(f.offset,f.type)) (n+1) xs ys with
      | none=>simp[hr'] at hr
      | some r'=>
       simp only[hr',aoF,Option.some.injEq] at hr
       subst hr
       simp only[Op.eqFields,ne_eq,hnm,not_false_eq_true,if_true,Sem.run_bind,gF hok ha _ _ _ hx,gF hok ha _ _ _ hy,Result.andThen_ok,he]
       cases e
       ·simp
       ·simp[again r' hr']
     split at h
     ·rename_i k _ _ _ k1 a k2 b hi
      cases hk:sameKind k1 k2 with
      | false=>simp[hk] at h
      | true=>
       obtain rfl:=nR hk
       simp only[hk,cond_true] at h
       have hd:=(hTb _ _ hi).desc
       exact fin _ _ hi rfl (run_equalIn_int w d f.type k1 k a b hd) h
     ·rename_i _ _ _ a b hi
      exact fin _ _ hi rfl (run_equalIn_bool' w d f.type a b (hTb _ _ hi).desc) h
     ·rename_i _ _ _ a b hi
      exact fin _ _ hi rfl (run_equalIn_string w d f.type a b (hTb _ _ hi).desc) (by rw[ByteArray.toList_eq,ByteArray.toList_eq];exact h)
     ·cases h
theorem adq {P:Program} {e:Nat} {i:TI} (h:i.Ok P e) (ha:i.desc.isAgg=false) {k0:IntKind} (hu:P.underlying e=some (.int k0)) (d:Nat) (vs ws:Array Value) (w:World):∀(m j:Nat) (xs ys:List PV) (r:Bool),rH m xs ys=some r →
  (∀(k:Nat) (x:Value),xs[k]?=some (.val x)→vs[j+k]?=some x)→(∀(k:Nat) (x:Value),ys[k]?=some (.val x)→ws[j+k]?=some x) →
  (Op.eqItems (d+1) e 1 vs ws (List.range' j m)).run P w=.ok r w
 | 0,j,xs,ys,r,hr,_,_=>by
  cases xs<;>cases ys<;>simp[rH] at hr
  subst hr;simp[Op.eqItems]
 | m+1,j,xs,ys,r,hr,h1,h2=>by
  unfold rH at hr
  split at hr
  ·cases ‹m+1=0›
  ·rename_i m' k a xs k' b ys hm
   obtain rfl:m=m':=by omega
   cases hk:sameKind k k' with
   | false=>simp[hk] at hr
   | true=>
    obtain rfl:=nR hk
    simp only[hk,cond_true] at hr
    cases hr':rH m xs ys with
    | none=>simp[hr'] at hr
    | some r'=>
     simp only[hr',aoF,Option.some.injEq] at hr
     subst hr
     have ih:=adq h ha hu d vs ws w m (j+1) xs ys r' hr'
      (fun q z hz=>by have:=h1 (q+1) z (by simpa using hz);rwa [show j+1+q=j+(q+1) by omega])
      (fun q z hz=>by have:=h2 (q+1) z (by simpa using hz);rwa [show j+1+q=j+(q+1) by omega])
     have p1:=gF h ha vs (j*1) _ (by rw[apT];exact h1 0 _ rfl) w
     have p2:=gF h ha ws (j*1) _ (by rw[apT];exact h2 0 _ rfl) w
     simp only[auk,Op.eqItems,Sem.run_bind,p1,p2,Result.andThen_ok,run_equalIn_int w d e k k0 a b hu]
     cases hab:(a==b)
     ·simp
     ·simpa using ih
  ·cases hr
theorem aan {P:Program} {e:Nat} {i:TI} (h:i.Ok P e) (ha:i.desc.isAgg=false) (hu:P.underlying e=some .bool) (d:Nat) (vs ws:Array Value) (w:World):∀(m j:Nat) (xs ys:List PV) (r:Bool),oO m xs ys=some r →
  (∀(k:Nat) (x:Value),xs[k]?=some (.val x)→vs[j+k]?=some x)→(∀(k:Nat) (x:Value),ys[k]?=some (.val x)→ws[j+k]?=some x) →
  (Op.eqItems (d+1) e 1 vs ws (List.range' j m)).run P w=.ok r w
 | 0,j,xs,ys,r,hr,_,_=>by
  cases xs<;>cases ys<;>simp[oO] at hr
  subst hr;simp[Op.eqItems]
 | m+1,j,xs,ys,r,hr,h1,h2=>by
  unfold oO at hr
  split at hr
  ·cases ‹m+1=0›
  ·rename_i m' a xs b ys hm
   obtain rfl:m=m':=by omega
   cases hr':oO m xs ys with
   | none=>simp[hr'] at hr
   | some r'=>
    simp only[hr',aoF,Option.some.injEq] at hr
    subst hr
    have ih:=aan h ha hu d vs ws w m (j+1) xs ys r' hr'
     (fun q z hz=>by have:=h1 (q+1) z (by simpa using hz);rwa [show j+1+q=j+(q+1) by omega])
     (fun q z hz=>by have:=h2 (q+1) z (by simpa using hz);rwa [show j+1+q=j+(q+1) by omega])
    have p1:=gF h ha vs (j*1) _ (by rw[apT];exact h1 0 _ rfl) w
    have p2:=gF h ha ws (j*1) _ (by rw[apT];exact h2 0 _ rfl) w
    simp only[auk,Op.eqItems,Sem.run_bind,p1,p2,Result.andThen_ok,run_equalIn_bool' w d e a b hu]
    cases hab:(a==b)
    ·simp
    ·simpa using ih
  ·cases hr
theorem agz {P:Program} {t e n:Nat} (hu:P.underlying t=some (.array n e)) (he:P.underlying e=some .bool):P.eqGuardType P.depth t=false:=by
 show P.eqGuardType (2*(P.types.size+Made.depth)+1+1) t=false
 simp[Program.eqGuardType,hu,he]
theorem ahZ {P:Program} {t e n:Nat} {k:IntKind} (hu:P.underlying t=some (.array n e)) (he:P.underlying e=some (.int k)):P.eqGuardType P.depth t=false:=by
 show P.eqGuardType (2*(P.types.size+Made.depth)+1+1) t=false
 simp[Program.eqGuardType,hu,he]
theorem fF {E:Env} {v:Value} {i off:Nat} (h:aM E v (.own i off)):∃b,E.hd i=some (.pointer (some ⟨b,0,none⟩))∧v=.pointer (some ⟨b,off,none⟩):=by
 cases h with | own _ _ b hb=>exact ⟨b,hb,rfl⟩
theorem abx {P:Program} {t:Nat} {fs:Array Field} (h:P.underlying t=some (.struct fs)):P.fieldsOf t=fs:=by simp[Program.fieldsOf,h]
theorem aO.jW {μ:Nat→Option (Array Value)} {v:Value} {l:List PV} (h:aO μ v (.agg l)) :
  ∃vs:Array Value,v=.agg vs∧vs.size=l.length∧(∀(k:Nat) (u:Value),vs[k]?=some u→u.oneCell'=true)∧∀(k:Nat) (u:Value) (s:PV),vs[k]?=some u→l[k]?=some s→aO μ u s:=by
 cases h with | agg vs _ hl h1 he=>exact ⟨vs,rfl,hl,h1,he⟩
theorem xY {μ:Nat→Option (Array Value)} {vs:Array Value} {l:List PV} (hl:vs.size=l.length) (he:∀(k:Nat) (u:Value) (s:PV),vs[k]?=some u→l[k]?=some s→aO μ u s) :
  ∀(k:Nat) (x:Value),l[k]?=some (.val x)→vs[0+k]?=some x:=by
 intro k x hx
 have hk:k<vs.size:=by rw[hl];exact (abA.1 hx).1
 have:=he k vs[k] _ (by simp[hk]) hx
 rw[aiF,aex hk,this.aN]
theorem nO (g:Nat→PV):∀(n i k:Nat),(mg g i n)[k]?=if k<n then some (g (i+k)) else none
 | 0,i,k=>by simp[mg]
 | n+1,i,0=>by simp[mg]
 | n+1,i,k+1=>by
  simp only[mg,aoz,nO g n (i+1) k,Nat.add_lt_add_iff_right]
  rw[show i+1+k=i+(k+1) by omega]
theorem kV (n:Nat) (g:Nat→PV) (k:Nat):(dW n g)[k]?=if k<n then some (g k) else none:=by
 unfold dW;rw[nO,aiF]
theorem amu {P:Program} {Tb:Tab} (hTb:Tb.Ok P) {E:Env} (op:BinOp) (t:Nat) (ox oy:Operand) {vx vy:Value} {sx sy:SV} (hx:aM E vx sx) (hy:aM E vy sy) (w:World) :
  (binop Tb op t sx sy).holds (do eqGuard op t ox oy vx vy;binOp op t vx vy) P w:=by
 have plain:∀(r:BR),((∀u v,¬(vx=.agg u∧vy=.agg v))∧¬(vx=.nilIface∧vy=.nilIface))→r.holds (binOp op t vx vy) P w→r.holds (do eqGuard op t ox oy vx vy;binOp op t vx vy) P w:=by
  intro r hg hr
  have hgd:=agq (P:=P) (w:=w) op t ox oy vx vy hg
  cases r<;>simp only[BR.holds,Sem.run_bind,hgd,Result.andThen_ok] at hr ⊢<;>exact hr
 unfold binop
 split
 ·obtain rfl:=hx.aN
  obtain rfl:=hy.aN
  split
  ·exact plain _ (by simp) (aao _ (.inl rfl) _ _ _ _ _ _ _)
  ·exact plain _ (by simp) (aao _ (.inr rfl) _ _ _ _ _ _ _)
  ·rename_i _ k1 _ _ k2 _ _ _ _
   cases hk:sameKind k1 k2 with
   | false=>trivial
   | true=>
    obtain rfl:=nR hk
    exact plain _ (by simp) (aj0 _ _ _ _ _ _ _)
 ·obtain rfl:=hx.aN
  obtain rfl:=hy.aN
  exact plain _ (by simp) (ajX _ _ _ _ _ _)
 ·obtain rfl:=hx.aN
  obtain rfl:=hy.aN
  split
  ·rename_i hi
   have hd:P.underlying t=some .bool:=(hTb _ _ hi).desc
   refine plain _ (by simp) ?_
   have he:=fun a b=>run_equal_bool (P:=P) w t a b hd
   cases op<;>simp only[aiK,BR.holds,binOp,Sem.run_bind,he,Result.andThen_ok]<;>rfl
  ·trivial
 ·rename_i xs _ ys
  split
  ·rename_i fs _ _ _ hi
   have hd:=(hTb _ _ hi).desc
   obtain ⟨Fs,hu,hf,hp,hn,hg,_⟩:=hd
   obtain ⟨vs,rfl,hvl,_,hve⟩:=(show aO _ _ _ by cases hx with | p _ _ _ h=>exact h:aO _ vx (.agg xs)).jW
   obtain ⟨ws,rfl,hwl,_,hwe⟩:=(show aO _ _ _ by cases hy with | p _ _ _ h=>exact h:aO _ vy (.agg ys)).jW
   have hgd:∀op,(eqGuard op t ox oy (.agg vs) (.agg ws)).run P w=.ok () w:=by
    intro op
    cases op<;>first | rfl | (simp[eqGuard,hg])
   have hnm:∀f∈Fs.toList,f.name≠"_":=by
    intro f hf'
    have:=(aul.1 hn) f (by simpa using hf')
    simpa using this
   have heq:∀r,iQ Tb fs 0 xs ys=some r→(Op.equal t (.agg vs) (.agg ws)).run P w=.ok r w:=by
    intro r hr
    have:=abe hTb 9998 vs ws w Fs.toList 0 xs ys r (by rw[←hf] at hr;exact hr) hnm (xY hvl hve) (xY hwl hwe)
    unfold Op.equal
    rw[show Op.maxDepth=9999+1 from rfl,run_equalIn_struct w 9999 t vs ws (by rw[abx hu];exact hu) hp,abx hu]
    exact this
   split
   ·split
    ·rename_i r hr
     simp[BR.holds,hgd,binOp,heq r hr]
    ·trivial
   ·split
    ·rename_i r hr
     simp[BR.holds,hgd,binOp,heq r hr]
    ·trivial
   ·trivial
  ·rename_i n e _ _ _ hi
   have hu:P.underlying t=some (.array n e):=(hTb _ _ hi).desc
   split
   ·rename_i k0 _ _ hie
    have hue:P.underlying e=some (.int k0):=(hTb _ _ hie).desc
    obtain ⟨I,hI,hIs,_⟩:=(hTb _ _ hie).info
    have hc:P.cellsOf e=1:=by simp[Program.cellsOf,hI];exact hIs
    obtain ⟨vs,rfl,hvl,_,hve⟩:=(show aO _ _ _ by cases hx with | p _ _ _ h=>exact h:aO _ vx (.agg xs)).jW
    obtain ⟨ws,rfl,hwl,_,hwe⟩:=(show aO _ _ _ by cases hy with | p _ _ _ h=>exact h:aO _ vy (.agg ys)).jW
    have hg:=ahZ hu hue
    have hgd:∀op,(eqGuard op t ox oy (.agg vs) (.agg ws)).run P w=.ok () w:=by
     intro op
     cases op<;>first | rfl | (simp[eqGuard,hg])
    have heq:∀r,rH n xs ys=some r→(Op.equal t (.agg vs) (.agg ws)).run P w=.ok r w:=by
     intro r hr
     have:=adq (hTb _ _ hie) rfl hue 9998 vs ws w n 0 xs ys r hr (xY hvl hve) (xY hwl hwe)
     unfold Op.equal
     rw[show Op.maxDepth=9999+1 from rfl,run_equalIn_array w 9999 vs ws hu hI,hc,auo]
     exact this
    split
    ·split
     ·rename_i r hr
      simp[BR.holds,hgd,binOp,heq r hr]
     ·trivial
    ·split
     ·rename_i r hr
      simp[BR.holds,hgd,binOp,heq r hr]
     ·trivial
    ·trivial
   ·trivial
  ·trivial
 ·rename_i m f _ m' g
  split
  ·rename_i n e _ _ _ hi
   have hu:P.underlying t=some (.array n e):=(hTb _ _ hi).desc
   split
   ·rename_i hnn hie
    simp only[agw] at hnn
    obtain rfl:=agf hnn.1
    obtain rfl:=agf hnn.2
    have hue:P.underlying e=some .bool:=(hTb _ _ hie).desc
    obtain ⟨I,hI,hIs,_⟩:=(hTb _ _ hie).info
    have hc:P.cellsOf e=1:=by simp[Program.cellsOf,hI];exact hIs
    obtain ⟨vs,rfl,hve⟩:∃vs,vx=.agg vs∧∀(k:Nat) (x:Value),(dW n f)[k]?=some (.val x)→vs[k]?=some x:=by
     cases hx with
     | p _ _ _ h=>cases h with
      | arr vs _ _ u hs hc he=>
       refine ⟨vs,rfl,fun k x hk=>?_⟩
       rw[kV] at hk
       split at hk
       ·rename_i hkn
        have hp:=he k hkn
        rw[Option.some.inj hk] at hp
        rw[(hc k hkn).1,hp.aN]
       ·cases hk
    obtain ⟨ws,rfl,hwe⟩:∃ws,vy=.agg ws∧∀(k:Nat) (x:Value),(dW n g)[k]?=some (.val x)→ws[k]?=some x:=by
     cases hy with
     | p _ _ _ h=>cases h with
      | arr vs _ _ u hs hc he=>
       refine ⟨vs,rfl,fun k x hk=>?_⟩
       rw[kV] at hk
       split at hk
       ·rename_i hkn
        have hp:=he k hkn
        rw[Option.some.inj hk] at hp
        rw[(hc k hkn).1,hp.aN]
       ·cases hk
    have hg:=agz hu hue
    have hgd:∀op,(eqGuard op t ox oy (.agg vs) (.agg ws)).run P w=.ok () w:=by
     intro op
     cases op<;>first | rfl | (simp[eqGuard,hg])
    have heq:∀r,oO n (dW n f) (dW n g)=some r→(Op.equal t (.agg vs) (.agg ws)).run P w=.ok r w:=by
     intro r hr
     have:=aan (hTb _ _ hie) rfl hue 9998 vs ws w n 0 _ _ r hr (fun k x hk=>by rw[aiF];exact hve k x hk) (fun k x hk=>by rw[aiF];exact hwe k x hk)
     unfold Op.equal
     rw[show Op.maxDepth=9999+1 from rfl,run_equalIn_array w 9999 vs ws hu hI,hc,auo]
     exact this
    split
    ·split
     ·rename_i r hr
      simp[BR.holds,hgd,binOp,heq r hr]
     ·trivial
    ·split
     ·rename_i r hr
      simp[BR.holds,hgd,binOp,heq r hr]
     ·trivial
    ·trivial
   ·trivial
  ·trivial
 ·trivial
theorem anh {P:Program} {E:Env} (op:UnOp) {vx:Value} {sx:SV} (hx:aM E vx sx) (w:World):(unop op sx).holds (Op.unary op vx) P w:=by
 unfold unop
 split
 ·obtain rfl:=hx.aN;rfl
 ·obtain rfl:=hx.aN;rfl
 ·obtain rfl:=hx.aN
  rename_i k n
  simp only[BR.holds,Op.unary]
  cases hs:k.signed<;>rfl
 ·trivial
theorem ac1 {C:Ctx} {E:Env} {st:St} {a:Act} {w:World} (h:aA C E st a w) {X:bB} (hnt:C.nt=X.nt) {d:Option Nat} (hd:bQ X.nt d=true) {r:BR} {K:St→Prop}
  (hk:aop st d r K) {x:Sem Value} {P:Program} (hr:∀w1,r.holds x P w1) {next:Act→World→Prop} (hn:∀st' E' a' w',K st'→aA C E' st' a' w'→next a' w') :
  ∃v,(∀w1,x.run P w1=.ok v w1)∧next (a.put d v) w:=by
 cases r with
 | ok v=>exact ⟨v,hr,aD h hnt hd hk (.val _ _) hn⟩
 | need p v=>exact ⟨v,fun w1=>hr w1 hk.1,aD h hnt hd hk.2 (.val _ _) hn⟩
 | no=>exact hk.elim
theorem qC {E:Env}:∀(l:List SV) (b:Bool) (ds:List PV),rZ l=some (b,ds)→l.length=ds.length∧∀(k:Nat) (u:Value) (s:SV) (d:PV),l[k]?=some s→ds[k]?=some d→aM E u s→aO (E.m b) u d
 | [],b,ds,h=>by simp[rZ] at h;obtain ⟨rfl,rfl⟩:=h;simp
 | s :: l,b,ds,h=>by
  cases s<;>simp only[rZ] at h<;>try (cases h;done)
  rename_i b' d
  cases hr:rZ l with
  | none=>simp[hr] at h
  | some r=>
   obtain ⟨c,ds'⟩:=r
   simp only[hr,Option.some.injEq,Prod.mk.injEq] at h
   obtain ⟨rfl,rfl⟩:=h
   obtain ⟨h1,h2⟩:=qC l c ds' hr
   refine ⟨by simp[h1],fun k u s d' hs hd hrep=>?_⟩
   have weak:∀(x y:Bool),∀B cs,E.m x B=some cs→((x=true∧y=true)∨(x&&y)=false)→E.m (x&&y) B=some cs:=by
    intro x y B cs hB hxy
    rcases hxy with ⟨rfl,rfl⟩ | hxy
    ·exact hB
    ·rw[hxy];exact E.eO x _ _ hB
   cases k with
   | zero=>
    simp only[auh,Option.some.injEq] at hs hd
    subst hs;subst hd
    cases hrep with
    | p _ _ _ hp=>
     refine hp.mono fun B cs hB=>weak b' c B cs hB ?_
     cases b'<;>cases c<;>simp
   | succ k=>
    simp only[aoz] at hs hd
    refine (h2 k u s d' hs hd hrep).mono fun B cs hB=>?_
    have:=weak c b' B cs hB (by cases b'<;>cases c<;>simp)
    rwa [Bool.and_comm]
theorem qY {E:Env} {vs:Array Value} {l:List SV} (hl:vs.size=l.length) (h1:∀(k:Nat) (u:Value),vs[k]?=some u→u.oneCell'=true)
  (he:∀(k:Nat) (u:Value) (s:SV),vs[k]?=some u→l[k]?=some s→aM E u s):aM E (.agg vs) (lF l):=by
 unfold lF
 split
 ·rename_i b ds h
  obtain ⟨h2,h3⟩:=qC (E:=E) l b ds h
  refine .p _ _ _ (.agg vs ds (by omega) h1 fun k u d hu hd=>?_)
  have hk:k<l.length:=by have:=(abB.1 hu).1;omega
  exact h3 k u l[k] d (by simp[hk]) hd (he k u l[k] hu (by simp[hk]))
 ·exact .agg vs l hl h1 he
theorem iK (b:Bool):∀(l:List PV) (k:Nat),(dX b l)[k]?=(l[k]?).map (SV.p b)
 | [],k=>by simp[dX]
 | d :: l,0=>by simp[dX]
 | d :: l,k+1=>by simp[dX,iK b l k]
theorem mh (b:Bool):∀(l:List PV),(dX b l).length=l.length
 | []=>rfl
 | d :: l=>by simp[dX,mh b l]
theorem d9 {α:Type}:∀(l:List α) (n:Nat),nth l n=l[n]?
 | [],n=>by simp[nth]
 | x :: l,0=>rfl
 | x :: l,n+1=>by simp[nth,d9 l n]
theorem qA {α:Type}:∀(n:Nat) (l:List α),dJ n l=l.drop n
 | 0,l=>rfl
 | n+1,[]=>rfl
 | n+1,x :: l=>by simp[dJ,qA n l]
theorem af5 {α:Type}:∀(n:Nat) (l r:List α),takeN n l=some r→r=l.take n∧n≤l.length
 | 0,l,r,h=>by simp[takeN] at h;subst h;simp
 | n+1,[],r,h=>by simp[takeN] at h
 | n+1,x :: l,r,h=>by
  simp only[takeN] at h
  cases hr:takeN n l with
  | none=>simp[hr] at h
  | some r'=>
   simp only[hr,Option.some.injEq] at h
   subst h
   obtain ⟨rfl,h2⟩:=af5 n l r' hr
   exact ⟨rfl,by simp;omega⟩
theorem wE (g:Nat→PV):∀(n i:Nat),(mg g i n).length=n
 | 0,_=>rfl
 | n+1,i=>by simp[mg,wE g n (i+1)]
theorem vU (n:Nat) (g:Nat→PV):(dW n g).length=n:=wE g n 0
theorem aam:∀(l:List PV) (k:Nat),jZ l k=l.getD k (.val undef)
 | [],k=>by simp[jZ]
 | d :: l,0=>by simp[jZ]
 | d :: l,k+1=>by simp[jZ,aam l k]
theorem aO.fZ {μ:Nat→Option (Array Value)} {v:Value} {n:Nat} {f:Nat→PV} (h:aO μ v (.arr n f)) :
  ∃vs,v=.agg vs∧vs.size=n∧∀k,k<n→∃u,vs[k]?=some u∧u.oneCell'=true∧aO μ u (f k):=by
 cases h with
 | arr vs n f u hs hc he=>exact ⟨vs,rfl,hs,fun k hk=>⟨u k,(hc k hk).1,(hc k hk).2,he k hk⟩⟩
theorem aO.q8 {μ:Nat→Option (Array Value)} {vs:Array Value} {n:Nat} {f:Nat→PV} (hs:vs.size=n) (h:∀k,k<n→∃u,vs[k]?=some u∧u.oneCell'=true∧aO μ u (f k)):aO μ (.agg vs) (.arr n f):=by
 refine .arr vs n f (fun k=>vs.getD k undef) hs (fun k hk=>?_) (fun k hk=>?_)
 ·obtain ⟨u,h1,h2,_⟩:=h k hk
  rw[aeC,h1];exact ⟨rfl,h2⟩
 ·obtain ⟨u,h1,_,h3⟩:=h k hk
  rw[aeC,h1];exact h3
theorem aap {E:Env} {n:Nat} {s:SV} {b:Bool} {g:Nat→PV} (ha:aaH n s=some (b,g)) {v:Value} (h:aM E v s):aO (E.m b) v (.arr n g):=by
 unfold aaH at ha
 split at ha
 ·split at ha
  ·rename_i hb
   obtain rfl:=agf hb
   cases ha
   cases h with | p _ _ _ hp=>exact hp
  ·cases ha
 ·split at ha
  ·rename_i hb
   cases ha
   have hb:=agf hb
   cases h with
   | p _ _ _ hp=>
    obtain ⟨vs,rfl,hl,h1,he⟩:=hp.jW
    refine aO.q8 (by omega) fun k hk=>?_
    have hkv:k<vs.size:=by omega
    have e1:vs[k]?=some vs[k]:=aex hkv
    refine ⟨vs[k],e1,h1 k _ e1,?_⟩
    rw[aam,abo,abn (by omega:k<_)]
    exact he k _ _ e1 (abn (by omega))
  ·cases ha
 ·cases ha
theorem kW {E:Env} {v:Value} {s:SV} (h:aM E v s) {cs:List SV} (hc:cellsOf s=some cs) :
  v.cells.size=cs.length∧(∀(k:Nat) (u:Value),v.cells[k]?=some u→u.oneCell'=true)∧∀(k:Nat) (u:Value) (s:SV),v.cells[k]?=some u→cs[k]?=some s→aM E u s:=by
 have single:∀(v:Value) (s:SV),(∀l,v≠.agg l)→(∀l,v≠.tuple l)→aM E v s→cs=[s]→v.cells.size=cs.length∧(∀(k:Nat) (u:Value),v.cells[k]?=some u→u.oneCell'=true)∧∀(k:Nat) (u:Value) (s:SV),v.cells[k]?=some u→cs[k]?=some s→aM E u s:=by
  intro v s ha ht hs hcs
  subst hcs
  have hv:v.cells=#[v]:=by cases v<;>first | rfl | (exact absurd rfl (ha _))
  rw[hv]
  refine ⟨rfl,fun k u hu=>?_,fun k u s' hu hs'=>?_⟩
  ·cases k with
   | zero=>simp at hu;subst hu;cases v<;>first | rfl | (exact absurd rfl (ha _)) | (exact absurd rfl (ht _))
   | succ k=>simp at hu
  ·cases k with
   | zero=>simp at hu hs';subst hu;subst hs';exact hs
   | succ k=>simp at hu
 cases s with
 | p b d=>
  cases d with
  | agg l=>
   simp only[cellsOf,Option.some.injEq] at hc
   subst hc
   cases h with | p _ _ _ h=>
   obtain ⟨vs,rfl,hl,h1,he⟩:=h.jW
   refine ⟨by simp[Value.cells,hl,mh],h1,fun k u s hu hs=>?_⟩
   rw[iK] at hs
   cases hd:l[k]? with
   | none=>simp[hd] at hs
   | some d=>simp[hd] at hs;subst hs;exact .p _ _ _ (he k u d hu hd)
  | tup l=>simp[cellsOf] at hc
  | val x=>
   obtain rfl:=h.aN
   cases v<;>simp only[cellsOf,Option.some.injEq] at hc<;>try (cases hc;done)
   all_goals exact single _ _ (by simp) (by simp) h hc.symm
  | seq n f=>
   simp only[cellsOf,Option.some.injEq] at hc
   refine single v _ ?_ ?_ h hc.symm<;>(intro l e;subst e;cases h with | p _ _ _ h=>cases h)
  | pt l o=>
   simp only[cellsOf,Option.some.injEq] at hc
   refine single v _ ?_ ?_ h hc.symm<;>(intro l e;subst e;cases h with | p _ _ _ h=>cases h)
  | fn f l=>
   simp only[cellsOf,Option.some.injEq] at hc
   refine single v _ ?_ ?_ h hc.symm<;>(intro l e;subst e;cases h with | p _ _ _ h=>cases h)
  | bnd f l=>
   simp only[cellsOf,Option.some.injEq] at hc
   refine single v _ ?_ ?_ h hc.symm<;>(intro l e;subst e;cases h with | p _ _ _ h=>cases h)
  | arr n g=>
   simp only[cellsOf,Option.some.injEq] at hc
   subst hc
   cases h with | p _ _ _ h=>
   obtain ⟨vs,rfl,hs,hc⟩:=h.fZ
   refine ⟨by simp[Value.cells,hs,mh,vU],fun k u hu=>?_,fun k u s hu hs'=>?_⟩
   ·have hk:k<n:=by rw[←hs];exact (abB.1 hu).1
    obtain ⟨u',h1,h2,_⟩:=hc k hk
    have hu:vs[k]?=some u:=hu
    rw[h1] at hu;cases hu;exact h2
   ·have hk:k<n:=by rw[←hs];exact (abB.1 hu).1
    obtain ⟨u',h1,_,h3⟩:=hc k hk
    have hu:vs[k]?=some u:=hu
    rw[h1] at hu;cases hu
    rw[iK,kV,if_pos hk] at hs'
    simp at hs';subst hs';exact .p _ _ _ h3
 | agg l=>
  simp only[cellsOf,Option.some.injEq] at hc
  subst hc
  cases h with | agg vs _ hl h1 he=>exact ⟨hl,h1,he⟩
 | tup l=>simp[cellsOf] at hc
 | any=>simp[cellsOf] at hc
 | own i o=>
  simp only[cellsOf,Option.some.injEq] at hc
  refine single v _ ?_ ?_ h hc.symm<;>(intro l e;subst e;cases h)
 | el i sz j o=>
  simp only[cellsOf,Option.some.injEq] at hc
  refine single v _ ?_ ?_ h hc.symm<;>(intro l e;subst e;cases h)
 | sub i sz lo n=>simp[cellsOf] at hc
 | full n f=>simp[cellsOf] at hc
 | row i=>
  simp only[cellsOf,Option.some.injEq] at hc
  refine single v _ ?_ ?_ h hc.symm<;>(intro l e;subst e;cases h with | row _ _ _ hs=>simp[uI] at hs)
 | fn f l=>
  simp only[cellsOf,Option.some.injEq] at hc
  refine single v _ ?_ ?_ h hc.symm<;>(intro l e;subst e;cases h)
 | asl i N lo n=>
  simp only[cellsOf,Option.some.injEq] at hc
  refine single v _ ?_ ?_ h hc.symm<;>(intro l e;subst e;cases h)
 | mp i=>
  simp only[cellsOf,Option.some.injEq] at hc
  refine single v _ ?_ ?_ h hc.symm<;>(intro l e;subst e;cases h)
def mo (E:Env) (U:Nat→Option Value) (cs:List SV):Prop:=
 ∀(k:Nat) (s:SV),cs[k]?=some s→∃u,U k=some u∧u.oneCell'=true∧aM E u s
theorem ajC {E:Env} {vs:Array Value} {cs:List SV} (hl:vs.size=cs.length) (h1:∀(k:Nat) (u:Value),vs[k]?=some u→u.oneCell'=true)
  (he:∀(k:Nat) (u:Value) (s:SV),vs[k]?=some u→cs[k]?=some s→aM E u s):mo E (vs[·]?) cs:=by
 intro k s hs
 have hk:k<vs.size:=by rw[hl];exact (abA.1 hs).1
 exact ⟨vs[k],by simp[hk],h1 k _ (by simp[hk]),he k _ s (by simp[hk]) hs⟩
theorem ai3 {E:Env} {U:Nat→Option Value} {cs:List SV} (h:mo E U cs) {size off:Nat} {s:SV} (hr:bV true size off cs=some s) :
  (off+size≤cs.length∨size=0)∧∀vs:Array Value,vs.size=size→(∀k,k<size→vs[k]?=U (off+k))→aM E (.agg vs) s:=by
 simp only[bV] at hr
 cases ht:takeN size (dJ off cs) with
 | none=>simp[ht] at hr
 | some l=>
  simp only[ht,Option.some.injEq] at hr
  subst hr
  obtain ⟨rfl,hle⟩:=af5 _ _ _ ht
  rw[qA] at *
  have hlen:off+size≤cs.length∨size=0:=by simp at hle;omega
  have hll:((cs.drop off).take size).length=size:=by simp at hle ⊢;omega
  have hget:∀k,k<size→((cs.drop off).take size)[k]?=cs[off+k]?:=by
   intro k hk;rw[alD,if_pos hk,aqX]
  have main:∀vs:Array Value,vs.size=size→(∀k,k<size→vs[k]?=U (off+k))→aM E (.agg vs) (lF ((cs.drop off).take size)):=by
   intro vs hvs hv
   have get:∀k u,vs[k]?=some u→k<size∧∃s,cs[off+k]?=some s∧U (off+k)=some u:=by
    intro k u hu
    have hk:k<size:=by rw[←hvs];exact (abB.1 hu).1
    have h3:k<((cs.drop off).take size).length:=by omega
    refine ⟨hk,_,(hget k hk).symm.trans (abn h3),?_⟩
    rw[←hv k hk];exact hu
   refine qY (by rw[hvs,hll]) (fun k u hu=>?_) (fun k u s hu hs=>?_)
   ·obtain ⟨hk,s,hs,hU⟩:=get k u hu
    obtain ⟨u',hu',h1,_⟩:=h _ _ hs
    rw[hU] at hu';cases hu';exact h1
   ·obtain ⟨hk,s',hs',hU⟩:=get k u hu
    rw[hget k hk,hs'] at hs;cases hs
    obtain ⟨u',hu',_,h2⟩:=h _ _ hs'
    rw[hU] at hu';cases hu';exact h2
  exact ⟨hlen,main⟩
theorem nS:∀(cs:List SV) (off:Nat) (new r:List SV),splice cs off new=some r →
  r.length=cs.length∧off+new.length≤cs.length∧∀k,r[k]?=if off≤k∧k<off+new.length then new[k-off]? else cs[k]?
 | cs,0,[],r,h=>by
  cases cs<;>simp[splice] at h<;>subst h<;>simp
  all_goals (intro k hk;omega)
 | [],0,x :: new,r,h=>by simp[splice] at h
 | [],n+1,new,r,h=>by simp[splice] at h
 | c :: cs,0,x :: new,r,h=>by
  simp only[splice] at h
  cases hr:splice cs 0 new with
  | none=>simp[hr] at h
  | some r'=>
   simp only[hr,Option.some.injEq] at h
   subst h
   obtain ⟨h1,h2,h3⟩:=nS cs 0 new r' hr
   refine ⟨by simp[h1],by simp at h2 ⊢;omega,fun k=>?_⟩
   cases k with
   | zero=>simp
   | succ k=>
    have:=h3 k
    simp at this ⊢
    exact this
 | c :: cs,n+1,new,r,h=>by
  simp only[splice] at h
  cases hr:splice cs n new with
  | none=>simp[hr] at h
  | some r'=>
   simp only[hr,Option.some.injEq] at h
   subst h
   obtain ⟨h1,h2,h3⟩:=nS cs n new r' hr
   refine ⟨by simp[h1],by simp;omega,fun k=>?_⟩
   cases k with
   | zero=>rw[if_neg (by omega)];simp
   | succ k=>
    have:=h3 k
    simp only[aoz,this]
    by_cases hc:n≤k∧k<n+new.length
    ·rw[if_pos hc,if_pos (by omega),show k+1-(n+1)=k-n by omega]
    ·rw[if_neg hc,if_neg (by omega)]
structure jG (E:Env) (vs:Array Value) (cs:List SV):Prop where
 size:vs.size=cs.length
 one:∀(k:Nat) (u:Value),vs[k]?=some u→u.oneCell'=true
 rep:∀(k:Nat) (u:Value) (s:SV),vs[k]?=some u→cs[k]?=some s→aM E u s
theorem jG.at {E:Env} {vs:Array Value} {cs:List SV} (h:jG E vs cs):mo E (vs[·]?) cs:=ajC h.size h.one h.rep
theorem jG.of {E:Env} {vs:Array Value} {cs:List SV} (hs:vs.size=cs.length) (h:∀k,k<vs.size→∃u s,vs[k]?=some u∧cs[k]?=some s∧u.oneCell'=true∧aM E u s):jG E vs cs:=by
 refine ⟨hs,fun k u hu=>?_,fun k u s hu hs'=>?_⟩
 ·obtain ⟨u',s',h1,h2,h3,h4⟩:=h k (abB.1 hu).1
  rw[hu] at h1;cases h1;exact h3
 ·obtain ⟨u',s',h1,h2,h3,h4⟩:=h k (abB.1 hu).1
  rw[hu] at h1;cases h1;rw[hs'] at h2;cases h2;exact h4
theorem aji (off:Nat):∀(l:List Value) (i:Nat) (cells:Array Value),
  ((l.zipIdx i).foldl (fun (cs:Array Value) (p:Value×Nat)=>cs.setIfInBounds (off+p.2) p.1) cells).size=cells.size ∧
  ∀k,k<cells.size→((l.zipIdx i).foldl (fun (cs:Array Value) (p:Value×Nat)=>cs.setIfInBounds (off+p.2) p.1) cells)[k]?=if off+i≤k∧k<off+i+l.length then l[k-(off+i)]? else cells[k]?
 | [],i,cells=>by
  refine ⟨by simp,fun k hk=>?_⟩
  rw[if_neg (by simp only[aoK];omega)];simp
 | v :: l,i,cells=>by
  obtain ⟨h1,h2⟩:=aji off l (i+1) (cells.setIfInBounds (off+i) v)
  simp only[List.zipIdx_cons,asL]
  refine ⟨by rw[h1];simp,fun k hk=>?_⟩
  rw[h2 k (by simpa using hk)]
  simp only[ai1]
  by_cases hc:off+(i+1)≤k∧k<off+(i+1)+l.length
  ·rw[if_pos hc,if_pos (by omega),show k-(off+i)=(k-(off+(i+1)))+1 by omega,aoz]
  ·rw[if_neg hc,atu]
   by_cases hk2:off+i=k
   ·subst hk2;rw[if_pos rfl,if_pos hk,if_pos (by omega)];simp
   ·rw[if_neg hk2,if_neg (by omega)]
theorem uy {C:Ctx} {E:Env} {st:St} {a:Act} {w:World} (h:aA C E st a w) (place place':Nat→Option (Nat×Nat)) (hpl:∀i p,place i=some p→place' i=some p):∀(parts:List (Nat×Operand)) (vs:Array Value) (cs cs':List SV),
  jG E vs cs→qg place st cs parts=some cs'→∃vs',Instr.fill place' vs (parts.map fun p=>(p.1,a.eval p.2))=some vs'∧jG E vs' cs'
 | [],vs,cs,cs',hA,hf=>by simp[qg] at hf;subst hf;exact ⟨vs,rfl,hA⟩
 | (i,x) :: rest,vs,cs,cs',hA,hf=>by
  simp only[qg] at hf
  split at hf
  ·rename_i off size new hp hc
   cases hb:new.length.beq size with
   | false=>simp[hb] at hf
   | true=>
    have hnew:=agf hb
    simp only[hb] at hf
    cases hs:splice cs off new with
    | none=>simp[hs] at hf
    | some r=>
     simp only[hs] at hf
     obtain ⟨g1,g2,g3⟩:=kW (aH h x) hc
     obtain ⟨r1,r2,r3⟩:=nS cs off new r hs
     have hfold:=aji off (a.eval x).cells.toList 0 vs
     simp only[atm] at hfold
     obtain ⟨f1,f2⟩:=hfold
     have hA':jG E (((a.eval x).cells.toList.zipIdx 0).foldl (fun (cs:Array Value) (p:Value×Nat)=>cs.setIfInBounds (off+p.2) p.1) vs) r:=by
      refine jG.of (by rw[f1,hA.size,r1]) fun k hk=>?_
      rw[f1] at hk
      rw[f2 k hk,r3 k]
      have hlen:(a.eval x).cells.toList.length=new.length:=by simpa using g1
      rw[hlen]
      by_cases hin:off≤k∧k<off+new.length
      ·rw[if_pos hin,if_pos hin]
       have h1:k-off<new.length:=by omega
       have h2:k-off<(a.eval x).cells.size:=by omega
       have e1:(a.eval x).cells[k-off]?=some (a.eval x).cells[k-off]:=aex h2
       have e2:new[k-off]?=some new[k-off]:=abn h1
       exact ⟨_,_,by rw[aeX];exact e1,e2,g2 _ _ e1,g3 _ _ _ e1 e2⟩
      ·rw[if_neg hin,if_neg hin]
       have h1:k<cs.length:=by rw[←hA.size];exact hk
       have e1:vs[k]?=some vs[k]:=aex hk
       have e2:cs[k]?=some cs[k]:=abn h1
       exact ⟨_,_,e1,e2,hA.one _ _ e1,hA.rep _ _ _ e1 e2⟩
     obtain ⟨vs',e1,e2⟩:=uy h place place' hpl rest _ r cs' hA' hf
     refine ⟨vs',?_,e2⟩
     simp only[aoM,Instr.fill,hpl _ _ hp]
     have hcond:¬((a.eval x).cells.size≠size∨off+(a.eval x).cells.size>vs.size):=by
      have:=hA.size
      omega
     rw[if_neg (by simpa [aqK,decide_eq_true_eq] using hcond)]
     rw[←e1]
     congr 1
     rw[←Array.foldl_toList,Array.toList_zipIdx]
  ·cases hf
theorem vH:∀(l:List Value) (k:Nat),(zeros l)[k]?=(l[k]?).map fun v=>SV.p true (.val v)
 | [],k=>by simp[zeros]
 | v :: l,0=>by simp[zeros]
 | v :: l,k+1=>by simp[zeros,vH l k]
theorem zeros_length:∀(l:List Value),(zeros l).length=l.length
 | []=>rfl
 | v :: l=>by simp[zeros,zeros_length l]
theorem TI.Ok.lT {P:Program} {t:Nat} {i:TI} (h:i.Ok P t) (E:Env):∃I z,P.info? t=some I∧I.zero=some z∧I.size=i.size∧z.cells.size=i.size∧jG E z.cells (zeros i.zero):=by
 obtain ⟨I,hI,hs,_,z,hz,hzl,h1,hsz⟩:=h.info
 refine ⟨I,z,hI,hz,hs,hsz,by rw[zeros_length,←hzl];simp,h1,fun k u s hu hs=>?_⟩
 rw[vH,←hzl] at hs
 simp only[aeX,hu,aoF,Option.some.injEq] at hs
 subst hs;exact .val _ _
theorem vg {P:Program} {Tb:Tab} (hTb:Tb.Ok P) {fs:Array Field} {i:Nat} {p:Nat×Nat} (h:qX Tb (oh fs) i=some p):∃f,fs[i]?=some f∧p.1=f.offset∧(P.info? f.type).map (·.size)=some p.2:=by
 unfold qX at h
 rw[d9] at h
 simp only[oh,ajs,aeX] at h
 cases hf:fs[i]? with
 | none=>simp[hf] at h
 | some f=>
  simp only[hf,aoF] at h
  split at h
  ·rename_i size _ _ hl
   cases h
   obtain ⟨I,hI,hs,_⟩:=(hTb _ _ hl).info
   exact ⟨f,rfl,rfl,by simp[hI,hs]⟩
  ·cases h
theorem acM {P:Program}:∀(fs:List Field),(fs.all fun f=>(P.info? f.type).isSome)=true →
  ∃places,fs.mapM (fun f=>(P.info? f.type).map fun i=>(f.offset,i.size))=some places∧∀(i:Nat) f,fs[i]?=some f→(places[i]?)=(P.info? f.type).map fun i=>(f.offset,i.size)
 | [],_=>⟨[],rfl,by simp⟩
 | f :: fs,h=>by
  simp only[List.all_cons,agw] at h
  obtain ⟨ps,h1,h2⟩:=acM fs h.2
  obtain ⟨I,hI⟩:=Option.isSome_iff_exists.1 h.1
  refine ⟨(f.offset,I.size) :: ps,by simp[hI,h1],fun i g hg=>?_⟩
  cases i with
  | zero=>simp at hg;subst hg;simp[hI]
  | succ i=>simp at hg ⊢;exact h2 i g hg
structure akz (E:Env) (w:World) (T:TypeId) (sz n:Nat) (f:Nat→List PV) (b cap:Nat) (cur:Array Value) (u:Nat→Nat→Value):Prop where
 heap:w.heap[b]?=some (.cells cur T (0,0))
 hn:n≤cap
 hcap:cap≤maxLen
 hmax:n≤maxLen
 size:cur.size=cap*sz
 hl:∀j,j<n→(f j).length=sz
 hc:∀j k s,j<n→(f j)[k]?=some s→cur[j*sz+k]?=some (u j k)∧(u j k).oneCell'=true
 he:∀j k s,j<n→(f j)[k]?=some s→aO E.mem (u j k) s
theorem cZ.jQ {E:Env} {w:World} {i:Nat} {T:TypeId} {sz n:Nat} {f:Nat→List PV} (h:cZ E w i (.row T sz n f)) {b n' cap:Nat} (hb:E.hd i=some (.slice (some ⟨b,0,none⟩) n' cap)) :
  n'=n∧∃cur u,akz E w T sz n f b cap cur u:=by
 cases h with
 | row _ _ _ _ v xs u hh hw hmax hl hc he=>
  rw[hb] at hh
  have hv:=Option.some.inj hh
  rcases hw.2 with ⟨h1,_⟩ | ⟨g,cap',cur,h1,h2,h3,h4,h5,h6,h7⟩
  ·rw[h1] at hv;cases hv
  ·rw[h1] at hv
   simp only[Value.slice.injEq,Option.some.injEq,Addr.mk.injEq] at hv
   obtain ⟨⟨rfl,_⟩,rfl,rfl⟩:=hv
   refine ⟨rfl,cur,u,h3,h4,h5,hmax,h6,hl,fun j k s hj hs=>?_,he⟩
   obtain ⟨g1,g2⟩:=hc j k s hj hs
   refine ⟨?_,g2⟩
   rw[←h7,alD] at g1
   split at g1
   ·rw[←aeX];exact g1
   ·cases g1
theorem cZ.abX {E:Env} {w:World} {i:Nat} {T:TypeId} {sz n:Nat} {f:Nat→List PV} (h:cZ E w i (.row T sz n f)) (hn:0<n):∃b cap,E.hd i=some (.slice (some ⟨b,0,none⟩) n cap):=by
 cases h with
 | row _ _ _ _ v xs u hh hw hmax hl hc he=>
  rcases hw.2 with ⟨_,h1⟩ | ⟨g,cap',cur,h1,_⟩
  ·omega
  ·exact ⟨g,cap',by rw[hh,h1]⟩
theorem oN {C:Ctx} {E:Env} {st:St} {a:Act} {w:World} (h:aA C E st a w):∀(l:List Operand),(evs st l).length=l.length ∧
  ∀(k:Nat) (u:Value) (s:SV),(l.map a.eval)[k]?=some u→(evs st l)[k]?=some s→aM E u s
 | []=>by simp[evs]
 | x :: l=>by
  obtain ⟨h1,h2⟩:=oN h l
  refine ⟨by simp[evs,h1],fun k u s hu hs=>?_⟩
  cases k with
  | zero=>simp[evs] at hu hs;subst hu;subst hs;exact aH h x
  | succ k=>simp[evs] at hu hs;exact h2 k u s (by simpa using hu) hs
theorem ah8 (cs:Array Value) (off size k:Nat) (hk:k<size):(cs.extract off (off+size))[k]?=cs[off+k]?:=by
 rw[Array.getElem?_extract]
 by_cases h:k<min (off+size) cs.size-off
 ·rw[if_pos h]
 ·rw[if_neg h,aoB (by omega)]
theorem ahO {P:Program} {t:Nat} {i:TI} (hi:i.Ok P t) {E:Env} {vs:Array Value} {l:List SV} (hA:jG E vs l) {off:Nat} {s:SV} (hr:bV i.desc.isAgg i.size off l=some s) :
  ∃v,(∀w,(part t vs off).run P w=.ok v w)∧aM E v s:=by
 cases hag:i.desc.isAgg with
 | true=>
  rw[hag] at hr
  obtain ⟨h1,h2⟩:=ai3 hA.at hr
  refine ⟨_,fun w=>by unfold part;simp[vD hi,hag,dQ hi],h2 _ ?_ fun k hk=>ah8 vs off i.size k hk⟩
  have:=hA.size
  simp only[Array.size_extract]
  omega
 | false=>
  rw[hag] at hr
  simp only[bV,d9] at hr
  obtain ⟨u,hu,_,hs⟩:=hA.at _ _ hr
  exact ⟨u,fun w=>gF hi hag vs off u hu w,hs⟩
theorem ag9 {E:Env} {v:Value} {b:Bool} {l:List PV} (h:aM E v (.p b (.agg l))):∃vs,v=.agg vs∧jG E vs (dX b l):=by
 cases h with | p _ _ _ h=>
 obtain ⟨vs,rfl,hl,h1,he⟩:=h.jW
 refine ⟨vs,rfl,by rw[mh];exact hl,h1,fun k u s hu hs=>?_⟩
 rw[iK] at hs
 cases hd:l[k]? with
 | none=>simp[hd] at hs
 | some d=>simp[hd] at hs;subst hs;exact .p _ _ _ (he k u d hu hd)
theorem dZ {C:Ctx} {E:Env} {st:St} {a:Act} {w:World} (h:aA C E st a w) {x:Option Operand} {d:Int} {K:Int→Prop} (hk:iX st x d K):∃j,K j∧((x.map a.eval=none∧j=d)∨∃k,x.map a.eval=some (.int k j)):=by
 cases x with
 | none=>exact ⟨d,hk,.inl ⟨rfl,rfl⟩⟩
 | some x=>
  simp only[iX] at hk
  split at hk
  ·rename_i b k j hx
   have hv:=aH h x
   rw[hx] at hv
   exact ⟨j,hk,.inr ⟨k,by rw[aoF,hv.aN]⟩⟩
  ·exact hk.elim
theorem tu {P:Program} {w:World} (b:Bool) (len cap:Nat) {lo hi:Option Value} {l h:Int} (hl:(lo=none∧l=0)∨∃k,lo=some (.int k l)) (hh:(hi=none∧h=len)∨∃k,hi=some (.int k h)) (h0:0≤l) (h1:l≤h) (h2:h≤len) (hc:len≤cap) :
  (Instr.sliceBounds b len cap lo hi none).run P w=.ok (l.toNat,h.toNat,cap) w:=by
 have hcap:h≤(cap:Int):=by omega
 rcases hl with ⟨rfl,rfl⟩ | ⟨k,rfl⟩<;>rcases hh with ⟨rfl,rfl⟩ | ⟨k',rfl⟩
 ·simp[Instr.sliceBounds]
 ·simp[Instr.sliceBounds,Instr.sliceBound,asIntOf,h1,hcap]
 ·have:l≤(len:Int):=h1
  simp[Instr.sliceBounds,Instr.sliceBound,asIntOf,h0,this]
 ·have h3:0≤h:=by omega
  have h4:l≤((h.toNat:Nat):Int):=by omega
  simp[Instr.sliceBounds,Instr.sliceBound,asIntOf,h0,h3,hcap,h4,atC h3,h1]
theorem ahY {P:Program} {w:World} (len cap:Nat) {lo hi:Option Value} {l h:Int} (hl:(lo=none∧l=0)∨∃k,lo=some (.int k l)) (hh:(hi=none∧h=len)∨∃k,hi=some (.int k h)) (h0:0≤l) (h1:l≤h) (h2:h≤cap) (hc:len≤cap) :
  (Instr.sliceBounds true len cap lo hi none).run P w=.ok (l.toNat,h.toNat,cap) w:=by
 rcases hl with ⟨rfl,rfl⟩ | ⟨k,rfl⟩<;>rcases hh with ⟨rfl,rfl⟩ | ⟨k',rfl⟩
 ·simp[Instr.sliceBounds]
 ·simp[Instr.sliceBounds,Instr.sliceBound,asIntOf,h1,h2]
 ·have:l≤(len:Int):=h1
  simp[Instr.sliceBounds,Instr.sliceBound,asIntOf,h0,this]
 ·have h3:0≤h:=by omega
  have h4:l≤((h.toNat:Nat):Int):=by omega
  simp[Instr.sliceBounds,Instr.sliceBound,asIntOf,h0,h3,h2,h4,atC h3,h1]
theorem aie {P:Program} {w:World} (len cap:Nat) {lo:Option Value} {hi mx:Value} {l h m:Int} {k1 k2:IntKind} (hl:(lo=none∧l=0)∨∃k,lo=some (.int k l)) (hh:hi=.int k1 h) (hm:mx=.int k2 m) (h0:0≤l) (h1:l≤h) (h2:h≤m) (h3:m≤cap) :
  (Instr.sliceBounds true len cap lo (some hi) (some mx)).run P w=.ok (l.toNat,h.toNat,m.toNat) w:=by
 subst hh hm
 have h4:0≤h:=by omega
 have h5:0≤m:=by omega
 have h6:h≤((m.toNat:Nat):Int):=by omega
 have h7:l≤((h.toNat:Nat):Int):=by omega
 rcases hl with ⟨rfl,rfl⟩ | ⟨k,rfl⟩
 ·simp[Instr.sliceBounds,Instr.sliceBound,asIntOf,h2,h3,h4,h5,atC h4,atC h5]
 ·simp[Instr.sliceBounds,Instr.sliceBound,asIntOf,h0,h1,h2,h3,h4,h5,atC h4,atC h5]
theorem aib {P:Program} {w:World} (len cap:Nat) {lo:Option Value} {hi mx:Value} {l h m:Int} {k1 k2:IntKind} (hl:(lo=none∧l=0)∨∃k,lo=some (.int k l)) (hh:hi=.int k1 h) (hm:mx=.int k2 m) (h0:0≤l) (h1:l≤h) (h2:h=m) (h3:h≤len) (hc:len≤cap) :
  (Instr.sliceBounds true len cap lo (some hi) (some mx)).run P w=.ok (l.toNat,h.toNat,m.toNat) w:=by
 subst hh hm h2
 have hcap:h≤(cap:Int):=by omega
 have h4:0≤h:=by omega
 have h5:h≤((h.toNat:Nat):Int):=by omega
 have h6:l≤((h.toNat:Nat):Int):=by omega
 rcases hl with ⟨rfl,rfl⟩ | ⟨k,rfl⟩
 ·simp[Instr.sliceBounds,Instr.sliceBound,asIntOf,h4,hcap,atC h4]
 ·simp[Instr.sliceBounds,Instr.sliceBound,asIntOf,h0,h1,h4,hcap,atC h4]
theorem acU {P:Program} (w:World) (d:Nat) {t e:TypeId} (hu:P.underlying t=some (.slice e)):(Op.equalIn (d+1) t (.slice none 0 0) (.slice none 0 0)).run P w=.ok true w:=by
 simp[Op.equalIn,run_underlying hu]
theorem tY {P:Program} (w:World) (d:Nat) {t e:TypeId} (hu:P.underlying t=some (.slice e)) (a:Addr) (n c:Nat):(Op.equalIn (d+1) t (.slice (some a) n c) (.slice none 0 0)).run P w=.ok false w:=by
 simp[Op.equalIn,run_underlying hu]
theorem wG {C:Ctx} {E:Env} {st:St} {a:Act} {w:World} {R:World→Prop} (h:aA C E st a w) {X:bB} (hTb:X.Tb.Ok X.P) (hnt:C.nt=X.nt) {o:Oper} (hR:∀w1,R w1→fH o.op=true→Grow w w1) (hd:bQ X.nt o.dst=true)
  {K:St→Prop} (hk:uj X o st K) {next:Act→World→Prop}
  (hn:∀st' E' a' w',K st'→aA C E' st' a' w'→next a' w'):aT R X.P o a w next:=by
 unfold uj at hk
 split at hk
 ·rename_i x ho
  exact aT.mk' (v:=a.eval x) (fun w1 hg=>by simp[execOp,ho]) (aD h hnt hd hk (aH h x) hn)
 ·rename_i x ho
  exact aT.mk' (v:=a.eval x) (fun w1 hg=>by simp[execOp,ho]) (aD h hnt hd hk (aH h x) hn)
 ·rename_i c x y ho
  split at hk
  ·rename_i b t hc
   have hcv:=aH h c
   rw[hc] at hcv
   have hce:=hcv.aN
   rcases yj hk with ⟨rfl,hk⟩ | ⟨rfl,hk⟩
   ·exact aT.mk' (v:=a.eval x) (fun w1 hg=>by simp[execOp,ho,hce,asBool]) (aD h hnt hd hk (aH h x) hn)
   ·exact aT.mk' (v:=a.eval y) (fun w1 hg=>by simp[execOp,ho,hce,asBool]) (aD h hnt hd hk (aH h y) hn)
  ·exact hk.elim
 ·rename_i op t x y _ ho
  split at hk
  ·rename_i n hnil
   unfold amb at hnil
   split at hnil
   ·rename_i b0 m f b1 hx hy
    split at hnil
    ·rename_i e _ _ _ hi
     obtain rfl:m=n:=by simpa using hnil
     have hu:X.P.underlying t=some (.slice e):=(hTb _ _ hi).desc
     have hxv:=aH h x
     have hyv:=aH h y
     rw[hx] at hxv
     rw[hy] at hyv
     have hye:=hyv.aN
     obtain ⟨b,hb,hsl,heq⟩:∃b:Bool,(b=true→m=0)∧(∃ad n c,a.eval x=.slice ad n c)∧∀w1,(Op.equal t (a.eval x) (.slice none 0 0)).run X.P w1=.ok b w1:=by
      generalize a.eval x=v at hxv
      cases hxv with
      | p _ _ _ hp=>
       cases hp with
       | nil=>exact ⟨true,fun _=>rfl,⟨_,_,_,rfl⟩,fun w1=>by unfold Op.equal;rw[show Op.maxDepth=9999+1 from rfl];exact acU w1 9999 hu⟩
       | emp=>exact ⟨false,fun h=>(by cases h),⟨_,_,_,rfl⟩,fun w1=>by unfold Op.equal;rw[show Op.maxDepth=9999+1 from rfl];exact tY w1 9999 hu _ _ _⟩
       | seq=>exact ⟨false,fun h=>(by cases h),⟨_,_,_,rfl⟩,fun w1=>by unfold Op.equal;rw[show Op.maxDepth=9999+1 from rfl];exact tY w1 9999 hu _ _ _⟩
     obtain ⟨ad,n',c',hsl⟩:=hsl
     rw[hsl] at heq
     split at hk
     ·exact aT.mk' (v:=.bool b) (fun w1 hg=>by simp[execOp,ho,hye,hsl,eqGuard,binOp,heq]) (aD h hnt hd (hk b hb) (.val _ _) hn)
     ·exact aT.mk' (v:=.bool (!b)) (fun w1 hg=>by simp[execOp,ho,hye,hsl,eqGuard,binOp,heq]) (aD h hnt hd (hk b hb) (.val _ _) hn)
     ·exact hk.elim
    ·cases hnil
   ·cases hnil
  obtain ⟨v,hv,hnx⟩:=ac1 h hnt hd hk (fun w1=>amu hTb op t x y (aH h x) (aH h y) w1) hn
  exact aT.mk' (v:=v) (fun w1 hg=>by simp only[execOp,ho];simp only[Sem.run_bind,hv,Result.andThen_ok,Sem.run_pure]) hnx
 ·rename_i op _ x ho
  obtain ⟨v,hv,hnx⟩:=ac1 h hnt hd hk (fun w1=>anh (P:=X.P) op (aH h x) w1) hn
  exact aT.mk' (v:=v) (fun w1 hg=>by simp only[execOp,ho];simp only[Sem.run_bind,hv,Result.andThen_ok,Sem.run_pure]) hnx
 ·rename_i s t x ho
  split at hk
  ·rename_i i1 k _ _ _ hi1 hi2
   split at hk
   ·rename_i _ k' n hx
    have hxv:=aH h x
    rw[hx] at hxv
    have hxe:=hxv.aN
    have hd2:X.P.underlying t=some (.int k):=(hTb _ _ hi2).desc
    obtain ⟨d,hds⟩:∃d,X.P.underlying s=some d:=by
     obtain ⟨I,hI,_⟩:=(hTb _ _ hi1).info
     have:=(hTb _ _ hi1).desc
     obtain ⟨desc,_,_,_⟩:=i1
     cases desc<;>first | exact ⟨_,this⟩ | (obtain ⟨d,hd,_⟩:=this;exact ⟨d,hd⟩) | (obtain ⟨fs,hd,_⟩:=this;exact ⟨_,hd⟩)
    exact aT.mk' (v:=.int k (k.wrap n)) (fun w1 hg=>by simp[execOp,ho,convert,run_underlying hds,run_underlying hd2,hxe,Conv.intToInt]) (aD h hnt hd hk (.val _ _) hn)
   ·exact hk.elim
  ·-- bytes to a string
   rename_i e _ _ _ _ _ _ hi1 hi2
   split at hk
   ·rename_i _ _ _ hie
    have hs:X.P.underlying s=some (.slice e):=(hTb _ _ hi1).desc
    have hd2:X.P.underlying t=some .string:=(hTb _ _ hi2).desc
    have he8:X.P.underlying e=some (.int .u8):=(hTb _ _ hie).desc
    have done:∀(b:Nat) (q cap:Nat) (bs:ByteArray),a.eval x=.slice (some ⟨b,q,none⟩) bs.size cap→b<w.heap.size→(∀j,j<bs.size→w.cell? ⟨b,q+j,none⟩=some (.int .u8 (bs.data.getD j 0).toNat)) →
      aS st o.dst (.p true (.val (.string bs))) K→aT R X.P o a w next:=by
     intro b q cap bs hv hlt hcell hk
     refine aT.mk' (v:=.string bs) (fun w1 hg=>?_) (aD h hnt hd hk (.val _ _) hn)
     have hr:=run_convert_bytes_back (P:=X.P) w1 s t e ⟨b,q,none⟩ cap bs.data.toList hs he8 hd2 (fun j hj=>by
      have hj':j<bs.size:=by simpa using hj
      rw[Addr.add_lit,(hR w1 hg (by simp[fH,ho])).cell hlt,hcell j hj']
      have:bs.data.getD j 0=bs.data.toList[j]:=by simp[Array.getD];exact dif_pos hj'
      rw[this])
     have e1:bs.data.toList.length=bs.size:=by simp
     rw[e1] at hr
     have e2:(⟨bs.data.toList.toArray⟩:ByteArray)=bs:=by simp
     rw[e2] at hr
     simp[execOp,ho,hv,hr]
    have none0:∀(v:Value) (bs:ByteArray),bs.size=0→a.eval x=v→(v=.slice none 0 0∨∃ad cap,v=.slice (some ad) 0 cap)→aS st o.dst (.p true (.val (.string bs))) K→aT R X.P o a w next:=by
     intro v bs hb hv hor hk
     have hbe:bs=ByteArray.empty:=by
      apply ByteArray.ext
      exact Array.eq_empty_of_size_eq_zero hb
     subst hbe
     refine aT.mk' (v:=.string ByteArray.empty) (fun w1 hg=>?_) (aD h hnt hd hk (.val _ _) hn)
     rcases hor with rfl | ⟨ad,cap,rfl⟩
     ·simp[execOp,ho,hv,run_convert_bytes_string w1 s t e none 0 0 hs he8 hd2,Conv.bytesToString]
     ·have hr:=run_convert_bytes_back (P:=X.P) w1 s t e ad cap [] hs he8 hd2 (fun j hj=>absurd hj (alJ _))
      simp only[aoK] at hr
      simp[execOp,ho,hv,hr];rfl
    split at hk
    ·rename_i bb n f hx
     obtain ⟨bs,⟨hbs,hf⟩,hk⟩:=hk
     subst hbs
     have hxv:=aH h x
     rw[hx] at hxv
     generalize hvx:a.eval x=v at hxv
     cases hxv with
     | p _ _ _ hp=>
      generalize hm0:bs.size=m at hp hf
      cases hp with
      | nil=>exact none0 _ bs hm0 hvx (.inl rfl) hk
      | emp ad cap=>exact none0 _ bs hm0 hvx (.inr ⟨ad,cap,rfl⟩) hk
      | seq b' q _ cap sz' _ cs u hm hcap hmax hl hc he=>
       subst hm0
       obtain ⟨T',fr,hw⟩:=h.heap.mem _ _ (E.eO _ _ _ hm)
       refine done b' q cap bs hvx (abB.1 hw).1 (fun j hj=>?_) hk
       have hfj:=hf j hj
       have hs0:(f j)[0]?=some (.val (.int .u8 (bs.data.getD j 0).toNat)):=by rw[hfj];rfl
       have hsz:sz'=1:=by rw[←hl j hj,hfj];rfl
       obtain ⟨c1,_⟩:=hc j 0 _ hj hs0
       have c2:=(he j 0 _ hj hs0).aN
       rw[hsz,c2] at c1
       simp only[World.cell?,hw]
       simpa using c1
    ·rename_i i hx
     split at hk
     ·rename_i T' n f hob
      obtain ⟨bs,⟨hbs,hf⟩,hk⟩:=hk
      subst hbs
      have hxv:=aH h x
      rw[hx] at hxv
      generalize hvx:a.eval x=v at hxv
      cases hxv with
      | row _ _ hh _=>
       by_cases h0:bs.size=0
       ·refine none0 _ bs h0 hvx ?_ hk
        have:=h.heap.ob i _ hob
        cases this with
        | row _ _ _ _ v' xs u hh' hw' _ _ _ _=>
         rw[hh] at hh';cases hh'
         rcases hw'.2 with ⟨h1,_⟩ | ⟨g,cap',cur,h1,_⟩
         ·exact .inl h1
         ·exact .inr ⟨_,cap',by rw[h1,h0]⟩
       ·obtain ⟨b,cap,hb⟩:=(h.heap.ob i _ hob).abX (by omega)
        obtain ⟨_,cur,u,hR⟩:=(h.heap.ob i _ hob).jQ hb
        rw[hb] at hh;cases hh
        refine done b 0 cap bs hvx (abB.1 hR.heap).1 (fun j hj=>?_) hk
        have hs0:(f j)[0]?=some (.val (.int .u8 (bs.data.getD j 0).toNat)):=by rw[hf j hj];rfl
        obtain ⟨c1,_⟩:=hR.hc j 0 _ hj hs0
        have c2:=(hR.he j 0 _ hj hs0).aN
        rw[c2] at c1
        simp only[World.cell?,hR.heap]
        simpa using c1
     ·exact hk.elim
    ·exact hk.elim
   ·exact hk.elim
  ·rename_i i1 _ _ _ _ hi1 hi2
   split at hk
   ·rename_i b n hx
    have hxv:=aH h x
    rw[hx] at hxv
    have hxe:=hxv.aN
    have hd2:X.P.underlying t=some .string:=(hTb _ _ hi2).desc
    obtain ⟨d,hds⟩:∃d,X.P.underlying s=some d:=by
     have:=(hTb _ _ hi1).desc
     obtain ⟨desc,_,_,_⟩:=i1
     cases desc<;>first | exact ⟨_,this⟩ | (obtain ⟨d,hd,_⟩:=this;exact ⟨d,hd⟩) | (obtain ⟨fs,hd,_⟩:=this;exact ⟨_,hd⟩)
    refine aT.mk' (v:=.string n) ?_ (aD h hnt hd hk (.val _ _) hn)
    intro w1 hg
    simp only[execOp,ho,convert,run_underlying hds,run_underlying hd2,hxe,Sem.run_bind,Result.andThen_ok]
    cases d<;>rfl
   ·rename_i b ik n hx
    obtain ⟨⟨hn0,hn1⟩,hk⟩:=hk
    have hxv:=aH h x
    rw[hx] at hxv
    have hxe:=hxv.aN
    have hd2:X.P.underlying t=some .string:=(hTb _ _ hi2).desc
    obtain ⟨d,hds⟩:∃d,X.P.underlying s=some d:=by
     have:=(hTb _ _ hi1).desc
     obtain ⟨desc,_,_,_⟩:=i1
     cases desc<;>first | exact ⟨_,this⟩ | (obtain ⟨d,hd,_⟩:=this;exact ⟨d,hd⟩) | (obtain ⟨fs,hd,_⟩:=this;exact ⟨_,hd⟩)
    refine aT.mk' (v:=.string ⟨#[UInt8.ofNat n.toNat]⟩) ?_ (aD h hnt hd hk (.val _ _) hn)
    intro w1 hg
    simp only[execOp,ho,convert,run_underlying hds,run_underlying hd2,hxe,Sem.run_bind,Result.andThen_ok]
    have he:Utf8.encode n=⟨#[UInt8.ofNat n.toNat]⟩:=by
     have hv:Utf8.valid n=true:=by unfold Utf8.valid;simp;omega
     have hlt:n.toNat<0x80:=by omega
     unfold Utf8.encode
     simp only[hv,if_true,hlt]
    cases d<;>(simp only[Conv.intToString,he];rfl)
   ·exact hk.elim
  ·exact hk.elim
 ·rename_i f capt ho
  obtain ⟨h1,h2⟩:=oN h capt.toList
  refine aT.mk' (v:=.func (.func f) #[] (capt.map a.eval)) (fun w1 hg=>by simp[execOp,ho,Instr.makeFunc]) (aD h hnt hd hk (.fn f _ _ (by simp[h1]) fun k u s hu hs=>h2 k u s ?_ hs) hn)
  simpa using hu
 ·rename_i f first _ ho
  split at hk
  ·rename_i b ds hal
   obtain ⟨h1,h2⟩:=oN h first.toList
   obtain ⟨g1,g2⟩:=qC _ b ds hal
   refine aT.mk' (v:=.func (.func f) (first.map a.eval) #[]) (fun w1 hg=>by simp[execOp,ho,Instr.makeFunc]) (aD h hnt hd hk (.p b _ _ (.bnd f _ _ (by simp[h1,←g1]) fun k u d hu hds=>?_)) hn)
   have hk1:k<(evs st first.toList).length:=by rw[g1];exact (abA.1 hds).1
   exact g2 k u _ d (abn hk1) hds (h2 k u _ (by simpa using hu) (abn hk1))
  ·exact hk.elim
 ·rename_i T parts ho
  split at hk
  ·rename_i fs _ _ z hi
   split at hk
   ·rename_i cs hf
    have hok:=hTb _ _ hi
    obtain ⟨I,zv,hI,hz,hs,hzs,hZ⟩:=hok.lT E
    obtain ⟨Fs,hu,hfs,_,_,_,hall⟩:=hok.desc
    subst hfs
    obtain ⟨places,hp1,hp2⟩:=acM Fs.toList (by simpa using hall)
    obtain ⟨vs',hfill,hA⟩:=uy h _ (places.toArray[·]?) (fun i p hp=>by
     obtain ⟨f,hf1,hf2,hf3⟩:=vg hTb hp
     have:=hp2 i f (by simpa using hf1)
     cases hI':X.P.info? f.type with
     | none=>simp[hI'] at hf3
     | some I'=>simp[hI'] at hf3 this ⊢;rw[this,←hf2,hf3]) parts.toList _ _ _ hZ hf
    have hb:X.P.built T (parts.map fun p=>(p.1,a.eval p.2)).toList=some vs':=by
     simp only[Program.built,hI,hu,hz,hp1]
     simpa using hfill
    exact aT.mk' (v:=.agg vs') (fun w1 hg=>by simp only[execOp,ho];simp only[Sem.run_bind,run_build w1 T _ vs' hb,Result.andThen_ok,Sem.run_pure]) (aD h hnt hd hk (qY hA.size hA.one hA.rep) hn)
   ·exact hk.elim
  ·rename_i n e _ _ z hi
   split at hk
   ·rename_i _ sz _ _ hie
    split at hk
    ·rename_i cs hf
     have hok:=hTb _ _ hi
     obtain ⟨I,zv,hI,hz,hs,hzs,hZ⟩:=hok.lT E
     have hu:X.P.underlying T=some (.array n e):=hok.desc
     obtain ⟨Ie,hIe,hse,_⟩:=(hTb _ _ hie).info
     obtain ⟨vs',hfill,hA⟩:=uy h _ _ (fun i p hp=>hp) parts.toList _ _ _ hZ hf
     have hb:X.P.built T (parts.map fun p=>(p.1,a.eval p.2)).toList=some vs':=by
      simp only[Program.built,hI,hu,hz,hIe]
      simp only at hse
      rw[hse]
      simpa using hfill
     have hrun:∀w1,R w1→(execOp a.eval o).run X.P w1=.ok (.value (.agg vs')) w1:=fun w1 hg=>by simp only[execOp,ho];simp only[Sem.run_bind,run_build w1 T _ vs' hb,Result.andThen_ok,Sem.run_pure]
     split at hk
     ·split at hk
      ·rename_i b g hb
       exact aT.mk' hrun (aD h hnt hd hk (.p b _ _ (aap hb (qY hA.size hA.one hA.rep))) hn)
      ·exact hk.elim
     ·exact aT.mk' hrun (aD h hnt hd hk (qY hA.size hA.one hA.rep) hn)
    ·exact hk.elim
   ·exact hk.elim
  ·exact hk.elim
 ·rename_i T x f ho
  split at hk
  ·rename_i fs _ _ _ hi
   split at hk
   ·rename_i off t hfs
    split at hk
    ·rename_i d size _ _ ht
     obtain ⟨Fs,hu,hfp,_⟩:=(hTb _ _ hi).desc
     subst hfp
     rw[d9] at hfs
     simp only[oh,ajs,aeX] at hfs
     cases hff:Fs[f]? with
     | none=>simp[hff] at hfs
     | some fd=>
      simp only[hff,aoF,Option.some.injEq,Prod.mk.injEq] at hfs
      obtain ⟨rfl,rfl⟩:=hfs
      have fin:∀(vs:Array Value) (l:List SV) (s:SV),a.eval x=.agg vs→jG E vs l→bV d.isAgg size fd.offset l=some s→aS st o.dst s K→aT R X.P o a w next:=by
       intro vs l s hx hA hr hk
       obtain ⟨v,hv,hs⟩:=ahO (hTb _ _ ht) hA hr
       exact aT.mk' (v:=v) (fun w1 hg=>by simp[execOp,ho,Instr.field,run_underlying hu,hff,hx,asAgg,hv]) (aD h hnt hd hk hs hn)
      split at hk
      ·rename_i b l hx
       split at hk
       ·rename_i s hr
        have hxv:=aH h x
        rw[hx] at hxv
        obtain ⟨vs,hxe,hA⟩:=ag9 hxv
        exact fin vs _ s hxe hA hr hk
       ·exact hk.elim
      ·rename_i l hx
       split at hk
       ·rename_i s hr
        have hxv:=aH h x
        rw[hx] at hxv
        generalize hvx:a.eval x=v at hxv
        cases hxv with
        | agg vs _ hl h1 he=>exact fin vs _ s hvx ⟨hl,h1,he⟩ hr hk
       ·exact hk.elim
      ·exact hk.elim
    ·exact hk.elim
   ·exact hk.elim
  ·exact hk.elim
 ·rename_i x i ho
  split at hk
  ·rename_i b l hx
   split at hk
   ·rename_i dd hg
    have hxv:=aH h x
    rw[hx] at hxv
    rw[d9] at hg
    generalize hvx:a.eval x=v at hxv
    cases hxv with
    | p _ _ _ hp=>
     cases hp with
     | tup vs _ hl he=>
      have hi:i<vs.size:=by rw[hl];exact (abA.1 hg).1
      have hvi:vs[i]?=some vs[i]:=aex hi
      exact aT.mk' (v:=vs[i]) (fun w1 hg=>by simp[execOp,ho,Instr.extract,hvx,hvi]) (aD h hnt hd hk (.p _ _ _ (he i _ _ hvi hg)) hn)
   ·exact hk.elim
  ·rename_i l hx
   split at hk
   ·rename_i dd hg
    have hxv:=aH h x
    rw[hx] at hxv
    rw[d9] at hg
    generalize hvx:a.eval x=v at hxv
    cases hxv with
    | tup vs _ hl he=>
     have hi:i<vs.size:=by rw[hl];exact (abA.1 hg).1
     have hvi:vs[i]?=some vs[i]:=aex hi
     exact aT.mk' (v:=vs[i]) (fun w1 hg=>by simp[execOp,ho,Instr.extract,hvx,hvi]) (aD h hnt hd hk (he i _ _ hvi hg) hn)
   ·exact hk.elim
  ·exact hk.elim
 ·rename_i T x i ho
  split at hk
  ·rename_i _ _ _ hi
   split at hk
   ·rename_i _ s _ k j hx hj
    obtain ⟨c,⟨h0,hc⟩,hk⟩:=hk
    have hxv:=aH h x
    rw[hx] at hxv
    have hxe:=hxv.aN
    have hjv:=aH h i
    rw[hj] at hjv
    have hje:=hjv.aN
    have hu:X.P.underlying T=some .string:=(hTb _ _ hi).desc
    exact aT.mk' (v:=.int .u8 c.toNat) (fun w1 hg=>by simp[execOp,ho,Instr.index,run_underlying hu,hxe,hje,asIntOf,h0,hc]) (aD h hnt hd hk (.val _ _) hn)
   ·exact hk.elim
  ·rename_i n e _ _ _ hi
   split at hk
   ·rename_i d sz _ _ ht
    split at hk
    ·rename_i _ k j hj
     have hjv:=aH h i
     rw[hj] at hjv
     have hje:=hjv.aN
     have hu:X.P.underlying T=some (.array n e):=(hTb _ _ hi).desc
     have fin:∀(vs:Array Value) (l:List SV) (s:SV),a.eval x=.agg vs→jG E vs l→(0≤j∧j<(n:Int))→bV d.isAgg sz (j.toNat*sz) l=some s→aS st o.dst s K→aT R X.P o a w next:=by
      intro vs l s hx hA hjn hr hk
      obtain ⟨v,hv,hs⟩:=ahO (hTb _ _ ht) hA hr
      exact aT.mk' (v:=v) (fun w1 hg=>by simp[execOp,ho,Instr.index,run_underlying hu,hje,asIntOf,hjn,hx,dQ (hTb _ _ ht),hv]) (aD h hnt hd hk hs hn)
     split at hk
     ·rename_i b l hx
      obtain ⟨hjn,hk⟩:=hk
      split at hk
      ·rename_i s hr
       have hxv:=aH h x
       rw[hx] at hxv
       obtain ⟨vs,hxe,hA⟩:=ag9 hxv
       exact fin vs _ s hxe hA hjn hr hk
      ·exact hk.elim
     ·rename_i l hx
      obtain ⟨hjn,hk⟩:=hk
      split at hk
      ·rename_i s hr
       have hxv:=aH h x
       rw[hx] at hxv
       generalize hvx:a.eval x=v at hxv
       cases hxv with
       | agg vs _ hl h1 he=>exact fin vs _ s hvx ⟨hl,h1,he⟩ hjn hr hk
      ·exact hk.elim
     ·rename_i b n' f hx
      split at hk
      ·rename_i hnn hag
       obtain rfl:=agf hnn
       obtain ⟨hjn,hk⟩:=hk
       have hxv:=aH h x
       rw[hx] at hxv
       obtain ⟨g1,g2,g3⟩:=kW hxv (show cellsOf (.p b (.arr n' f))=some (dX b (dW n' f)) from rfl)
       generalize hvx:a.eval x=v at hxv g1 g2 g3
       cases hxv with
       | p _ _ _ hp=>
        obtain ⟨vs,rfl,_,_⟩:=hp.fZ
        refine fin vs _ _ hvx ⟨g1,g2,g3⟩ hjn ?_ hk
        rw[hag]
        simp only[bV,d9,apT]
        rw[iK,kV,if_pos (by omega)];rfl
      ·exact hk.elim
     ·exact hk.elim
    ·exact hk.elim
   ·exact hk.elim
  ·exact hk.elim
 ·rename_i T x lo hi ho
  split at hk
  ·rename_i _ _ _ hi'
   have hu:X.P.underlying T=some .string:=(hTb _ _ hi').desc
   split at hk
   ·rename_i _ s hx
    have hxv:=aH h x
    rw[hx] at hxv
    have hxe:=hxv.aN
    obtain ⟨l,hk,hl⟩:=dZ h hk
    obtain ⟨hh,hk,hhi⟩:=dZ h hk
    obtain ⟨⟨h0,h1,h2⟩,hk⟩:=hk
    exact aT.mk' (v:=.string (s.extract l.toNat hh.toNat)) (fun w1 hg=>by
     have:=tu (P:=X.P) (w:=w1) false s.size s.size hl hhi h0 h1 h2 (aha _)
     simp[execOp,ho,Instr.sliceAt,Instr.slice,run_underlying hu,hxe,this]) (aD h hnt hd hk (.val _ _) hn)
   ·exact hk.elim
  ·rename_i e _ _ _ hi'
   have hu:X.P.underlying T=some (.slice e):=(hTb _ _ hi').desc
   split at hk
   ·rename_i _ sz _ _ hie
    split at hk
    ·rename_i b n f hx
     have hxv:=aH h x
     rw[hx] at hxv
     obtain ⟨l,hk1,hl⟩:=dZ h hk
     obtain ⟨hh,hk2,hhi⟩:=dZ h hk1
     obtain ⟨⟨h0,h1,h2⟩,hlen,hk3⟩:=hk2
     generalize hvx:a.eval x=v at hxv
     have hrun:∀(ad:Option Addr) (cap:Nat) (w1:World),v=.slice ad n cap→n≤cap→(execOp a.eval o).run X.P w1=.ok (.value (.slice (if cap=l.toNat then ad else ad.map (·.add (l.toNat*(sz+1)))) (hh.toNat-l.toNat) (cap-l.toNat))) w1:=by
      intro ad cap w1 hv hcap
      have:=tu (P:=X.P) (w:=w1) true n cap hl hhi h0 h1 h2 hcap
      simp[execOp,ho,Instr.sliceAt,Instr.slice,run_underlying hu,hvx,hv,this,dQ (hTb _ _ hie)]
     cases hxv with
     | p _ _ _ hp=>
      cases hp with
      | nil=>
       have e1:l.toNat=0:=by omega
       have e2:hh.toNat=0:=by omega
       exact aT.mk' (fun w1 hg=>hrun none 0 w1 rfl (aha _)) (aD h hnt hd hk3 (by simp only[e1,e2];exact .p _ _ _ (.nil _)) hn)
      | emp ad cap=>
       have e1:l.toNat=0:=by omega
       have e2:hh.toNat=0:=by omega
       refine aT.mk' (fun w1 hg=>hrun (some ad) cap w1 rfl (afc _)) (aD h hnt hd hk3 ?_ hn)
       simp only[e1,e2,atw,atn]
       split
       ·exact .p _ _ _ (.emp _ _ _)
       ·exact .p _ _ _ (.emp _ _ _)
      | seq b' q _ cap sz' _ cs u hm hcap hmax hl' hc he=>
       refine aT.mk' (fun w1 hg=>hrun (some ⟨b',q,none⟩) cap w1 rfl hcap) (aD h hnt hd hk3 ?_ hn)
       by_cases hn0:hh.toNat-l.toNat=0
       ·rw[hn0]
        split
        ·exact .p _ _ _ (.emp _ _ _)
        ·exact .p _ _ _ (.emp _ _ _)
       ·have hsz':sz'=sz+1:=by rw[←hl' 0 (by omega),hlen 0 (by omega)]
        rw[if_neg (by omega)]
        simp only[aoF,Addr.add_lit]
        refine .p _ _ _ (.seq b' (q+l.toNat*(sz+1)) _ _ (sz+1) _ cs (fun j k=>u (l.toNat+j) k) hm (by omega) (by omega) (fun j hj=>hlen _ (by omega)) (fun j k s hj hs=>?_) (fun j k s hj hs=>he _ _ _ (by omega) hs))
        have:=hc (l.toNat+j) k s (by omega) hs
        rw[hsz',asM] at this
        rwa [show q+l.toNat*(sz+1)+(j*(sz+1)+k)=q+(l.toNat*(sz+1)+j*(sz+1)+k) by omega]
    ·rename_i r hx
     split at hk
     ·rename_i T' sz' m f hob
      cases hbq:sz'.beq (sz+1) with
      | false=>simp[hbq] at hk
      | true=>
       simp only[hbq] at hk
       have hxv:=aH h x
       rw[hx] at hxv
       obtain ⟨l,hk1,hl⟩:=dZ h hk
       obtain ⟨hh,hk2,hhi⟩:=dZ h hk1
       obtain ⟨⟨h0,h1,h2,hm0⟩,hk3⟩:=hk2
       obtain ⟨bl,cap,hhd⟩:=(h.heap.ob r _ hob).abX hm0
       obtain ⟨_,cur,u,hR⟩:=(h.heap.ob r _ hob).jQ hhd
       generalize hvx:a.eval x=v at hxv
       cases hxv with
       | row _ _ hh2 hsl=>
        rw[hhd] at hh2
        have hv:=(Option.some.inj hh2).symm
        have hcap:=hR.hn
        refine aT.mk' (v:=.slice (if cap=l.toNat then some ⟨bl,0,none⟩ else (some (⟨bl,0,none⟩:Addr)).map (·.add (l.toNat*(sz+1)))) (hh.toNat-l.toNat) (cap-l.toNat)) (fun w1 hg=>?_) (aD h hnt hd hk3 ?_ hn)
        ·have:=tu (P:=X.P) (w:=w1) true m cap hl hhi h0 h1 h2 hcap
         simp[execOp,ho,Instr.sliceAt,Instr.slice,run_underlying hu,hvx,hv,this,dQ (hTb _ _ hie)]
        ·by_cases hc:cap=l.toNat
         ·rw[if_pos hc]
          exact .sub _ _ _ _ bl m cap _ _ hhd (by omega) (by omega) (by omega) (fun h9=>by omega)
         ·rw[if_neg hc]
          simp only[aoF,Addr.add_lit,aiF]
          exact .sub _ _ _ _ bl m cap _ _ hhd (by omega) (by omega) (by omega) (fun _=>rfl)
     ·exact hk.elim
    ·rename_i r sz' p n hx
     split at hk
     ·rename_i T' sz2 m f hbq hob
      obtain rfl:=agf hbq
      have hxv:=aH h x
      rw[hx] at hxv
      obtain ⟨l,hk1,hl⟩:=dZ h hk
      obtain ⟨hh,hk2,hhi⟩:=dZ h hk1
      obtain ⟨⟨h0,h1,h2⟩,hk3⟩:=hk2
      generalize hvx:a.eval x=v at hxv
      cases hxv with
      | sub _ _ _ _ bl n' cap c ad hhd hle hc hr ha=>
       obtain ⟨rfl,cur,u,hR⟩:=(h.heap.ob r _ hob).jQ hhd
       refine aT.mk' (v:=.slice (if c=l.toNat then some ad else (some ad).map (·.add (l.toNat*(sz+1)))) (hh.toNat-l.toNat) (c-l.toNat)) (fun w1 hg=>?_) (aD h hnt hd hk3 ?_ hn)
       ·have:=ahY (P:=X.P) (w:=w1) n c hl hhi h0 h1 (by omega) hc
        simp[execOp,ho,Instr.sliceAt,Instr.slice,run_underlying hu,hvx,this,dQ (hTb _ _ hie)]
       ·by_cases hcl:c=l.toNat
        ·rw[if_pos hcl]
         exact .sub _ _ _ _ bl n' cap _ _ hhd (by omega) (by omega) (by omega) (fun h9=>by omega)
        ·rw[if_neg hcl]
         obtain rfl:=ha (by omega)
         simp only[aoF,Addr.add_lit]
         refine .sub _ _ _ _ bl n' cap _ _ hhd (by omega) (by omega) (by omega) (fun _=>?_)
         rw[←asM]
     ·exact hk.elim
    ·exact hk.elim
   ·exact hk.elim
  ·rename_i n e _ _ _ hi'
   split at hk
   ·rename_i _ _ _ hie
    split at hk
    ·rename_i i hx
     obtain ⟨l,hk2,hl⟩:=dZ h hk
     obtain ⟨hh,⟨⟨h0,h1,h2⟩,hk3⟩,hhi⟩:=dZ h hk2
     have hxv:=aH h x
     rw[hx] at hxv
     obtain ⟨b,hb,hxe⟩:=fF hxv
     have hu:X.P.underlying T=some (.array n e):=(hTb _ _ hi').desc
     refine aT.mk' (v:=.slice (some (if n=l.toNat then ⟨b,0,none⟩ else (⟨b,0,none⟩:Addr).add (l.toNat*1))) (hh.toNat-l.toNat) (n-l.toNat)) (fun w1 hg=>?_) (aD h hnt hd hk3 (.asl i n l.toNat (hh.toNat-l.toNat) b (n-l.toNat) _ hb (by omega) (by omega) (fun hc=>?_)) hn)
     ·have:=tu (P:=X.P) (w:=w1) false n n hl hhi h0 h1 h2 (aha _)
      simp[execOp,ho,Instr.sliceAt,Instr.sureAddr,run_underlying hu,hxe,this,dQ (hTb _ _ hie)]
     ·rw[if_neg (by omega)]
      simp only[Addr.add_lit,apT,aiF]
    ·exact hk.elim
   ·exact hk.elim
  ·exact hk.elim
 ·rename_i x ho
  split at hk
  ·rename_i b l off hx
   have hxv:=aH h x
   rw[hx] at hxv
   generalize hvx:a.eval x=v at hxv
   cases hxv with
   | p _ _ _ hp=>
    cases hp with
    | pt b' o' _ _ cs u hm hc he=>
     exact aT.mk' (fun w1 hg=>by simp[execOp,ho,hvx]) (aD h hnt hd hk (.p _ _ _ (.pt b' o' off l cs u hm hc he)) hn)
  ·rename_i i off hx
   have hxv:=aH h x
   rw[hx] at hxv
   generalize hvx:a.eval x=v at hxv
   cases hxv with
   | own _ _ b hh=>exact aT.mk' (fun w1 hg=>by simp[execOp,ho,hvx]) (aD h hnt hd hk (.own _ _ b hh) hn)
  ·exact hk.elim
 ·rename_i T x lo hi mx ho
  split at hk
  ·rename_i e _ _ _ hi'
   have hu:X.P.underlying T=some (.slice e):=(hTb _ _ hi').desc
   split at hk
   ·rename_i _ sz _ _ hie
    split at hk
    ·rename_i b n f hx
     have hxv:=aH h x
     rw[hx] at hxv
     obtain ⟨l,hk1,hl⟩:=dZ h hk
     obtain ⟨hh,hk2,hhi⟩:=dZ h hk1
     obtain ⟨mm,hk3,hmi⟩:=dZ h hk2
     obtain ⟨⟨h0,h1,h2,h3⟩,hlen,hk4⟩:=hk3
     obtain ⟨k1,hhi⟩:∃k,a.eval hi=.int k hh:=by
      rcases hhi with ⟨e,_⟩ | ⟨k,e⟩
      ·cases e
      ·exact ⟨k,Option.some.inj e⟩
     obtain ⟨k2,hmi⟩:∃k,a.eval mx=.int k mm:=by
      rcases hmi with ⟨e,_⟩ | ⟨k,e⟩
      ·cases e
      ·exact ⟨k,Option.some.inj e⟩
     subst h2
     generalize hvx:a.eval x=v at hxv
     have hrun:∀(ad:Option Addr) (cap:Nat) (w1:World),v=.slice ad n cap→n≤cap→(execOp a.eval o).run X.P w1=.ok (.value (.slice (if hh.toNat=l.toNat then ad else ad.map (·.add (l.toNat*(sz+1)))) (hh.toNat-l.toNat) (hh.toNat-l.toNat))) w1:=by
      intro ad cap w1 hv hcap
      have:=aib (P:=X.P) (w:=w1) n cap hl hhi hmi h0 h1 rfl h3 hcap
      simp[execOp,ho,Instr.sliceAt,Instr.slice,run_underlying hu,hvx,hv,this,dQ (hTb _ _ hie)]
     cases hxv with
     | p _ _ _ hp=>
      cases hp with
      | nil=>
       have e1:l.toNat=0:=by omega
       have e2:hh.toNat=0:=by omega
       exact aT.mk' (fun w1 hg=>hrun none 0 w1 rfl (aha _)) (aD h hnt hd hk4 (by simp only[e1,e2];exact .full _ _ _ (.nil _)) hn)
      | emp ad cap=>
       have e1:l.toNat=0:=by omega
       have e2:hh.toNat=0:=by omega
       refine aT.mk' (fun w1 hg=>hrun (some ad) cap w1 rfl (afc _)) (aD h hnt hd hk4 ?_ hn)
       simp only[e1,e2,atn,if_true]
       exact .full _ _ _ (.emp _ _ _)
      | seq b' q _ cap sz' _ cs u hm hcap hmax hl' hc he=>
       refine aT.mk' (fun w1 hg=>hrun (some ⟨b',q,none⟩) cap w1 rfl hcap) (aD h hnt hd hk4 ?_ hn)
       by_cases hn0:hh.toNat-l.toNat=0
       ·rw[hn0]
        split
        ·exact .full _ _ _ (.emp _ _ _)
        ·exact .full _ _ _ (.emp _ _ _)
       ·have hsz':sz'=sz+1:=by rw[←hl' 0 (by omega),hlen 0 (by omega)]
        rw[if_neg (by omega)]
        simp only[aoF,Addr.add_lit]
        refine .full _ _ _ (.seq b' (q+l.toNat*(sz+1)) _ _ (sz+1) _ cs (fun j k=>u (l.toNat+j) k) (E.eO _ _ _ hm) (aha _) (by omega) (fun j hj=>hlen _ (by omega)) (fun j k s hj hs=>?_) (fun j k s hj hs=>(he _ _ _ (by omega) hs).mono (E.eO _)))
        have:=hc (l.toNat+j) k s (by omega) hs
        rw[hsz',asM] at this
        rwa [show q+l.toNat*(sz+1)+(j*(sz+1)+k)=q+(l.toNat*(sz+1)+j*(sz+1)+k) by omega]
    ·rename_i r hx
     split at hk
     ·rename_i T' sz' n f hob
      have hxv:=aH h x
      rw[hx] at hxv
      obtain ⟨l,hk1,hl⟩:=dZ h hk
      obtain ⟨hh,hk2,hhi⟩:=dZ h hk1
      obtain ⟨mm,hk3,hmi⟩:=dZ h hk2
      obtain ⟨⟨h0,h1,h2,h3⟩,hk4⟩:=hk3
      obtain ⟨k1,hhi⟩:∃k,a.eval hi=.int k hh:=by
       rcases hhi with ⟨e,_⟩ | ⟨k,e⟩
       ·cases e
       ·exact ⟨k,Option.some.inj e⟩
      obtain ⟨k2,hmi⟩:∃k,a.eval mx=.int k mm:=by
       rcases hmi with ⟨e,_⟩ | ⟨k,e⟩
       ·cases e
       ·exact ⟨k,Option.some.inj e⟩
      generalize hvx:a.eval x=v at hxv
      have hO:=h.heap.ob _ _ hob
      cases hO with
      | row _ _ _ _ v0 xs u hhd hw hmax _ _ _=>
      cases hxv with
      | row _ _ hh2 hsl=>
       rw[hhd] at hh2
       obtain rfl:=Option.some.inj hh2
       obtain ⟨ad,cap,hv,hcap⟩:∃ad cap,v0=.slice ad n cap∧n≤cap:=by
        rcases hw.2 with ⟨rfl,rfl⟩ | ⟨g,cap,cur,rfl,_,_,hc,_⟩
        ·exact ⟨none,0,rfl,aha _⟩
        ·exact ⟨_,cap,rfl,hc⟩
       refine aT.mk' (v:=.slice (if mm.toNat=l.toNat then ad else ad.map (·.add (l.toNat*(sz+1)))) (hh.toNat-l.toNat) (mm.toNat-l.toNat)) (fun w1 hg=>?_) (aD h hnt hd hk4 (.any _) hn)
       have:=aie (P:=X.P) (w:=w1) n cap hl hhi hmi h0 h1 h2 (by omega)
       simp[execOp,ho,Instr.sliceAt,Instr.slice,run_underlying hu,hvx,hv,this,dQ (hTb _ _ hie)]
     ·exact hk.elim
    ·exact hk.elim
   ·exact hk.elim
  ·exact hk.elim
 ·exact hk.elim
def dw.At (P:Program) (kT:Nat):dw→Prop
 | .int ik=>P.underlying kT=some (.int ik)
 | .str=>P.underlying kT=some .string
 | .bools n=>∃e i,P.underlying kT=some (.array n e)∧P.underlying e=some .bool∧TI.Ok P e i∧i.desc.isAgg=false∧i.size=1
theorem aeG {P:Program} {Tb:Tab} (hTb:Tb.Ok P) {kT:Nat} {kt:dw} (h:kindOf Tb kT=some kt):kt.At P kT:=by
 unfold kindOf at h
 split at h
 ·rename_i hi;cases h;exact (hTb _ _ hi).desc
 ·rename_i hi;cases h;exact (hTb _ _ hi).desc
 ·rename_i hi
  split at h
  ·rename_i hie;cases h
   exact ⟨_,_,(hTb _ _ hi).desc,(hTb _ _ hie).desc,hTb _ _ hie,rfl,rfl⟩
  ·cases h
 ·cases h
theorem tq (l:List Bool) (k:Nat):(dV l)[k]?=(l[k]?).map Value.bool:=by simp[dV]
theorem acK {a b:List Bool} (h:dV a=dV b):a=b:=by
 unfold dV at h
 have h:=congrArg Array.toList h
 simp only at h
 have inj:∀(a b:List Bool),a.map Value.bool=b.map Value.bool→a=b:=by
  intro a
  induction a with
  | nil=>intro b h;cases b with
   | nil=>rfl
   | cons _ _=>simp at h
  | cons x a ih=>intro b h;cases b with
   | nil=>simp at h
   | cons y b=>
    simp only[aoM,List.cons.injEq,Value.bool.injEq] at h
    rw[h.1,ih _ h.2]
 exact inj a b h
theorem dw.val_inj {kt:dw} {a b:MK} (ha:kt.ok a) (hb:kt.ok b) (h:kt.val a=kt.val b):a=b:=by
 cases kt<;>cases a<;>cases b<;>simp only[dw.ok,dw.val] at ha hb h<;>try exact ha.elim
 all_goals try exact hb.elim
 ·cases h;rfl
 ·cases h;rfl
 ·simp only[Value.agg.injEq] at h
  rw[acK h]
theorem abk {P:Program} {e:Nat} {i:TI} (h:i.Ok P e) (ha:i.desc.isAgg=false) (hu:P.underlying e=some .bool) (d:Nat) (vs ws:Array Value) (w:World):∀(m j:Nat) (xs ys:List Bool),xs.length=m→ys.length=m →
  (∀(k:Nat) (x:Bool),xs[k]?=some x→vs[j+k]?=some (.bool x))→(∀(k:Nat) (x:Bool),ys[k]?=some x→ws[j+k]?=some (.bool x)) →
  (Op.eqItems (d+1) e 1 vs ws (List.range' j m)).run P w=.ok (decide (xs=ys)) w
 | 0,j,[],[],_,_,_,_=>by simp[Op.eqItems]
 | m+1,j,x :: xs,y :: ys,hx,hy,h1,h2=>by
  have ih:=abk h ha hu d vs ws w m (j+1) xs ys (by simpa using hx) (by simpa using hy)
   (fun q z hz=>by have:=h1 (q+1) z (by simpa using hz);rwa [show j+1+q=j+(q+1) by omega])
   (fun q z hz=>by have:=h2 (q+1) z (by simpa using hz);rwa [show j+1+q=j+(q+1) by omega])
  have p1:=gF h ha vs (j*1) _ (by rw[apT];exact h1 0 _ rfl) w
  have p2:=gF h ha ws (j*1) _ (by rw[apT];exact h2 0 _ rfl) w
  simp only[auk,Op.eqItems,Sem.run_bind,p1,p2,Result.andThen_ok,run_equalIn_bool w d e x y hu]
  cases hab:(x==y)
  ·simp only[beq_eq_false_iff_ne] at hab
   simp[hab]
  ·have hab:=eq_of_beq hab
   subst hab
   simpa using ih
 | 0,_,_ :: _,_,hx,_,_,_=>by simp at hx
 | 0,_,[],_ :: _,_,hy,_,_=>by simp at hy
 | _+1,_,[],_,hx,_,_,_=>by simp at hx
 | _+1,_,_ :: _,[],_,hy,_,_=>by simp at hy
theorem ajG {P:Program} {kT e:Nat} {n:Nat} {i:TI} (hu:P.underlying kT=some (.array n e)) (he:P.underlying e=some .bool) (h:i.Ok P e) (ha:i.desc.isAgg=false) (hs:i.size=1) (w:World) {a b:List Bool} (hla:a.length=n) (hlb:b.length=n) :
  (Op.equal kT (.agg (dV a)) (.agg (dV b))).run P w=.ok (decide (a=b)) w:=by
 obtain ⟨I,hI,hIs,_⟩:=h.info
 have hc:P.cellsOf e=1:=by simp[Program.cellsOf,hI];omega
 unfold Op.equal
 rw[show Op.maxDepth=9999+1 from rfl,run_equalIn_array w 9999 _ _ hu hI,hc,auo]
 exact abk h ha he 9998 _ _ w n 0 a b hla hlb (fun k x hx=>by rw[aiF,tq,hx];rfl) (fun k x hx=>by rw[aiF,tq,hx];rfl)
theorem akE {P:Program} {kT e:Nat} {n:Nat} {i:TI} (hu:P.underlying kT=some (.array n e)) (he:P.underlying e=some .bool) (h:i.Ok P e) (ha:i.desc.isAgg=false) (hs:i.size=1) (w:World) (em:Bool) {a:List Bool} (hla:a.length=n) :
  (Instr.checkKey em 10000 kT (.agg (dV a))).run P w=.ok () w:=by
 have hone:∀x:Bool,(Instr.checkKey em 9999 e (.bool x)).run P w=.ok () w:=fun x=>by
  show (Instr.checkKey em (9998+1) e (.bool x)).run P w=.ok () w
  unfold Instr.checkKey
  simp[run_underlying he]
 obtain ⟨I,hI,hIs,_⟩:=h.info
 show (Instr.checkKey em (9999+1) kT (.agg (dV a))).run P w=.ok () w
 unfold Instr.checkKey
 rw[Sem.run_bind,run_underlying hu,Result.andThen_ok]
 show (do for i in [0:n] do Instr.checkKey em 9999 e (←part e (dV a) (i*(←sizeOf e))):Sem Unit).run P w=_
 simp only[Std.Legacy.Range.forIn_eq_forIn_range',Std.Legacy.Range.size,atw,Nat.add_one_sub_one,Nat.div_one]
 have go:∀(m j:Nat),j+m≤n→(forIn (m:=Sem) (List.range' j m) PUnit.unit fun (k:Nat) (_:PUnit)=>do
   Instr.checkKey em 9999 e (←part e (dV a) (k*(←sizeOf e)))
   pure (ForInStep.yield PUnit.unit)).run P w=.ok PUnit.unit w:=by
  intro m
  induction m with
  | zero=>intro j _;simp
  | succ m ih=>
   intro j hj
   have hp:=gF h ha (dV a) (j*1) (.bool (a[j]'(by omega))) (by rw[apT,tq,abn (by omega:j<a.length)];rfl) w
   have hsz:(sizeOf e).run P w=.ok 1 w:=by rw[←hs];exact dQ h w
   simp only[auk,List.forIn_cons,Sem.run_bind,hsz,hp,hone,Result.andThen_ok,Sem.run_pure]
   exact ih (j+1) (by omega)
 have:=go n 0 (by omega)
 first | exact this | (simp only[Sem.run_bind] at this ⊢;rw[this];rfl)
theorem aer {P:Program} {kT:Nat} {kt:dw} (h:kt.At P kT) {k:MK} (hk:kt.ok k) (em:Bool) (w:World):(Instr.checkKey em 10000 kT (kt.val k)).run P w=.ok () w:=by
 cases kt with
 | int ik=>cases k<;>simp only[dw.ok] at hk;rename_i z;exact MapKept.run_checkKey h (k:=.int ik z) (by simp[MapKept.IsKey]) em 9999
 | str=>cases k<;>simp only[dw.ok] at hk;rename_i z;exact MapKept.run_checkKey h (k:=.string z) (by simp[MapKept.IsKey]) em 9999
 | bools n=>
  obtain ⟨e,i,h1,h2,h3,h4,h5⟩:=h
  cases k<;>simp only[dw.ok] at hk
  exact akE h1 h2 h3 h4 h5 w em hk
theorem agL {P:Program} {kT:Nat} {kt:dw} (h:kt.At P kT) {k:MK} (hk:kt.ok k) (w:World) (es:List MapEntry) (hes:∀x∈es,∃k,kt.ok k∧x.key=kt.val k) :
  ((Instr.findKey kT (kt.val k) es).run P w=.ok none w∧∀x∈es,x.key≠kt.val k)∨∃j e,(Instr.findKey kT (kt.val k) es).run P w=.ok (some (j,e.val)) w∧es[j]?=some e∧e.key=kt.val k:=by
 have plain:∀(d:TypeDesc),P.underlying kT=some d→MapKept.IsKey d (kt.val k)→(∀x∈es,MapKept.IsKey d x.key)→((Instr.findKey kT (kt.val k) es).run P w=.ok none w∧∀x∈es,x.key≠kt.val k)∨∃j e,(Instr.findKey kT (kt.val k) es).run P w=.ok (some (j,e.val)) w∧es[j]?=some e∧e.key=kt.val k:=by
  intro d hd h1 h2
  rcases MapKept.findNow_spec h1 es 0 h2 with ⟨g1,g2⟩ | ⟨j,e,g1,g2,g3⟩
  ·exact .inl ⟨MapKept.run_findKey hd g1,g2⟩
  ·exact .inr ⟨j,e,by rw[MapKept.run_findKey hd g1,aiF],g2,g3⟩
 cases kt with
 | int ik=>
  refine plain _ h (by cases k<;>simp only[dw.ok] at hk;simp[MapKept.IsKey,dw.val]) fun x hx=>?_
  obtain ⟨q,h1,h2⟩:=hes x hx
  rw[h2];cases q<;>simp only[dw.ok] at h1;simp[MapKept.IsKey,dw.val]
 | str=>
  refine plain _ h (by cases k<;>simp only[dw.ok] at hk;simp[MapKept.IsKey,dw.val]) fun x hx=>?_
  obtain ⟨q,h1,h2⟩:=hes x hx
  rw[h2];cases q<;>simp only[dw.ok] at h1;simp[MapKept.IsKey,dw.val]
 | bools n=>
  obtain ⟨e,i,hu,h2,h3,h4,h5⟩:=h
  cases k<;>simp only[dw.ok] at hk
  rename_i a
  have ask:∀(l:List MapEntry) (q:Nat),(∀x∈l,∃k,(dw.bools n).ok k∧x.key=(dw.bools n).val k) →
    ((Instr.findAsking kT (.agg (dV a)) l q).run P w=.ok none w∧∀x∈l,x.key≠.agg (dV a))∨∃j e,(Instr.findAsking kT (.agg (dV a)) l q).run P w=.ok (some (q+j,e.val)) w∧l[j]?=some e∧e.key=.agg (dV a):=by
   intro l
   induction l with
   | nil=>intro q _;exact .inl ⟨by simp[Instr.findAsking],by simp⟩
   | cons x l ih=>
    intro q hl
    obtain ⟨b,hb,hxk⟩:=hl x (by simp)
    cases b<;>simp only[dw.ok] at hb
    rename_i b
    have heq:=ajG hu h2 h3 h4 h5 w hk hb
    have hxk:x.key=.agg (dV b):=hxk
    by_cases hab:a=b
    ·refine .inr ⟨0,x,?_,rfl,by rw[hxk,hab]⟩
     rw[Instr.findAsking,Sem.run_bind,hxk,heq]
     simp[hab]
    ·rcases ih (q+1) (fun y hy=>hl y (by simp[hy])) with ⟨g1,g2⟩ | ⟨j,e',g1,g2,g3⟩
     ·refine .inl ⟨?_,fun y hy=>?_⟩
      ·rw[Instr.findAsking,Sem.run_bind,hxk,heq]
       simp[hab,g1]
      ·rcases ai0.1 hy with rfl | hy
       ·rw[hxk];intro e;simp only[Value.agg.injEq] at e;exact hab (acK e).symm
       ·exact g2 y hy
     ·refine .inr ⟨j+1,e',?_,by simpa using g2,g3⟩
      rw[Instr.findAsking,Sem.run_bind,hxk,heq]
      simp[hab,g1];omega
  show ((Instr.findKey kT (.agg (dV a)) es).run P w=.ok none w∧∀x∈es,x.key≠.agg (dV a))∨∃j e,(Instr.findKey kT (.agg (dV a)) es).run P w=.ok (some (j,e.val)) w∧es[j]?=some e∧e.key=.agg (dV a)
  cases es with
  | nil=>exact .inl ⟨by simp[Instr.findKey,run_underlying hu,Instr.findNow],by simp⟩
  | cons x l=>
   have hfk:(Instr.findKey kT (.agg (dV a)) (x :: l)).run P w=(Instr.findAsking kT (.agg (dV a)) (x :: l) 0).run P w:=by
    simp[Instr.findKey,run_underlying hu,Instr.findNow,Instr.sameNow]
   rw[hfk]
   rcases ask (x :: l) 0 hes with g | ⟨j,e',g1,g2,g3⟩
   ·exact .inl g
   ·exact .inr ⟨j,e',by rw[g1,aiF],g2,g3⟩
theorem adV (n:Nat):∀l:List Bool,((dV l).toList.zip (dV l).toList).all (fun (x,y)=>Instr.sameBits n x y)=true:=by
 intro l
 unfold dV
 induction l with
 | nil=>rfl
 | cons x l ih=>
  simp only[aoM,List.zip_cons_cons,List.all_cons,agw]
  exact ⟨by cases n<;>simp[Instr.sameBits],ih⟩
theorem al1 {P:Program} {kt:dw} {k:MK} (hk:kt.ok k) (w:World):(Instr.keyThatStays (kt.val k) (kt.val k)).run P w=.ok (kt.val k) w:=by
 have:Instr.sameBits 10000 (kt.val k) (kt.val k)=true:=by
  cases kt<;>cases k<;>simp only[dw.ok] at hk
  ·rename_i ik z;exact MapKept.sameBits_self (d:=.int ik) (k:=.int ik z) (by simp[MapKept.IsKey]) _
  ·rename_i z;exact MapKept.sameBits_self (d:=.string) (k:=.string z) (by simp[MapKept.IsKey]) _
  ·show Instr.sameBits (9999+1) (.agg _) (.agg _)=true
   simp only[Instr.sameBits,beq_self_eq_true,aiI]
   exact adV 9999 _
 simp[Instr.keyThatStays,this]
theorem cZ.gq {E:Env} {w:World} {i:Nat} {o:Ob} (h:cZ E w i o) {b:Nat} (hb:E.blk i=some b):b<w.heap.size:=by
 cases h with
 | cells b' T vs cs hh hw _ _ _=>
  simp[Env.blk,hh,aG] at hb;subst hb;exact (abB.1 hw).1
 | row T sz n f v xs u hh hw _ _ _ _=>
  rcases hw.2 with ⟨rfl,_⟩ | ⟨g,cap,cur,rfl,_,hg,_⟩
  ·simp[Env.blk,hh,aG] at hb
  ·simp[Env.blk,hh,aG] at hb;subst hb;exact (abB.1 hg).1
 | arr b' T vs n f u hh hw _ _ _=>simp[Env.blk,hh,aG] at hb;subst hb;exact (abB.1 hw).1
 | map r es clock kt n get hh hw _ _ _ _=>simp[Env.blk,hh,aG] at hb;subst hb;exact (abB.1 hw).1
theorem cZ.ai8 {E:Env} {w:World} {i:Nat} {o:Ob} (h:cZ E w i o):∃v,E.hd i=some v:=by
 cases h with
 | cells b' T vs cs hh hw _ _ _=>exact ⟨_,hh⟩
 | row T sz n f v xs u hh hw _ _ _ _=>exact ⟨_,hh⟩
 | arr b T vs n f u hh=>exact ⟨_,hh⟩
 | map r es clock kt n get hh=>exact ⟨_,hh⟩
theorem cZ.fZ {E:Env} {w:World} {i:Nat} {T:TypeId} {n:Nat} {f:Nat→PV} (h:cZ E w i (.arr T n f)) :
  ∃b vs,E.hd i=some (.pointer (some ⟨b,0,none⟩))∧w.heap[b]?=some (.cells vs T (0,0))∧(vs.size=n∧n≤1000)∧∀k,k<n→∃u,vs[k]?=some u∧u.oneCell'=true∧aO E.mem u (f k):=by
 cases h with | arr b _ vs _ _ u hh hw hs hc he=>exact ⟨b,vs,hh,hw,hs,fun k hk=>⟨u k,(hc k hk).1,(hc k hk).2,he k hk⟩⟩
theorem cZ.q8 {E:Env} {w:World} {i b:Nat} {T:TypeId} {n:Nat} {f:Nat→PV} {vs:Array Value} (hh:E.hd i=some (.pointer (some ⟨b,0,none⟩))) (hw:w.heap[b]?=some (.cells vs T (0,0))) (hs:vs.size=n∧n≤1000)
  (h:∀k,k<n→∃u,vs[k]?=some u∧u.oneCell'=true∧aO E.mem u (f k)):cZ E w i (.arr T n f):=by
 refine .arr b T vs n f (fun k=>vs.getD k undef) hh hw hs (fun k hk=>?_) (fun k hk=>?_)
 ·obtain ⟨u,h1,h2,_⟩:=h k hk
  rw[aeC,h1];exact ⟨rfl,h2⟩
 ·obtain ⟨u,h1,_,h3⟩:=h k hk
  rw[aeC,h1];exact h3
theorem l8 {size:Nat} {d:TD} {n:Nat} (h:nY size d=some n):∃e,d=.array n e∧size=n∧n≤1000:=by
 cases d<;>simp only[nY] at h<;>try (cases h;done)
 split at h
 ·rename_i hb
  cases h
  exact ⟨_,rfl,agf (at6.1 hb).2,aiT (at6.1 (at6.1 hb).1).2⟩
 ·cases h
theorem w9 (b:Bool):∀(n:Nat) (l:List PV),takeN n (dX b l)=(takeN n l).map (dX b)
 | 0,l=>by simp[takeN,dX]
 | n+1,[]=>by simp[takeN,dX]
 | n+1,d :: l=>by
  simp only[dX,takeN,w9 b n l]
  cases takeN n l<;>rfl
theorem wZ (b:Bool):∀(n:Nat) (l:List PV),dJ n (dX b l)=dX b (dJ n l)
 | 0,l=>by simp[dJ]
 | n+1,[]=>by simp[dJ,dX]
 | n+1,d :: l=>by simp only[dX,dJ,wZ b n l]
theorem afj:∀(n:Nat) (l:List PV),l.length=n→takeN n l=some l
 | 0,l,h=>by rw[atJ h];rfl
 | n+1,[],h=>by simp at h
 | n+1,d :: l,h=>by simp only[takeN,afj n l (by simpa using h)]
theorem wS (n:Nat) (g:Nat→PV):takeN n (dJ 0 (dW n g))=some (dW n g):=by
 rw[show dJ 0 (dW n g)=dW n g from by cases dW n g<;>rfl]
 exact afj n _ (vU n g)
theorem ae8 (b:Bool):∀(l:List PV),∃c,rZ (dX b l)=some (c,l)∧(b=true→c=true)
 | []=>⟨true,rfl,fun _=>rfl⟩
 | d :: l=>by
  obtain ⟨c,h1,h2⟩:=ae8 b l
  exact ⟨b&&c,by simp only[dX,rZ,h1],fun hb=>by simp[hb,h2 hb]⟩
theorem abd {E:Env} {b:Bool} {n:Nat} {g:Nat→PV} {v:Value} (h:aM E v (lF (dX b (dW n g)))):aO (E.m b) v (.arr n g):=by
 obtain ⟨c,h1,h2⟩:=ae8 b (dW n g)
 simp only[lF,h1] at h
 cases h with
 | p _ _ _ hp=>
  have hp:aO (E.m b) v (.agg (dW n g)):=hp.mono fun B cs hB=>by
   cases b with
   | true=>rw[h2 rfl] at hB;exact hB
   | false=>exact E.eO c _ _ hB
  obtain ⟨vs,rfl,hl,h1,he⟩:=hp.jW
  rw[vU] at hl
  refine aO.q8 hl fun k hk=>?_
  have e1:vs[k]?=some (vs[k]'(by omega)):=aex _
  exact ⟨_,e1,h1 k _ e1,he k _ _ e1 (by rw[kV,if_pos hk])⟩
theorem bq.lt {C:Ctx} {E:Env} {st:St} {w:World} (h:bq C E st w) {i:Nat} {o:Ob} (ho:st.obj i=some o):i<st.no:=by
 rcases asE i st.no with hi | hi
 ·exact hi
 ·obtain ⟨v,hv⟩:=(h.ob i o ho).ai8
  rw[h.new i hi] at hv;cases hv
theorem bq.lY {C:Ctx} {E:Env} {st:St} {w:World} (h:bq C E st w) {b:Nat} {cs:Array Value} (hb:E.mem b=some cs):b<w.heap.size:=by
 obtain ⟨T,fr,hw⟩:=h.mem b cs hb
 exact (abB.1 hw).1
theorem kX (fr:List (Nat×SV)) (ob:List (Nat×Option Ob)) (no no':Nat) {c c':Option Nat} (k:Nat) (o:Option Ob) (i:Nat) :
  St.obj ⟨fr,(k,o) :: ob,no',c'⟩ i=if k=i then o else St.obj ⟨fr,ob,no,c⟩ i:=by
 unfold St.obj
 simp only[bC]
 by_cases h:k=i<;>simp[h]
def Env.add (E:Env) (i:Nat) (v:Value):Env:={ E with hd:=fun k=>if k=i then some v else E.hd k }
theorem Env.uz {E:Env} {i:Nat} {v:Value} (h:E.hd i=none):E.Le (E.add i v):=
 ⟨fun k u hk=>by
  simp only[Env.add]
  by_cases e:k=i
  ·subst e;rw[h] at hk;cases hk
  ·rw[if_neg e];exact hk,fun _ _ h=>h,rfl⟩
theorem Env.lH (E:Env) (i:Nat) (v:Value):(E.add i v).hd i=some v:=by simp[Env.add]
theorem Env.agp (E:Env) {i k:Nat} (v:Value) (h:k≠i):(E.add i v).hd k=E.hd k:=by simp[Env.add,h]
theorem bq.step {C:Ctx} {E:Env} {st:St} {w w':World} (h:bq C E st w) {st':St} {i:Nat} {v:Value} {o:Ob}
  (hi:st.no≤i) (hno:i<st'.no) (hkk:st'.k=st.k) (hi':st'.obj i=some o)
  (hold:∀k o',k≠i→st'.obj k=some o'→st.obj k=some o')
  (hrep:cZ (E.add i v) w' i o)
  (hos:w'.os=w.os) (htape:w'.tape=w.tape) (hout:w'.output=w.output) (hsz:w.heap.size≤w'.heap.size)
  (hkeep:∀k,k<w.heap.size→w'.heap[k]?=w.heap[k]?∨(∃j o',C.m≤j∧st.obj j=some o'∧st'.obj j=none∧E.blk j=some k))
  (hblk:∀b,aG v=some b→w.heap.size≤b∨(∃j o',C.m≤j∧st.obj j=some o'∧st'.obj j=none∧E.blk j=some b)) :
  bq C (E.add i v) st' w':=by
 have hno0:=h.new i hi
 have hle:=Env.uz (v:=v) hno0
 have blk_ne:∀k,k≠i→(E.add i v).blk k=E.blk k:=fun k hk=>by simp[Env.blk,E.agp v hk]
 have blk_i:(E.add i v).blk i=aG v:=by simp[Env.blk,E.lH]
 -- an object that has stayed is untouched
 have stays:∀k o',k≠i→st'.obj k=some o'→∀b,E.blk k=some b→w'.heap[b]?=w.heap[b]?:=by
  intro k o' hk ho b hb
  have hs:=hold k o' hk ho
  rcases hkeep b ((h.ob k o' hs).gq hb) with h1 | ⟨j,o2,hro,h1,h2,h3⟩
  ·exact h1
  ·have:=h.sep k j o' o2 b hs h1 hb h3
   subst this;rw[ho] at h2;cases h2
 refine ⟨fun k o' ho=>?_,fun k j o1 o2 b h1 h2 b1 b2=>?_,fun k o' b ho hb=>?_,fun b cs hb=>?_,h.mem0,h.memnew,fun k hk=>?_,h.base,?_,fun k hk=>?_,?_,h.mkh,h.kk.trans hkk.symm⟩
 ·by_cases hk:k=i
  ·subst hk;rw[hi'] at ho;cases ho;exact hrep
  ·exact ((h.ob k o' (hold k o' hk ho)).mono hle).world fun b hb=>stays k o' hk ho b (by rwa [blk_ne k hk] at hb)
 ·-- apart
  have one:∀k o1,k≠i→st'.obj k=some o1→∀b,E.blk k=some b→aG v=some b→False:=by
   intro k o1 hk ho b hb hv
   have hs:=hold k o1 hk ho
   rcases hblk b hv with h1 | ⟨j,o2,hro,h1,h2,h3⟩
   ·have:=(h.ob k o1 hs).gq hb;omega
   ·have:=h.sep k j o1 o2 b hs h1 hb h3
    subst this;rw[ho] at h2;cases h2
  by_cases hk:k=i
  ·by_cases hj:j=i
   ·rw[hk,hj]
   ·subst hk
    rw[blk_i] at b1;rw[blk_ne j hj] at b2
    exact (one j o2 hj h2 b b2 b1).elim
  ·by_cases hj:j=i
   ·subst hj
    rw[blk_i] at b2;rw[blk_ne k hk] at b1
    exact (one k o1 hk h1 b b1 b2).elim
   ·rw[blk_ne k hk] at b1;rw[blk_ne j hj] at b2
    exact h.sep k j o1 o2 b (hold k o1 hk h1) (hold j o2 hj h2) b1 b2
 ·by_cases hk:k=i
  ·subst hk
   rw[blk_i] at hb
   rcases hblk b hb with h1 | ⟨j,o2,hro,h1,h2,h3⟩
   ·refine ⟨?_,.inl (aln h.fr.bsz (aln h.fr.wsz h1)),.inl (.inl (aln h.fr.wsz h1))⟩
    cases hm:(E.add k v).mem b with
    | none=>rfl
    | some cs=>have:=h.lY (b:=b) (cs:=cs) hm;omega
   ·obtain ⟨g1,g2,g3⟩:=h.own j o2 b h1 h3
    exact ⟨g1,.inl (g2.resolve_right (fun x=>by omega)),.inl (g3.resolve_right (fun x=>by omega))⟩
  ·rw[blk_ne k hk] at hb
   exact h.own k o' b (hold k o' hk ho) hb
 ·obtain ⟨T,fr,hw⟩:=h.mem b cs hb
  refine ⟨T,fr,?_⟩
  rcases hkeep b (abB.1 hw).1 with h1 | ⟨j,o2,hro,h1,h2,h3⟩
  ·rw[h1];exact hw
  ·have:=(h.own j o2 b h1 h3).1
   have hb':E.mem b=some cs:=hb
   rw[this] at hb';cases hb'
 ·rw[E.agp v (by omega)];exact h.new k (by omega)
 ·refine ⟨hos.trans h.fr.os,htape.trans h.fr.tape,hout.trans h.fr.output,h.fr.bsz,aln h.fr.wsz hsz,h.fr.wos,h.fr.isz,fun k hk hbor=>?_,h.fr.sync⟩
  rcases hkeep k (aov hk h.fr.wsz) with h1 | ⟨j,o2,hro,h1,h2,h3⟩
  ·rw[h1];exact h.fr.block k hk hbor
  ·rcases (h.own j o2 k h1 h3).2.2 with (h4 | h4) | h4
   ·have hk':k<E.ws.heap.size:=hk;omega
   ·exact absurd h4 hbor
   ·omega
 ·have:k≠i:=by have:=h.mno;omega
  rw[E.agp v this];exact h.hd0 k hk
 ·have:=h.mno;omega
theorem bq.acD {C:Ctx} {E:Env} {st:St} {w:World} (h:bq C E st w) (obj:Obj) {v:Value} {o:Ob} (hv:∀b,aG v=some b→b=w.heap.size)
  (hrep:cZ (E.add st.no v) (w.alloc obj) st.no o):bq C (E.add st.no v) (st.alloc o) (w.alloc obj):=by
 refine h.step (aha _) (by simp[St.alloc]) rfl ?_ (fun k o' hk ho=>?_) hrep rfl rfl rfl (by simp) (fun k hk=>.inl (RowKit.Below.heap_alloc w obj k hk)) (fun b hb=>.inl (by rw[hv b hb];exact aha _))
 ·have:(st.alloc o).obj st.no=if st.no=st.no then some o else st.obj st.no:=kX st.fr st.ob st.no _ _ _ _
  rw[this,if_pos rfl]
 ·have:(st.alloc o).obj k=if st.no=k then some o else st.obj k:=kX st.fr st.ob st.no _ _ _ _
  rw[this,if_neg (fun e=>hk e.symm)] at ho;exact ho
theorem bq.write {C:Ctx} {E:Env} {st:St} {w w':World} (h:bq C E st w) {i b:Nat} {o o':Ob} (ho:st.obj i=some o) (hb:E.blk i=some b) (hro:C.ro≤i)
  (hrep:cZ E w' i o') (hos:w'.os=w.os) (htape:w'.tape=w.tape) (hout:w'.output=w.output) (hsz:w'.heap.size=w.heap.size) (hkeep:∀k,k≠b→w'.heap[k]?=w.heap[k]?) :
  bq C E (st.bX i (some o')) w':=by
 have get:∀k,(st.bX i (some o')).obj k=if i=k then some o' else st.obj k:=fun k=>kX st.fr st.ob st.no _ _ _ _
 have old:∀k o1,(st.bX i (some o')).obj k=some o1→∃o2,st.obj k=some o2:=by
  intro k o1 hk
  rw[get] at hk
  by_cases e:i=k
  ·subst e;exact ⟨o,ho⟩
  ·rw[if_neg e] at hk;exact ⟨o1,hk⟩
 refine ⟨fun k o1 hk=>?_,fun k j o1 o2 c h1 h2 b1 b2=>?_,fun k o1 c hk hc=>?_,fun c cs hc=>?_,h.mem0,h.memnew,h.new,h.base,?_,h.hd0,h.mno,h.mkh,h.kk⟩
 ·rw[get] at hk
  by_cases e:i=k
  ·subst e;rw[if_pos rfl] at hk;cases hk;exact hrep
  ·rw[if_neg e] at hk
   exact (h.ob k o1 hk).world fun c hc=>hkeep c (fun e2=>by subst e2;exact e (h.sep i k o o1 c ho hk hb hc))
 ·obtain ⟨o3,h3⟩:=old k o1 h1
  obtain ⟨o4,h4⟩:=old j o2 h2
  exact h.sep k j o3 o4 c h3 h4 b1 b2
 ·obtain ⟨o3,h3⟩:=old k o1 hk
  exact h.own k o3 c h3 hc
 ·obtain ⟨T,fr,hw⟩:=h.mem c cs hc
  refine ⟨T,fr,?_⟩
  rw[hkeep c (fun e=>by subst e;rw[(h.own i o c ho hb).1] at hc;cases hc)];exact hw
 ·refine ⟨hos.trans h.fr.os,htape.trans h.fr.tape,hout.trans h.fr.output,h.fr.bsz,by rw[hsz];exact h.fr.wsz,h.fr.wos,h.fr.isz,fun k hk hbor=>?_,h.fr.sync⟩
  rw[hkeep k (fun e=>by subst e;rcases (h.own i o k ho hb).2.2 with (h4 | h4) | h4<;>first | omega | exact hbor h4)]
  exact h.fr.block k hk hbor
theorem aA.fQ {C:Ctx} {E E':Env} {st st':St} {a:Act} {w w':World} (h:aA C E st a w) (hle:E.Le E') (hf:st'.fr=st.fr) (hh:bq C E' st' w') (hs:E'.ws=E.ws∧E'.I=E.I) (hnc:iC w w'):aA C E' st' a w':=
 ⟨h.size,fun t=>by
  have:st'.get t=st.get t:=by unfold St.get;rw[hf]
  rw[this];exact (h.slot t).mono hle,hh,h.marks.keep hs hnc⟩
theorem bq.ap2 {C:Ctx} {E:Env} {st:St} {w:World} (h:bq C E st w) (f:List (Nat×SV)):bq C E ⟨f,st.ob,st.no,st.k⟩ w:=
 ⟨h.ob,h.sep,h.own,h.mem,h.mem0,h.memnew,h.new,h.base,h.fr,h.hd0,h.mno,h.mkh,h.kk⟩
theorem iF (w:World) (o:Obj):iC w (w.alloc o):=fun D o' h _=>(RowKit.Below.heap_alloc w o D (abB.1 h).1).trans h
theorem akw {w w':World} {b:Nat} {es:Array MapEntry} {clock:Nat} (hb:w.heap[b]?=some (.map es clock)) (h:∀k,k≠b→w'.heap[k]?=w.heap[k]?):iC w w':=fun D o ho hc=>by
 by_cases e:D=b
 ·subst e;rw[hb] at ho;cases ho;cases hc
 ·rw[h D e];exact ho
theorem lX {w w':World} {b:Nat} {cs:Array Value} {T:TypeId} {fr:Nat×Nat} (hb:w.heap[b]?=some (.cells cs T fr)) (h:∀k,k≠b→w'.heap[k]?=w.heap[k]?):iC w w':=fun D o ho hc=>by
 rw[h D (fun e=>by subst e;rw[hb] at ho;cases ho;cases hc)];exact ho
theorem cZ.iR {E:Env} {w:World} {i:Nat} {T:TypeId} {cs:List SV} (h:cZ E w i (.cells T cs)) :
  ∃b vs,E.hd i=some (.pointer (some ⟨b,0,none⟩))∧w.heap[b]?=some (.cells vs T (0,0))∧jG E vs cs:=by
 cases h with | cells b _ vs _ hh hw hl h1 he=>exact ⟨b,vs,hh,hw,hl,h1,he⟩
theorem adu {E:Env} {v:Value} {i sz j off:Nat} (h:aM E v (.el i sz j off)):∃b n cap,E.hd i=some (.slice (some ⟨b,0,none⟩) n cap)∧v=.pointer (some ⟨b,j*sz+off,none⟩):=by
 cases h with | el _ _ _ _ b n cap hb=>exact ⟨b,n,cap,hb,rfl⟩
theorem akz.cells {E:Env} {w:World} {T:TypeId} {sz n:Nat} {f:Nat→List PV} {b cap:Nat} {cur:Array Value} {u:Nat→Nat→Value} (h:akz E w T sz n f b cap cur u) {j:Nat} (hj:j<n) :
  mo E (fun k=>w.cell? ⟨b,j*sz+k,none⟩) (dX false (f j)):=by
 intro k s hs
 rw[iK] at hs
 cases hl:(f j)[k]? with
 | none=>simp[hl] at hs
 | some d'=>
  simp[hl] at hs;subst hs
  obtain ⟨h1,h2⟩:=h.hc j k d' hj hl
  exact ⟨u j k,by simp[World.cell?,h.heap];exact h1,h2,.p _ _ _ (h.he j k d' hj hl)⟩
theorem uH {f:Nat→List PV} {j off:Nat} {ds:List PV} {sz j':Nat} (hl:(f j').length=sz) (ho:off+ds.length≤sz):(pq f j off ds j').length=sz:=by
 unfold pq
 split
 ·rename_i h;subst h;simp only[aaf,ajz,arP];omega
 ·exact hl
theorem alI {f:Nat→List PV} {j off:Nat} {ds:List PV} {sz j' k:Nat} (hl:(f j').length=sz) (ho:off+ds.length≤sz) :
  (pq f j off ds j')[k]?=if j'=j∧off≤k∧k<off+ds.length then ds[k-off]? else (f j')[k]?:=by
 unfold pq
 by_cases h:j'=j
 ·subst h
  have h1:((f j').take off).length=off:=by rw[ajz];omega
  rw[if_pos rfl]
  by_cases hk:off≤k∧k<off+ds.length
  ·rw[if_pos ⟨rfl,hk⟩,afk (by rw[aaf,h1];omega),agH (by omega),h1]
  ·rw[if_neg (fun x=>hk x.2)]
   by_cases h2:k<off
   ·rw[afk (by rw[aaf,h1];omega),afk (by omega),alD,if_pos h2]
   ·rw[agH (by rw[aaf,h1];omega),aaf,h1,aqX,show off+ds.length+(k-(off+ds.length))=k by omega]
 ·rw[if_neg h,if_neg (fun x=>h x.1)]
theorem anH {j j' k off len sz:Nat} (hk:k<sz) (ho:off+len≤sz) (h:¬(j'=j∧off≤k∧k<off+len)):¬(j*sz+off≤j'*sz+k∧j'*sz+k<j*sz+off+len):=by
 intro ⟨h1,h2⟩
 by_cases e:j'=j
 ·subst e;exact h ⟨rfl,by omega,by omega⟩
 ·rcases asE j' j with hlt | hge
  ·have:=alS sz (show j'+1≤j from hlt)
   rw[asI] at this;omega
  ·have:=alS sz (show j+1≤j' by omega)
   rw[asI] at this;omega
theorem oG:∀(l:List Value) (k:Nat),(vals l)[k]?=(l[k]?).map PV.val
 | [],k=>by simp[vals]
 | v :: l,0=>by simp[vals]
 | v :: l,k+1=>by simp[vals,oG l k]
theorem q9:∀(l:List Value),(vals l).length=l.length
 | []=>rfl
 | v :: l=>by simp[vals,q9 l]
theorem uL {P:Program} {t:Nat} {i:TI} (hi:i.Ok P t) {E:Env} {w:World} {b base:Nat} {cs:List SV} (hc:mo E (fun k=>w.cell? ⟨b,base+k,none⟩) cs) {off:Nat} {s:SV}
  (hr:bV i.desc.isAgg i.size off cs=some s):∃v,(∀w1:World,(∀k,w1.cell? ⟨b,k,none⟩=w.cell? ⟨b,k,none⟩)→(loadVar t ⟨b,base+off,none⟩).run P w1=.ok v w1)∧aM E v s:=by
 cases hag:i.desc.isAgg with
 | true=>
  rw[hag] at hr
  obtain ⟨h1,h2⟩:=ai3 hc hr
  have hcell:∀j,j<i.size→w.cell? ((⟨b,base+off,none⟩:Addr).add j)=some ((w.cell? ⟨b,base+(off+j),none⟩).getD undef):=by
   intro j hj
   rw[Addr.add_lit]
   have hk:off+j<cs.length:=by omega
   obtain ⟨u,hu,_⟩:=hc (off+j) cs[off+j] (abn hk)
   simp only at hu
   rw[show base+off+j=base+(off+j) by omega,hu];rfl
  have hl:=fun (w1:World) (hw1:∀k,w1.cell? ⟨b,k,none⟩=w.cell? ⟨b,k,none⟩)=>run_loadCells (P:=P) w1 ⟨b,base+off,none⟩ i.size (fun j=>(w.cell? ⟨b,base+(off+j),none⟩).getD undef) (fun j hj=>by
   have:=hcell j hj
   rw[Addr.add_lit] at this ⊢
   rw[hw1];exact this)
  refine ⟨.agg ((List.range i.size).map fun j=>(w.cell? ⟨b,base+(off+j),none⟩).getD undef).toArray,fun w1 hw1=>by unfold loadVar;simp[vD hi,hag,dQ hi,hl w1 hw1],h2 _ (by simp) fun k hk=>?_⟩
  have hk2:off+k<cs.length:=by omega
  obtain ⟨u,hu,_⟩:=hc (off+k) cs[off+k] (abn hk2)
  simp only at hu
  simp[hk,hu]
 | false=>
  rw[hag] at hr
  simp only[bV,d9] at hr
  obtain ⟨u,hu,_,hs⟩:=hc _ _ hr
  exact ⟨u,fun w1 hw1=>by unfold loadVar;simp[vD hi,hag,hw1,hu],hs⟩
theorem om:∀(n:Nat) (z:List SV),(vM n z).length=n*z.length
 | 0,z=>by simp[vM]
 | n+1,z=>by simp[vM,om n z,asI];omega
theorem abG:∀(n:Nat) (z:List SV) (k:Nat),k<n*z.length→(vM n z)[k]?=z[k % z.length]?
 | 0,z,k,h=>by simp at h
 | n+1,z,k,h=>by
  simp only[vM]
  by_cases hk:k<z.length
  ·rw[afk hk,atK hk]
  ·rw[agH (by omega),abG n z (k-z.length) (by rw[asI] at h;omega)]
   rw[show k % z.length=(k-z.length) % z.length by rw[←Nat.mod_eq_sub_mod (by omega)]]
theorem adi {α:Type}:∀(n:Nat) (l:List α),n≤l.length→takeN n l=some (l.take n)
 | 0,l,_=>by simp[takeN]
 | n+1,[],h=>by simp at h
 | n+1,x :: l,h=>by simp[takeN,adi n l (by simpa using h)]
theorem jI {sz:Nat} {l:List PV} {n:Nat} (hl:l.length=n*sz) {j:Nat} (hj:j<n):(bn sz l j).length=sz∧∀k,k<sz→(bn sz l j)[k]?=l[j*sz+k]?:=by
 have hle:j*sz+sz≤l.length:=by rw[hl,←asI];exact alS _ hj
 unfold bn
 have h1:takeN sz (dJ (j*sz) l)=some ((l.drop (j*sz)).take sz):=by
  rw[qA];exact adi _ _ (by simp;omega)
 rw[h1]
 refine ⟨by simp;omega,fun k hk=>?_⟩
 simp only
 rw[alD,if_pos hk,aqX]
theorem uM {place:Nat→Option (Nat×Nat)} {st:St}:∀{parts:List (Nat×Operand)} {cs cs':List SV},qg place st cs parts=some cs'→cs'.length=cs.length
 | [],cs,cs',h=>by simp[qg] at h;rw[h]
 | (i,x) :: rest,cs,cs',h=>by
  simp only[qg] at h
  split at h
  ·split at h
   ·split at h
    ·rename_i r hr
     rw[uM h,(nS _ _ _ _ hr).1]
    ·cases h
   ·cases h
  ·cases h
theorem qZ {P:Program} {T:Nat} {i:TI} (hi:i.Ok P T) {E:Env}:∃z,(∀w,(zeroValue T).run P w=.ok z w)∧jG E z.cells (zeros i.zero):=by
 obtain ⟨I,z,hI,hz,_,_,hA⟩:=hi.lT E
 exact ⟨z,fun w=>by simp[zeroValue,typeInfo,hI,hz],hA⟩
theorem jF (w:World) (o:Obj):Grow w (w.alloc o):=⟨by simp,fun b hb=>RowKit.Below.heap_alloc w o b hb⟩
theorem dM {C:Ctx} {E:Env} {st:St} {a:Act} {w:World} (h:aA C E st a w) {X:bB} (hnt:C.nt=X.nt) {d:Option Nat} (hd:bQ X.nt d=true) {s:SV} {v:Value} {K:St→Prop}
  (hk:aS st d s K) (hs:aM E v s) {next:Act→World→Prop} (hn:∀st' E' a' w',K st'→aA C E' st' a' w'→w'=w→next a' w'):next (a.put d v) w:=by
 rw[wF] at hk
 exact hn _ E _ _ hk (h.adG (by rw[hnt];exact hd) hs) rfl
theorem abr {C:Ctx} {E:Env} {st:St} {a:Act} {w:World} (h:aA C E st a w) {X:bB} (hnt:C.nt=X.nt) {o:Oper} (hd:bQ X.nt o.dst=true)
  {vs:Array Value} {T:TypeId} {cs:List SV} (hA:jG E vs cs) {K:St→Prop}
  (hk:pW st (.cells T cs) fun st i=>aS st o.dst (.own i 0) K) {next:Act→World→Prop}
  (hn:∀st' E' a' w',K st'→aA C E' st' a' w'→w'=w.alloc (.cells vs T)→next a' w'):next (a.put o.dst (.pointer (some ⟨w.heap.size,0,none⟩))) (w.alloc (.cells vs T)):=by
 have hle:=Env.uz (v:=.pointer (some ⟨w.heap.size,0,none⟩)) (h.heap.new st.no (aha _))
 have hh:=h.heap.acD (.cells vs T) (v:=.pointer (some ⟨w.heap.size,0,none⟩)) (o:=.cells T cs) (fun b hb=>by simpa [aG] using hb.symm)
  (.cells w.heap.size T vs cs (E.lH _ _) (World.alloc_heap_new w _) hA.size hA.one fun k u s h1 h2=>(hA.rep k u s h1 h2).mono hle)
 rw[ni] at hk
 exact dM (h.fQ (st':=st.alloc (.cells T cs)) hle rfl hh ⟨rfl,rfl⟩ (iF w _)) hnt hd hk (.own _ 0 w.heap.size (E.lH _ _)) hn
theorem qN {C:Ctx} {E:Env} {st:St} {a:Act} {w:World} {R:World→Prop} (h:aA C E st a w) {X:bB} (hTb:X.Tb.Ok X.P) (hnt:C.nt=X.nt) {o:Oper} (hR:∀w1,R w1→fH o.op=true→Grow w w1) (hd:bQ X.nt o.dst=true)
  {K:St→Prop} (hk:uP X o st K) {next:Act→World→Prop}
  (hn:∀st' E' a' w',K st'→aA C E' st' a' w'→next a' w'):aT R X.P o a w next:=by
 unfold uP at hk
 split at hk
 ·-- load
  rename_i T x ho
  split at hk
  case h_2=>exact hk.elim
  ·rename_i d size _ _ hi
   have go:∀(b base off:Nat) (cs:List SV) (s:SV),b<w.heap.size→a.eval x=.pointer (some ⟨b,base+off,none⟩)→mo E (fun k=>w.cell? ⟨b,base+k,none⟩) cs→bV d.isAgg size off cs=some s→aS st o.dst s K→aT R X.P o a w next:=by
    intro b base off cs s hlt hx hc hr hk
    obtain ⟨v,hv,hs⟩:=uL (hTb _ _ hi) hc hr
    exact aT.mk' (v:=v) (fun w1 hg=>by simp[execOp,ho,Instr.loadAt,hx,Instr.sureAddr,hv w1 (fun k=>(hR w1 hg (by simp[fH,ho])).cell hlt k)]) (aD h hnt hd hk hs hn)
   have goP:∀(b:Bool) (l:List PV) (off n:Nat) (g:Nat→PV) (b' base:Nat),nY size d=some n→b'<w.heap.size→a.eval x=.pointer (some ⟨b',base+off,none⟩)→mo E (fun k=>w.cell? ⟨b',base+k,none⟩) (dX b l) →
     takeN n (dJ off l)=some (dW n g)→aS st o.dst (.p b (.arr n g)) K→aT R X.P o a w next:=by
    intro b l off n g b' base hbig hlt hx hc ht hk0
    obtain ⟨e,rfl,rfl,hbm⟩:=l8 hbig
    obtain ⟨v,hv,hs⟩:=uL (hTb _ _ hi) hc (s:=lF (dX b (dW size g))) (by show bV true _ _ _=_;unfold bV;rw[wZ,w9,ht];rfl)
    exact aT.mk' (v:=v) (fun w1 hg=>by simp[execOp,ho,Instr.loadAt,hx,Instr.sureAddr,hv w1 (fun k=>(hR w1 hg (by simp[fH,ho])).cell hlt k)]) (aD h hnt hd hk0 (.p b _ _ (abd hs)) hn)
   have arrCells:∀{i b:Nat} {T':TypeId} {n:Nat} {f:Nat→PV},st.obj i=some (.arr T' n f)→E.hd i=some (.pointer (some ⟨b,0,none⟩))→b<w.heap.size∧mo E (fun k=>w.cell? ⟨b,0+k,none⟩) (dX false (dW n f)):=by
    intro i b T' n f hob hb
    obtain ⟨b',vs,hh,hw,hs,hc⟩:=(h.heap.ob i _ hob).fZ
    rw[hb] at hh;cases hh
    refine ⟨(abB.1 hw).1,fun k s hs'=>?_⟩
    rw[iK,kV] at hs'
    by_cases hk:k<n
    ·rw[if_pos hk] at hs'
     simp at hs';subst hs'
     obtain ⟨u,h1,h2,h3⟩:=hc k hk
     exact ⟨u,by simp[World.cell?,hw];exact h1,h2,.p _ _ _ h3⟩
    ·rw[if_neg hk] at hs';simp at hs'
   have ptCells:∀{b:Bool} {l:List PV} {off:Nat},st.ev x=.p b (.pt l off)→∃b' o',b'<w.heap.size∧a.eval x=.pointer (some ⟨b',o'+off,none⟩)∧mo E (fun k=>w.cell? ⟨b',o'+k,none⟩) (dX b l):=by
    intro b l off hx
    have hxv:=aH h x
    rw[hx] at hxv
    generalize hvx:a.eval x=v at hxv
    cases hxv with
    | p _ _ _ hp=>
     cases hp with
     | pt b' o' _ _ cs u hm hc he=>
      have hm':=E.eO b _ _ hm
      obtain ⟨T',fr,hw⟩:=h.heap.mem _ _ hm'
      refine ⟨b',o',(abB.1 hw).1,rfl,fun k s hs=>?_⟩
      rw[iK] at hs
      cases hl:l[k]? with
      | none=>simp[hl] at hs
      | some d'=>
       simp[hl] at hs;subst hs
       obtain ⟨h1,h2⟩:=hc k d' hl
       exact ⟨u k,by simp[World.cell?,hw];exact h1,h2,.p _ _ _ (he k d' hl)⟩
   split at hk
   ·rename_i n hbig
    unfold aiw at hk
    split at hk
    ·rename_i i off hx
     have hxv:=aH h x
     rw[hx] at hxv
     obtain ⟨b,hb,hxe⟩:=fF hxv
     split at hk
     ·rename_i T' n' f hob
      split at hk
      ·cases hnn:n'.beq n with
       | false=>simp[hnn] at hk
       | true=>
        obtain rfl:=agf hnn
        simp only[hnn] at hk
        obtain ⟨c1,c2⟩:=arrCells hob hb
        exact goP false (dW n' f) 0 n' f b 0 hbig c1 (by rw[hxe]) c2 (wS n' f) hk
      ·exact hk.elim
     ·rename_i T' cs hob
      split at hk
      ·rename_i s hr
       obtain ⟨b',vs,hb',hw,hA⟩:=(h.heap.ob i _ hob).iR
       rw[hb] at hb';cases hb'
       obtain ⟨e,rfl,rfl,hbm⟩:=l8 hbig
       refine go b 0 off cs s (abB.1 hw).1 (by rw[hxe];simp) (fun k s hs=>?_) hr hk
       obtain ⟨u,hu,h1,h2⟩:=hA.at k s hs
       exact ⟨u,by simp[World.cell?,hw];exact hu,h1,h2⟩
      ·exact hk.elim
     ·exact hk.elim
    ·rename_i i sz j off hx
     split at hk
     ·rename_i T' sz' n' f hob
      cases hb:sz.beq sz' with
      | false=>simp[hb] at hk
      | true=>
       simp only[hb] at hk
       obtain rfl:=agf hb
       obtain ⟨hj,g,hg,hk⟩:=hk
       have hxv:=aH h x
       rw[hx] at hxv
       obtain ⟨b,n2,cap,hb,hxe⟩:=adu hxv
       obtain ⟨rfl,cur,u,hR⟩:=(h.heap.ob i _ hob).jQ hb
       exact goP false (f j) off n g b (j*sz) hbig (abB.1 hR.heap).1 hxe (hR.cells hj) hg hk
     ·exact hk.elim
    ·rename_i b l off hx
     obtain ⟨g,hg,hk⟩:=hk
     obtain ⟨b',o',c1,c2,c3⟩:=ptCells hx
     exact goP b l off n g b' o' hbig c1 c2 c3 hg hk
    ·exact hk.elim
   split at hk
   ·rename_i i off hx
    split at hk
    ·rename_i T' cs hob
     split at hk
     ·rename_i s hr
      have hxv:=aH h x
      rw[hx] at hxv
      obtain ⟨b,hb,hxe⟩:=fF hxv
      obtain ⟨b',vs,hb',hw,hA⟩:=(h.heap.ob i _ hob).iR
      rw[hb] at hb';cases hb'
      refine go b 0 off cs s (abB.1 hw).1 (by rw[hxe];simp) (fun k s hs=>?_) hr hk
      obtain ⟨u,hu,h1,h2⟩:=hA.at k s hs
      exact ⟨u,by simp[World.cell?,hw];exact hu,h1,h2⟩
     ·exact hk.elim
    ·rename_i T' n f hob
     split at hk
     ·rename_i hag _
      obtain ⟨hoff,hk⟩:=hk
      have hxv:=aH h x
      rw[hx] at hxv
      obtain ⟨b,hb,hxe⟩:=fF hxv
      obtain ⟨c1,c2⟩:=arrCells hob hb
      refine go b 0 off (dX false (dW n f)) (.p false (f off)) c1 (by rw[hxe];simp) c2 ?_ hk
      rw[hag]
      simp only[bV,d9]
      rw[iK,kV,if_pos hoff];rfl
     ·exact hk.elim
    ·exact hk.elim
   ·rename_i i sz j off hx
    split at hk
    ·rename_i T' sz' n f hob
     cases hb:sz.beq sz' with
     | false=>simp[hb] at hk
     | true=>
      simp only[hb] at hk
      obtain rfl:=agf hb
      obtain ⟨hj,hk⟩:=hk
      split at hk
      ·rename_i s hr
       have hxv:=aH h x
       rw[hx] at hxv
       obtain ⟨b,n',cap,hb,hxe⟩:=adu hxv
       obtain ⟨rfl,cur,u,hR⟩:=(h.heap.ob i _ hob).jQ hb
       exact go b (j*sz) off _ s (abB.1 hR.heap).1 hxe (hR.cells hj) hr hk
      ·exact hk.elim
    ·exact hk.elim
   ·rename_i b l off hx
    split at hk
    ·rename_i s hr
     have hxv:=aH h x
     rw[hx] at hxv
     generalize hvx:a.eval x=v at hxv
     cases hxv with
     | p _ _ _ hp=>
      cases hp with
      | pt b' o' _ _ cs u hm hc he=>
       have hm':=E.eO b _ _ hm
       obtain ⟨T',fr,hw⟩:=h.heap.mem _ _ hm'
       refine go b' o' off (dX b l) s (abB.1 hw).1 hvx (fun k s hs=>?_) hr hk
       rw[iK] at hs
       cases hl:l[k]? with
       | none=>simp[hl] at hs
       | some d'=>
        simp[hl] at hs;subst hs
        obtain ⟨h1,h2⟩:=hc k d' hl
        exact ⟨u k,by simp[World.cell?,hw];exact h1,h2,.p _ _ _ (he k d' hl)⟩
    ·exact hk.elim
   ·exact hk.elim
 ·-- fieldAddr
  rename_i T x f ho
  split at hk
  ·rename_i fs _ _ _ hi
   split at hk
   ·rename_i off sz hsp
    obtain ⟨Fs,hu,hfs,_⟩:=(hTb _ _ hi).desc
    subst hfs
    obtain ⟨fd,hf1,hf2,hf3⟩:=vg hTb hsp
    simp only at hf2 hf3
    have hsz:∀w,(sizeOf fd.type).run X.P w=.ok (sz+1) w:=fun w=>by
     cases hI:X.P.info? fd.type with
     | none=>simp[hI] at hf3
     | some I=>simp[hI] at hf3;simp[sizeOf,typeInfo,hI,hf3]
    have hrun:∀(b p:Nat),a.eval x=.pointer (some ⟨b,p,none⟩)→∀w1,R w1→(execOp a.eval o).run X.P w1=.ok (.value (.pointer (some ⟨b,p+off,none⟩))) w1:=by
     intro b p hx w1 hg
     simp[execOp,ho,Instr.fieldAt,run_underlying hu,hf1,hx,Instr.sureAddr,fieldPlace,hsz,Addr.add_lit,hf2]
    split at hk
    ·rename_i i o' hx
     have hxv:=aH h x
     rw[hx] at hxv
     obtain ⟨b,hb,hxe⟩:=fF hxv
     exact aT.mk' (hrun b o' hxe) (aD h hnt hd hk (.own _ _ b hb) hn)
    ·rename_i i sz' j o' hx
     have hxv:=aH h x
     rw[hx] at hxv
     obtain ⟨b,n',cap,hb,hxe⟩:=adu hxv
     refine aT.mk' (hrun b _ hxe) (aD h hnt hd hk ?_ hn)
     rw[atI]
     exact .el _ _ _ _ b n' cap hb
    ·rename_i b l o' hx
     have hxv:=aH h x
     rw[hx] at hxv
     generalize hvx:a.eval x=v at hxv
     cases hxv with
     | p _ _ _ hp=>
      cases hp with
      | pt b' q _ _ cs u hm hc he=>
       refine aT.mk' (hrun b' _ hvx) (aD h hnt hd hk (.p _ _ _ ?_) hn)
       rw[atI]
       exact .pt b' q (o'+off) l cs u hm hc he
    ·exact hk.elim
   ·exact hk.elim
  ·exact hk.elim
 ·-- indexAddr
  rename_i T x i ho
  split at hk
  ·rename_i e _ _ _ hi
   split at hk
   ·rename_i _ sz _ _ hie
    split at hk
    ·rename_i b n f _ k j hx hj
     obtain ⟨⟨h0,h1⟩,hlen,hk⟩:=hk
     have hu:X.P.underlying T=some (.slice e):=(hTb _ _ hi).desc
     have hjv:=aH h i
     rw[hj] at hjv
     have hje:=hjv.aN
     have hxv:=aH h x
     rw[hx] at hxv
     generalize hvx:a.eval x=v at hxv
     have hjn:j.toNat<n:=by omega
     cases hxv with
     | p _ _ _ hp=>
      cases hp with
      | nil=>omega
      | emp=>omega
      | seq b' q _ cap sz' _ cs u hm hcap hmax hl hc he=>
       have hsz':sz'=sz+1:=by rw[←hl _ hjn,hlen]
       refine aT.mk' (v:=.pointer (some ⟨b',q+j.toNat*(sz+1)+0,none⟩)) ?_ (aD h hnt hd hk (.p _ _ _ (.pt b' (q+j.toNat*(sz+1)) 0 _ cs (u j.toNat) hm (fun k s hs=>?_) (fun k s hs=>he _ _ _ hjn hs))) hn)
       ·intro w1 hg
        simp[execOp,ho,Instr.indexAt,hje,asIntOf,run_underlying hu,hvx,h0,h1,dQ (hTb _ _ hie),Addr.add_lit]
       ·have:=hc _ _ _ hjn hs
        rw[hsz'] at this
        rwa [show q+j.toNat*(sz+1)+k=q+(j.toNat*(sz+1)+k) by omega]
    ·rename_i r _ k j hx hj
     split at hk
     ·rename_i T' sz' n f hob
      cases hb:sz'.beq (sz+1) with
      | false=>simp[hb] at hk
      | true=>
       simp only[hb] at hk
       obtain rfl:=agf hb
       obtain ⟨⟨h0,h1⟩,hk⟩:=hk
       have hu:X.P.underlying T=some (.slice e):=(hTb _ _ hi).desc
       have hjv:=aH h i
       rw[hj] at hjv
       have hje:=hjv.aN
       have hxv:=aH h x
       rw[hx] at hxv
       obtain ⟨b,cap,hb⟩:=(h.heap.ob r _ hob).abX (by omega)
       have hvx:a.eval x=.slice (some ⟨b,0,none⟩) n cap:=by
        generalize a.eval x=v at hxv
        cases hxv with | row _ _ hh _=>rw[hb] at hh;exact (Option.some.inj hh).symm
       refine aT.mk' (v:=.pointer (some ⟨b,j.toNat*(sz+1)+0,none⟩)) ?_ (aD h hnt hd hk (.el r (sz+1) j.toNat 0 b n cap hb) hn)
       intro w1 hg
       simp[execOp,ho,Instr.indexAt,hje,asIntOf,run_underlying hu,hvx,h0,h1,dQ (hTb _ _ hie),Addr.add_lit]
     ·exact hk.elim
    ·exact hk.elim
   ·exact hk.elim
  ·rename_i n e _ _ _ hi
   split at hk
   ·rename_i _ sz _ _ hie
    split at hk
    ·rename_i q off _ k j hx hj
     obtain ⟨⟨h0,h1⟩,hk⟩:=hk
     have hu:X.P.underlying T=some (.array n e):=(hTb _ _ hi).desc
     have hjv:=aH h i
     rw[hj] at hjv
     have hje:=hjv.aN
     have hxv:=aH h x
     rw[hx] at hxv
     obtain ⟨b,hb,hxe⟩:=fF hxv
     refine aT.mk' (v:=.pointer (some ⟨b,off+j.toNat*sz,none⟩)) ?_ (aD h hnt hd hk (.own _ _ b hb) hn)
     intro w1 hg
     simp[execOp,ho,Instr.indexAt,hje,asIntOf,run_underlying hu,hxe,Instr.sureAddr,h0,h1,dQ (hTb _ _ hie),Addr.add_lit]
    ·rename_i b l off _ k j hx hj
     split at hk
     ·obtain ⟨⟨h0,h1⟩,d,hd2,hk⟩:=hk
      have hu:X.P.underlying T=some (.array n e):=(hTb _ _ hi).desc
      have hjv:=aH h i
      rw[hj] at hjv
      have hje:=hjv.aN
      have hxv:=aH h x
      rw[hx] at hxv
      generalize hvx:a.eval x=v at hxv
      cases hxv with
      | p _ _ _ hp=>
       cases hp with
       | pt b' q _ _ cs u hm hc he=>
        refine aT.mk' (v:=.pointer (some ⟨b',q+off+j.toNat*1+0,none⟩)) (fun w1 hg=>?_) (aD h hnt hd hk (.p _ _ _ (.pt b' (q+off+j.toNat*1) 0 [d] cs (fun _=>u (off+j.toNat)) hm (fun k s hs=>?_) (fun k s hs=>?_))) hn)
        ·simp[execOp,ho,Instr.indexAt,hje,asIntOf,run_underlying hu,hvx,Instr.sureAddr,h0,h1,dQ (hTb _ _ hie),Addr.add_lit]
        ·have hk0:k=0:=by have:=(abA.1 hs).1;simpa using this
         subst hk0
         have:=hc _ _ hd2
         rwa [show q+off+j.toNat*1+0=q+(off+j.toNat) by omega]
        ·have hk0:k=0:=by have:=(abA.1 hs).1;simpa using this
         subst hk0
         simp at hs;subst hs
         exact he _ _ hd2
     ·exact hk.elim
    ·exact hk.elim
   ·exact hk.elim
  ·exact hk.elim
 ·exact hk.elim
theorem zn {C:Ctx} {E:Env} {st:St} {a:Act} {w:World} (h:aA C E st a w) {X:bB} (hnt:C.nt=X.nt) {o:Oper} (hd:bQ X.nt o.dst=true)
  {vs:Array Value} {T:TypeId} {n:Nat} {f:Nat→PV} (hs:vs.size=n∧n≤1000) (hA:∀k,k<n→∃u,vs[k]?=some u∧u.oneCell'=true∧aO E.mem u (f k)) {K:St→Prop}
  (hk:pW st (.arr T n f) fun st i=>aS st o.dst (.own i 0) K) {next:Act→World→Prop}
  (hn:∀st' E' a' w',K st'→aA C E' st' a' w'→w'=w.alloc (.cells vs T)→next a' w'):next (a.put o.dst (.pointer (some ⟨w.heap.size,0,none⟩))) (w.alloc (.cells vs T)):=by
 have hle:=Env.uz (v:=.pointer (some ⟨w.heap.size,0,none⟩)) (h.heap.new st.no (aha _))
 have hh:=h.heap.acD (.cells vs T) (v:=.pointer (some ⟨w.heap.size,0,none⟩)) (o:=.arr T n f) (fun b hb=>by simpa [aG] using hb.symm)
  (cZ.q8 (E.lH _ _) (World.alloc_heap_new w _) hs fun k hk=>by obtain ⟨u,h1,h2,h3⟩:=hA k hk;exact ⟨u,h1,h2,h3.mono hle.mem⟩)
 rw[ni] at hk
 exact dM (h.fQ (st':=st.alloc (.arr T n f)) hle rfl hh ⟨rfl,rfl⟩ (iF w _)) hnt hd hk (.own _ 0 w.heap.size (E.lH _ _)) hn
theorem ade {P:Program} {a:Act} {o:Oper} {T:TypeId} {x y:Operand} (ho:o.op=.store T x y) {w:World} {b off size:Nat} {T':TypeId} {vs:Array Value} (hx:a.eval x=.pointer (some ⟨b,off,none⟩))
  (hw:w.heap[b]?=some (.cells vs T' (0,0))) (hsize:(sizeOf T).run P w=.ok size w) (hcz:(a.eval y).cells.size=size) (hone:∀(k:Nat) (u:Value),(a.eval y).cells[k]?=some u→u.oneCell'=true) (hle:off+size≤vs.size) :
  ∃vs':Array Value,(execOp a.eval o).run P w=.ok .skip (w.setRow b vs')∧vs'.size=vs.size∧∀k,vs'[k]?=if off≤k∧k<off+size then (a.eval y).cells[k-off]? else vs[k]?:=by
 have hst:=run_storeCells_at P b off T' (a.eval y).cells.toList 0 vs w hw (by simp;omega) (fun v hv=>by
  obtain ⟨k,hk,rfl⟩:=arp hv
  exact hone k _ (by rw[←aeX];exact abn hk))
 simp only[atm] at hst
 have hlen:(a.eval y).cells.toList.length=size:=by simpa using hcz
 generalize hcs':(vs.toList.take off++(a.eval y).cells.toList++vs.toList.drop (off+(a.eval y).cells.toList.length)).toArray=vs' at hst
 refine ⟨vs',by simp[execOp,ho,Instr.storeAt,Instr.sureAddr,hx,storeVar,hsize,hcz,hst],?_,fun k=>?_⟩
 ·rw[←hcs'];simp only[atG,aaf,ajz,arP,al7];omega
 ·rw[←hcs']
  have hl1:(vs.toList.take off).length=off:=by rw[ajz,al7];omega
  simp only[aty]
  by_cases hin:off≤k∧k<off+size
  ·rw[if_pos hin,afk (by rw[aaf,hl1];omega),agH (by omega),hl1,aeX]
  ·rw[if_neg hin]
   by_cases hlt:k<off
   ·rw[afk (by rw[aaf,hl1];omega),afk (by omega),alD,if_pos hlt,aeX]
   ·rw[agH (by rw[aaf,hl1];omega),aaf,hl1,hlen,aqX,show off+size+(k-(off+size))=k by omega,aeX]
theorem ab2 {C:Ctx} {E:Env} {st:St} {a:Act} {w:World} (h:aA C E st a w) {X:bB} (hnt:C.nt=X.nt) {d:Option Nat} (hd:bQ X.nt d=true) {i b:Nat} {T':TypeId} {n:Nat} {f g:Nat→PV} (hob:st.obj i=some (.arr T' n f)) (hri:C.ro≤i)
  (hb:E.hd i=some (.pointer (some ⟨b,0,none⟩))) {vs vs':Array Value} (hw:w.heap[b]?=some (.cells vs T' (0,0))) (hs:vs'.size=n∧n≤1000) (hA:∀k,k<n→∃u,vs'[k]?=some u∧u.oneCell'=true∧aO E.mem u (g k))
  {s:SV} {v:Value} (hv:aM E v s) {K:St→Prop} (hk:aS (st.bX i (some (.arr T' n g))) d s K) {next:Act→World→Prop} (hn:∀st' E' a' w',K st'→aA C E' st' a' w'→next a' w'):next (a.put d v) (w.setRow b vs'):=by
 have hh:=h.heap.write (o':=.arr T' n g) hob (b:=b) (by simp[Env.blk,hb,aG]) hri (w':=w.setRow b vs')
  (cZ.q8 hb (setRow_heap w b vs vs' T' (0,0) hw) hs hA) rfl rfl rfl (by simp) (fun k hk=>setRow_other w b k vs' hk)
 exact aD (h.fQ (st':=st.bX i (some (.arr T' n g))) (Env.Le.refl E) rfl hh ⟨rfl,rfl⟩ (lX hw fun k hk=>setRow_other w b k vs' hk)) hnt hd hk hv hn
theorem anw {E:Env} {zv:Array Value} {z:List Value} (hA:jG E zv (zeros z)):∀k,k<zv.size→∃u,zv[k]?=some u∧u.oneCell'=true∧aO E.mem u (jZ (vals z) k):=by
 intro k hk
 have e1:zv[k]?=some zv[k]:=aex hk
 have hz:k<z.length:=by rw[←zeros_length,←hA.size];exact hk
 have e2:(zeros z)[k]?=some (.p true (.val z[k])):=by rw[vH,abn hz];rfl
 have:=(hA.rep k _ _ e1 e2).aN
 refine ⟨_,e1,hA.one k _ e1,?_⟩
 rw[aam,abo,oG,abn hz,this]
 exact .val _
theorem af2 {C:Ctx} {E:Env} {st:St} {a:Act} {w:World} (h:aA C E st a w) {kt:dw} {k:Operand} {K:MK→Prop} (hk:aj4 kt (st.ev k) K):∃mk,kt.ok mk∧a.eval k=kt.val mk∧K mk:=by
 have hv:=aH h k
 unfold aj4 at hk
 split at hk
 ·rename_i ik _ k' z hx
  rw[hx] at hv
  split at hk
  ·rename_i hs
   obtain rfl:=nR hs
   exact ⟨.int z,trivial,hv.aN,hk⟩
  ·exact hk.elim
 ·rename_i s hx
  rw[hx] at hv
  exact ⟨.str s,trivial,hv.aN,hk⟩
 ·rename_i n b n' f hx
  rw[hx] at hv
  split at hk
  ·rename_i hb
   obtain rfl:=agf hb
   obtain ⟨l,⟨hl,hf⟩,hk⟩:=hk
   refine ⟨.bools l,hl,?_,hk⟩
   generalize a.eval k=v at hv
   cases hv with
   | p _ _ _ hp=>
    obtain ⟨vs,rfl,hs,hc⟩:=hp.fZ
    show Value.agg vs=.agg (dV l)
    congr 1
    apply atY
    intro q
    rw[tq]
    rcases asE q n with hq | hq
    ·obtain ⟨u,h1,_,h3⟩:=hc q hq
     rw[hf q hq] at h3
     rw[h1,h3.aN,abn (by omega),abo,abn (by omega)];rfl
    ·rw[aoB (by omega),asF (by omega)];rfl
  ·exact hk.elim
 ·exact hk.elim
theorem agt {E:Env} {v:Value} {i:Nat} (h:aM E v (.mp i)):∃r,E.hd i=some (.map (some r))∧v=.map (some r):=by
 cases h with | mp _ r h=>exact ⟨r,h,rfl⟩
theorem cZ.tQ {E:Env} {w:World} {i:Nat} {kt:dw} {n:Nat} {get:MK→Option PV} (h:cZ E w i (.map kt n get)) :
  ∃r es clock,E.hd i=some (.map (some r))∧w.heap[r]?=some (.map es clock)∧es.size=n∧(∀x∈es.toList,∃k,kt.ok k∧x.key=kt.val k)∧(es.toList.map (·.key)).Nodup∧aa5 E.mem es kt get:=by
 cases h with | map r es clock _ _ _ h1 h2 h3 h4 h5 h6=>exact ⟨r,es,clock,h1,h2,h3,h4,h5,h6⟩
theorem nodup_keys {es:List MapEntry} (h:(es.map (·.key)).Nodup) {x y:MapEntry} (hx:x∈es) (hy:y∈es) (he:x.key=y.key):x=y:=by
 induction es with
 | nil=>cases hx
 | cons z es ih=>
  obtain ⟨h1,h2⟩:=atZ.1 (show (z.key :: es.map (·.key)).Nodup from h)
  rcases ai0.1 hx with hx | hx
  ·rcases ai0.1 hy with hy | hy
   ·rw[hx,hy]
   ·exact absurd (asJ.2 ⟨y,hy,by rw[←he,hx]⟩) h1
  ·rcases ai0.1 hy with hy | hy
   ·exact absurd (asJ.2 ⟨x,hx,by rw[he,hy]⟩) h1
   ·exact ih h2 hx hy
theorem aae {C:Ctx} {E:Env} {st:St} {a:Act} {w:World} (h:aA C E st a w) {X:bB} (hTb:X.Tb.Ok X.P) (hnt:C.nt=X.nt) (hro:C.ro=X.ro) {o:Oper} (hd:bQ X.nt o.dst=true) {T:TypeId} {m k v:Operand}
  (hrun:∀w,(execOp a.eval o).run X.P w=(do Instr.mapUpdate T (a.eval m) (a.eval k) (a.eval v);pure Next.skip:Sem Next).run X.P w) (hnd:∀c,o.op≠.defer c)
  {F:Fence} (hF:gY F) {K:St→Prop} (hk:acQ X T (st.ev m) (st.ev k) (st.ev v) o.dst st K) {next:Act→World→Prop} {Q:Exit→Act→World→Prop}
  (hn:∀st' E' a' w',K st'→aA C E' st' a' w'→next a' w'):o.wpIn F 9 X.P a w next Q:=by
 unfold acQ at hk
 split at hk
 case h_2=>exact hk.elim
 rename_i kT eT _ _ _ hi
 split at hk
 case h_2=>exact hk.elim
 rename_i i hm
 split at hk
 case h_2=>exact hk.elim
 rename_i kt0 n get kt hob hkt
 split at hk
 case h_2=>exact hk.elim
 rename_i b x s1 hble hvx hcv
 obtain ⟨rfl,hk⟩:=hk
 obtain ⟨mk,hok,hke,n',⟨hn1,hn2⟩,hk⟩:=af2 h hk
 have hat:=aeG hTb hkt
 have hri:C.ro≤i:=by rw[hro];exact aiT hble
 have hu:X.P.underlying T=some (.map kT eT):=(hTb _ _ hi).desc
 obtain ⟨r,es,clock,hh,hw,hsz,hkeys,hndp,hget⟩:=(h.heap.ob i _ hob).tQ
 have hmv:=aH h m
 rw[hm] at hmv
 obtain ⟨r',hh',hme⟩:=agt hmv
 rw[hh] at hh';cases hh'
 -- the value
 have hvv:=aH h v
 obtain ⟨g1,g2,g3⟩:=kW hvv hcv
 rw[hvx] at hvv
 have hve:=hvv.aN
 have hone:x.oneCell'=true:=by
  rw[hvx] at hcv
  cases x<;>first | rfl | (simp[cellsOf] at hcv)
 have fin:∀(es':Array MapEntry) (clock':Nat),(Instr.mapUpdate T (.map (some r)) (kt0.val mk) x).run X.P w=.ok () { w with heap:=w.heap.setIfInBounds r (.map es' clock') }→es'.size=n'→(∀y∈es'.toList,∃k,kt0.ok k∧y.key=kt0.val k)→(es'.toList.map (·.key)).Nodup→aa5 E.mem es' kt0 (l5 get mk (.val x))→o.wpIn F 9 X.P a w next Q:=by
  intro es' clock' hr h1 h2 h3 h4
  obtain ⟨q1,q2⟩:=MapKept.heap_set (o':=.map es' clock') hw
  have hh2:=h.heap.write (o':=.map kt0 n' (l5 get mk (.val x))) hob (b:=r) (by simp[Env.blk,hh,aG]) hri (w':={ w with heap:=w.heap.setIfInBounds r (.map es' clock') })
   (.map r es' clock' kt0 n' _ hh q1 h1 h2 h3 h4) rfl rfl rfl (by simp) (fun k hk=>q2 k hk)
  refine rP hF hnd (w':={ w with heap:=w.heap.setIfInBounds r (.map es' clock') }) ?_ (aD (h.fQ (st':=st.bX i (some (.map kt0 n' (l5 get mk (.val x))))) (Env.Le.refl E) rfl hh2 ⟨rfl,rfl⟩ (akw hw fun k hk=>q2 k hk)) hnt hd hk (.any _) hn)
  rw[hrun,hme,hke,hve,Sem.run_bind,hr];rfl
 have hgo:=MapKept.run_getObj_map (P:=X.P) hw
 have hchk:=aer hat hok false w
 rcases agL hat hok w es.toList hkeys with ⟨f1,f2⟩ | ⟨j,e,f1,f2,f3⟩
 ·refine fin (es.push { key:=kt0.val mk,val:=x,born:=clock }) (clock+1) ?_ ?_ ?_ ?_ ?_
  ·simp[Instr.mapUpdate,run_underlying hu,hgo,hchk,f1,MapKept.run_setObj_map _ hw,Result.andThen]
  ·have:get mk=none:=by
    cases hg:get mk with
    | none=>rfl
    | some d=>obtain ⟨y,y1,y2,_⟩:=(hget mk hok).1 d hg;exact absurd y2 (f2 y y1)
   rw[hn1 this];simp[hsz]
  ·intro y hy
   simp only[auv,ahN,aiy] at hy
   rcases hy with hy | rfl
   ·exact hkeys y hy
   ·exact ⟨mk,hok,rfl⟩
  ·simp only[auv,asG,aoM,atU]
   refine atH.2 ⟨hndp,by simp,fun a ha b hb=>?_⟩
   simp only[aiy] at hb
   subst hb
   obtain ⟨y,hy,rfl⟩:=asJ.1 ha
   exact f2 y hy
  ·intro k' hk'
   unfold l5
   simp only[auv,ahN,aiy]
   by_cases e:k'=mk
   ·subst e
    rw[if_pos rfl]
    refine ⟨fun d hd=>?_,fun hx=>by cases hx⟩
    cases hd
    exact ⟨_,.inr rfl,rfl,hone,.val x⟩
   ·rw[if_neg e]
    obtain ⟨p1,p2⟩:=hget k' hk'
    refine ⟨fun d hd=>?_,fun hx y hy=>?_⟩
    ·obtain ⟨y,y1,y2⟩:=p1 d hd;exact ⟨y,.inl y1,y2⟩
    ·rcases hy with hy | rfl
     ·exact p2 hx y hy
     ·intro e2;exact e (dw.val_inj hk' hok e2.symm)
 ·have hj:es[j]?=some e:=by simpa using f2
  have hjl:j<es.size:=(abB.1 hj).1
  have hem:e∈es.toList:=adh f2
  have hkey:∀e',es[j]?=some e'→({ e' with key:=kt0.val mk,val:=x }:MapEntry).key=e'.key:=fun e' he'=>by rw[hj] at he';cases he';exact f3.symm
  have hmem:∀y,y∈(es.modify j fun e=>{ e with key:=kt0.val mk,val:=x }).toList↔(y∈es.toList∧y.key≠kt0.val mk)∨y={ e with key:=kt0.val mk,val:=x }:=by
   intro y
   constructor
   ·intro hy
    obtain ⟨q,hq⟩:=asD hy
    rw[aeX,asH] at hq
    by_cases e1:j=q
    ·subst e1
     rw[if_pos rfl,hj] at hq
     simp at hq;exact .inr hq.symm
    ·rw[if_neg e1] at hq
     have hym:y∈es.toList:=adh (by rw[aeX];exact hq)
     refine .inl ⟨hym,fun hyk=>e1 ?_⟩
     have:=nodup_keys hndp hem hym (by rw[f3,hyk])
     subst this
     have h1:(es.toList.map (·.key))[j]?=some e.key:=by rw[ajs,f2];rfl
     have h2:(es.toList.map (·.key))[q]?=some e.key:=by rw[ajs,aeX,hq];rfl
     have hjq:=(List.getElem?_inj (by simpa using hjl) hndp).1 (h1.trans h2.symm)
     exact hjq
   ·rintro (⟨hy,hne⟩ | rfl)
    ·obtain ⟨q,hq⟩:=asD hy
     refine adh (i:=q) ?_
     rw[aeX] at hq
     rw[aeX,asH]
     rw[if_neg (fun e1=>by subst e1;rw[hj] at hq;cases hq;exact hne f3)]
     exact hq
    ·refine adh (i:=j) ?_
     rw[aeX,asH,if_pos rfl,hj];rfl
  refine fin (es.modify j fun e=>{ e with key:=kt0.val mk,val:=x }) clock ?_ ?_ ?_ ?_ ?_
  ·have hks:=al1 (P:=X.P) hok w
   simp[Instr.mapUpdate,run_underlying hu,hgo,hchk,f1,hj,f3,hks,MapKept.run_setObj_map _ hw,Result.andThen]
  ·have:∃d,get mk=some d:=by
    cases hg:get mk with
    | none=>exact absurd f3 ((hget mk hok).2 hg e hem)
    | some d=>exact ⟨d,rfl⟩
   obtain ⟨d,hd⟩:=this
   rw[hn2 d hd,Array.size_modify];exact hsz
  ·intro y hy
   rcases (hmem y).1 hy with ⟨h1,_⟩ | rfl
   ·exact hkeys y h1
   ·exact ⟨mk,hok,rfl⟩
  ·rw[MapKept.modify_keys j _ hkey];exact hndp
  ·intro k' hk'
   unfold l5
   by_cases e1:k'=mk
   ·subst e1
    rw[if_pos rfl]
    refine ⟨fun d hd=>?_,fun hx=>by cases hx⟩
    cases hd
    exact ⟨_,(hmem _).2 (.inr rfl),rfl,hone,.val x⟩
   ·rw[if_neg e1]
    obtain ⟨p1,p2⟩:=hget k' hk'
    refine ⟨fun d hd=>?_,fun hx y hy=>?_⟩
    ·obtain ⟨y,y1,y2,y3⟩:=p1 d hd
     exact ⟨y,(hmem y).2 (.inl ⟨y1,fun e2=>e1 (dw.val_inj hk' hok (y2.symm.trans e2))⟩),y2,y3⟩
    ·rcases (hmem y).1 hy with ⟨h1,_⟩ | rfl
     ·exact p2 hx y h1
     ·intro e2;exact e1 (dw.val_inj hk' hok e2.symm)
theorem agm {C:Ctx} {E:Env} {st:St} {a:Act} {w:World} (h:aA C E st a w) {X:bB} (hTb:X.Tb.Ok X.P) (hnt:C.nt=X.nt) {o:Oper} (hd:bQ X.nt o.dst=true) {T:TypeId} {m k:Operand} {ok:Bool} (ho:o.op=.lookup T m k ok)
  {F:Fence} (hF:gY F) {K:St→Prop} (hk:ahj X T (st.ev m) (st.ev k) ok o.dst st K) {next:Act→World→Prop} {Q:Exit→Act→World→Prop}
  (hn:∀st' E' a' w',K st'→aA C E' st' a' w'→w'=w→next a' w'):o.wpIn F 9 X.P a w next Q:=by
 unfold ahj at hk
 split at hk
 case h_2=>exact hk.elim
 rename_i kT eT _ _ _ hi
 split at hk
 case h_2=>exact hk.elim
 rename_i i dT _ _ z hm hie
 split at hk
 case h_2=>exact hk.elim
 rename_i kt0 n get kt hob hkt
 obtain ⟨⟨rfl,hna⟩,hk⟩:=hk
 obtain ⟨mk,hok,hke,d,b,⟨hg1,hg2⟩,hk⟩:=af2 h hk
 have hat:=aeG hTb hkt
 have hu:X.P.underlying T=some (.map kT eT):=(hTb _ _ hi).desc
 obtain ⟨r,es,clock,hh,hw,hsz,hkeys,hndp,hget⟩:=(h.heap.ob i _ hob).tQ
 have hmv:=aH h m
 rw[hm] at hmv
 obtain ⟨r',hh',hme⟩:=agt hmv
 rw[hh] at hh';cases hh'
 have hgo:=MapKept.run_getObj_map (P:=X.P) hw
 have hchk:=aer hat hok es.isEmpty w
 have fin:∀(v:Value),aO E.mem v d→(execOp a.eval o).run X.P w=.ok (.value (if ok then .tuple #[v,.bool b] else v)) w→o.wpIn F 9 X.P a w next Q:=by
  intro v hv hr
  cases ok with
  | false=>exact dH hF (by simp[ho]) hr (dM h hnt hd hk (.p false _ _ hv) hn)
  | true=>
   refine dH hF (by simp[ho]) hr (dM h hnt hd hk (.p false _ _ (.tup #[v,.bool b] [d,.val (.bool b)] rfl fun q u s hu hs=>?_)) hn)
   match q with
   | 0=>simp at hu hs;subst hu;subst hs;exact hv
   | 1=>simp at hu hs;subst hu;subst hs;exact .val _
   | q+2=>simp at hu
 rcases agL hat hok w es.toList hkeys with ⟨f1,f2⟩ | ⟨j,e,f1,f2,f3⟩
 ·have hgn:get mk=none:=by
   cases hg:get mk with
   | none=>rfl
   | some d=>obtain ⟨y,y1,y2,_⟩:=(hget mk hok).1 d hg;exact absurd y2 (f2 y y1)
  obtain ⟨rfl,rfl⟩:=hg2 hgn
  obtain ⟨zv,hz,hZ⟩:=qZ (hTb _ _ hie) (E:=E)
  obtain ⟨I,z',hI,hIz,hzc⟩:=(hTb _ _ hie).flat hna
  have hzz:zv=z':=by
   have:=hz w
   simp[zeroValue,typeInfo,hI,hIz] at this
   exact this.symm
  subst hzz
  have hv:aO E.mem zv (.val z):=by
   have:=hZ.rep 0 zv _ (by rw[hzc];rfl) (by rw[vH];rfl)
   rw[this.aN];exact .val z
  refine fin zv hv ?_
  simp[execOp,ho,Instr.lookup,run_underlying hu,hme,hke,hgo,hchk,f1,hz w,Result.andThen]
 ·have hem:e∈es.toList:=adh f2
  cases hg:get mk with
  | none=>exact absurd f3 ((hget mk hok).2 hg e hem)
  | some d'=>
   obtain ⟨rfl,rfl⟩:=hg1 d' hg
   obtain ⟨y,y1,y2,y3,y4⟩:=(hget mk hok).1 d' hg
   obtain rfl:=nodup_keys hndp y1 hem (y2.trans f3.symm)
   refine fin y.val y4 ?_
   simp[execOp,ho,Instr.lookup,run_underlying hu,hme,hke,hgo,hchk,f1,Result.andThen]
theorem afs {C:Ctx} {E:Env} {st:St} {a:Act} {w:World} (h:aA C E st a w) {X:bB} (hTb:X.Tb.Ok X.P) (hnt:C.nt=X.nt) (hro:C.ro=X.ro) {o:Oper} (hd:bQ X.nt o.dst=true)
  {F:Fence} (hF:gY F) {K:St→Prop} (hk:adZ X o st K) {next:Act→World→Prop} {Q:Exit→Act→World→Prop}
  (hn:∀st' E' a' w',K st'→aA C E' st' a' w'→(iD o.op=true→Grow w w')→next a' w'):o.wpIn F 9 X.P a w next Q:=by
 unfold adZ at hk
 split at hk
 ·-- alloc
  rename_i T ho
  split at hk
  ·rename_i d size _ z hi
   obtain ⟨zv,hz,hA⟩:=qZ (hTb _ _ hi) (E:=E)
   have hrun:(execOp a.eval o).run X.P w=.ok (.value (.pointer (some ⟨w.heap.size,0,none⟩))) (w.alloc (.cells zv.cells T)):=by simp[execOp,ho,Instr.alloc,hz,newVar,newRow]
   split at hk
   ·rename_i n hbig
    obtain ⟨e,rfl,rfl,hbm⟩:=l8 hbig
    have hsz:zv.cells.size=size:=by
     obtain ⟨I,zz,hI,hIz,_,hs,_⟩:=(hTb _ _ hi).lT E
     have:=hz w
     simp[zeroValue,typeInfo,hI,hIz] at this
     rw[←this];exact hs
    exact dH hF (by simp[ho]) hrun (zn h hnt hd ⟨hsz,hbm⟩ (fun k hk=>anw hA k (by omega)) hk fun st' E' a' w' hk' h' hw'=>hn st' E' a' w' hk' h' fun _=>hw'▸jF w _)
   ·exact dH hF (by simp[ho]) hrun (abr h hnt hd hA hk fun st' E' a' w' hk' h' hw'=>hn st' E' a' w' hk' h' fun _=>hw'▸jF w _)
  ·exact hk.elim
 ·-- box
  rename_i T x ho
  have hrun:(execOp a.eval o).run X.P w=.ok (.value (.pointer (some ⟨w.heap.size,0,none⟩))) (w.alloc (.cells (a.eval x).cells T)):=by simp[execOp,ho,Instr.box,newVar,newRow]
  split at hk
  ·rename_i n g hb
   obtain ⟨b,hao,hbm⟩:∃b,aaH n (st.ev x)=some (b,g)∧n≤1000:=by
    unfold alV at hb
    split at hb
    ·split at hb
     ·rename_i hbig
      obtain ⟨_,_,_,hbm⟩:=l8 hbig
      split at hb
      ·rename_i hq;cases hb;exact ⟨_,hq,hbm⟩
      ·cases hb
     ·cases hb
    ·cases hb
   have hp:=aap hao (aH h x)
   generalize hvx:a.eval x=v at hp hrun
   obtain ⟨vs,rfl,hs,hc⟩:=hp.fZ
   exact dH hF (by simp[ho]) hrun (zn h hnt hd ⟨hs,hbm⟩ (fun k hk=>by obtain ⟨u,h1,h2,h3⟩:=hc k hk;exact ⟨u,h1,h2,h3.mono (E.eO b)⟩) hk fun st' E' a' w' hk' h' hw'=>hn st' E' a' w' hk' h' fun _=>hw'▸jF w _)
  ·split at hk
   ·rename_i cs hc
    obtain ⟨g1,g2,g3⟩:=kW (aH h x) hc
    exact dH hF (by simp[ho]) hrun (abr h hnt hd ⟨g1,g2,g3⟩ hk fun st' E' a' w' hk' h' hw'=>hn st' E' a' w' hk' h' fun _=>hw'▸jF w _)
   ·exact hk.elim
 ·-- makeMap
  rename_i T ho
  split at hk
  ·rename_i kT eT _ _ _ hi
   split at hk
   ·rename_i kt hkt
    have hh:=h.heap.acD (.map #[] 0) (v:=.map (some w.heap.size)) (o:=.map kt 0 (fun _=>none)) (fun b hb=>by simpa [aG] using hb.symm)
     (.map w.heap.size #[] 0 kt 0 _ (E.lH _ _) (World.alloc_heap_new w _) rfl (by simp) (by simp) (fun k hk=>⟨fun d hd=>(by cases hd),fun _=>by simp⟩))
    have hle:=Env.uz (v:=.map (some w.heap.size)) (h.heap.new st.no (aha _))
    rw[ni] at hk
    refine dH hF (by simp[ho]) (v:=.map (some w.heap.size)) (w':=w.alloc (.map #[] 0)) ?_
     (dM (h.fQ (st':=st.alloc _) hle rfl hh ⟨rfl,rfl⟩ (iF w _)) hnt hd hk (.mp _ _ (E.lH _ _)) fun st' E' a' w' hk' h' hw'=>hn st' E' a' w' hk' h' fun _=>hw'▸jF w _)
    simp[execOp,ho,Instr.makeMap,Result.andThen]
   ·exact hk.elim
  ·exact hk.elim
 ·rename_i T m k v ho
  exact aae h hTb hnt hro hd (fun w=>by simp only[execOp,ho]) (by simp[ho]) hF hk fun st' E' a' w' hk' h'=>hn st' E' a' w' hk' h' (by simp[iD,ho])
 ·rename_i T m k v ho
  exact aae h hTb hnt hro hd (fun w=>by simp only[execOp,ho]) (by simp[ho]) hF hk fun st' E' a' w' hk' h'=>hn st' E' a' w' hk' h' (by simp[iD,ho])
 ·rename_i T m k ok ho
  exact agm h hTb hnt hd ho hF hk fun st' E' a' w' hk' h' hw=>hn st' E' a' w' hk' h' fun _=>hw▸Grow.refl w
 ·-- store
  rename_i T x y ho
  split at hk
  ·-- a whole array
   rename_i i o' hst
   unfold aht at hst
   split at hst
   case h_2=>cases hst
   rename_i d size _ _ hi
   split at hst
   case h_2=>cases hst
   rename_i n hbig
   obtain ⟨e,rfl,rfl,hbm⟩:=l8 hbig
   split at hst
   case h_2=>cases hst
   rename_i i0 hx
   split at hst
   case h_2=>cases hst
   rename_i T' n' f hob hble
   split at hst
   case h_2=>cases hst
   rename_i b g hnn hao
   obtain rfl:=agf hnn
   cases hst
   have hri:C.ro≤i:=by rw[hro];exact aiT hble
   have hxv:=aH h x
   rw[hx] at hxv
   obtain ⟨b',hb',hxe⟩:=fF hxv
   obtain ⟨b2,vs,hb2,hw,hs,hc⟩:=(h.heap.ob i _ hob).fZ
   rw[hb'] at hb2;cases hb2
   have hp:=aap hao (aH h y)
   obtain ⟨us,hye,hus,huc⟩:=hp.fZ
   have hyc:(a.eval y).cells=us:=by rw[hye];rfl
   obtain ⟨vs',hr,hs',hv'⟩:=ade (P:=X.P) ho hxe hw (dQ (hTb _ _ hi) w) (by rw[hyc];exact hus) (fun k u hu=>by
    rw[hyc] at hu
    have hk:k<n':=by rw[←hus];exact (abB.1 hu).1
    obtain ⟨u',h1,h2,_⟩:=huc k hk
    rw[h1] at hu;cases hu;exact h2) (by show 0+n'≤_;omega)
   refine rP hF (by simp[ho]) hr (ab2 h hnt hd hob hri hb' hw ⟨by omega,hs.2⟩ (fun k hk=>?_) (.any _) hk fun st' E' a' w' hk' h'=>hn st' E' a' w' hk' h' (by simp[iD,ho]))
   obtain ⟨u,h1,h2,h3⟩:=huc k hk
   refine ⟨u,?_,h2,h3.mono (E.eO b)⟩
   rw[hv' k,if_pos ⟨afc _,by show k<0+n';omega⟩,hyc];exact h1
  split at hk
  ·rename_i d size _ _ hi
   split at hk
   ·rename_i i off new hx hc
    cases hb:new.length.beq size with
    | false=>simp[hb] at hk
    | true=>
     simp only[hb] at hk
     have hnew:=agf hb
     split at hk
     ·rename_i T' cs hob
      split at hk
      ·rename_i r hble hs
       have hri:C.ro≤i:=by rw[hro];exact aiT hble
       obtain ⟨g1,g2,g3⟩:=kW (aH h y) hc
       obtain ⟨r1,r2,r3⟩:=nS cs off new r hs
       have hxv:=aH h x
       rw[hx] at hxv
       obtain ⟨b,hb,hxe⟩:=fF hxv
       obtain ⟨b',vs,hb',hw,hA⟩:=(h.heap.ob i _ hob).iR
       rw[hb] at hb';cases hb'
       have hsize:(sizeOf T).run X.P w=.ok size w:=dQ (hTb _ _ hi) w
       have hst:=run_storeCells_at X.P b off T' (a.eval y).cells.toList 0 vs w hw (by have:=hA.size;simp;omega) (fun v hv=>by
        obtain ⟨k,hk,rfl⟩:=arp hv
        exact g2 k _ (by rw[←aeX];exact abn hk))
       simp only[atm] at hst
       generalize hcs':(vs.toList.take off++(a.eval y).cells.toList++vs.toList.drop (off+(a.eval y).cells.toList.length)).toArray=vs' at hst
       have hA':jG E vs' r:=by
        have hlen:(a.eval y).cells.toList.length=new.length:=by simpa using g1
        have hvl:vs.toList.length=cs.length:=by simpa using hA.size
        have hl1:(vs.toList.take off).length=off:=by rw[ajz];omega
        refine jG.of (by rw[←hcs',r1,←hvl];simp only[atG,aaf,ajz,arP];omega) fun k hk=>?_
        have hk':k<cs.length:=by
         rw[←hcs'] at hk
         simp only[atG,aaf,ajz,arP] at hk
         omega
        rw[←hcs',r3 k]
        simp only[aty]
        by_cases hin:off≤k∧k<off+new.length
        ·rw[if_pos hin,afk (by rw[aaf,hl1];omega),agH (by omega),hl1]
         have e2:new[k-off]?=some new[k-off]:=abn (by omega)
         have e1:(a.eval y).cells[k-off]?=some ((a.eval y).cells[k-off]'(by omega)):=aex (by omega)
         exact ⟨_,_,by rw[aeX];exact e1,e2,g2 _ _ e1,g3 _ _ _ e1 e2⟩
        ·rw[if_neg hin]
         have e2:cs[k]?=some cs[k]:=abn hk'
         have e1:vs[k]?=some (vs[k]'(by have:=hA.size;omega)):=aex (by have:=hA.size;omega)
         refine ⟨_,_,?_,e2,hA.one _ _ e1,hA.rep _ _ _ e1 e2⟩
         by_cases hlt:k<off
         ·rw[afk (by rw[aaf,hl1];omega),afk (by omega),alD,if_pos hlt,aeX];exact e1
         ·rw[agH (by rw[aaf,hl1];omega),aaf,hl1,hlen,aqX,show off+new.length+(k-(off+new.length))=k by omega,aeX];exact e1
       have hh:=h.heap.write (o':=.cells T' r) hob (b:=b) (by simp[Env.blk,hb,aG]) hri (w':=w.setRow b vs')
        (.cells b T' vs' r hb (setRow_heap w b vs vs' T' (0,0) hw) hA'.size hA'.one hA'.rep) rfl rfl rfl (by simp) (fun k hk=>setRow_other w b k vs' hk)
       refine rP hF (by simp[ho]) (w':=w.setRow b vs') ?_ (aD (h.fQ (st':=st.bX i (some (.cells T' r))) (Env.Le.refl E) rfl hh ⟨rfl,rfl⟩ (lX hw fun k hk=>setRow_other w b k vs' hk)) hnt hd hk (.any _) fun st' E' a' w' hk' h'=>hn st' E' a' w' hk' h' (by simp[iD,ho]))
       have hcz:(a.eval y).cells.size=size:=by omega
       simp[execOp,ho,Instr.storeAt,Instr.sureAddr,hxe,storeVar,hsize,hcz,hst]
      ·exact hk.elim
     ·-- an element of an array
      rename_i T' n f hob
      split at hk
      ·rename_i _ d' hble hag
       obtain ⟨hoff,hk⟩:=hk
       have hri:C.ro≤i:=by rw[hro];exact aiT hble
       obtain ⟨g1,g2,g3⟩:=kW (aH h y) hc
       have hxv:=aH h x
       rw[hx] at hxv
       obtain ⟨b,hb,hxe⟩:=fF hxv
       obtain ⟨b',vs,hb',hw,hs,hvc⟩:=(h.heap.ob i _ hob).fZ
       rw[hb] at hb';cases hb'
       obtain ⟨vs',hr,hs',hv'⟩:=ade (P:=X.P) ho hxe hw (dQ (hTb _ _ hi) w) (by rw[g1];rfl) g2 (by show off+1≤_;omega)
       refine rP hF (by simp[ho]) hr (ab2 h hnt hd hob hri hb hw ⟨by omega,hs.2⟩ (fun k hk=>?_) (.any _) hk fun st' E' a' w' hk' h'=>hn st' E' a' w' hk' h' (by simp[iD,ho]))
       rw[hv' k]
       unfold oH
       by_cases e:k=off
       ·subst e
        rw[if_pos ⟨aha _,by show k<k+1;omega⟩,if_pos rfl,atn]
        obtain ⟨u0,e1⟩:∃u0,(a.eval y).cells[0]?=some u0:=⟨_,aex (by rw[g1];simp)⟩
        refine ⟨_,e1,g2 _ _ e1,?_⟩
        have:=g3 _ _ _ e1 rfl
        cases this with | p _ _ _ hp=>exact hp.mono (E.eO _)
       ·rw[if_neg (by show ¬(off≤k∧k<off+1);omega),if_neg e]
        exact hvc k hk
      ·exact hk.elim
     ·exact hk.elim
   ·-- an element of a row
    rename_i i sz j off new hx hc
    cases hb:new.length.beq size with
    | false=>simp[hb] at hk
    | true=>
     simp only[hb] at hk
     have hnew:=agf hb
     split at hk
     ·rename_i bb ds hb1 hall
      split at hk
      ·rename_i T' sz' n f hob
       cases hble:X.ro.ble i with
       | false=>simp[hble] at hk
       | true=>
        cases hbq:sz.beq sz' with
        | false=>simp[hble,hbq] at hk
        | true=>
         simp only[hble,hbq] at hk
         obtain rfl:=agf hbq
         obtain ⟨⟨hj,hoff⟩,hk⟩:=hk
         have hri:C.ro≤i:=by rw[hro];exact aiT hble
         obtain ⟨g1,g2,g3⟩:=kW (aH h y) hc
         obtain ⟨hdl,hdr⟩:=qC (E:=E) new bb ds hall
         have hxv:=aH h x
         rw[hx] at hxv
         obtain ⟨b,n',cap,hb,hxe⟩:=adu hxv
         obtain ⟨rfl,vs,u,hR⟩:=(h.heap.ob i _ hob).jQ hb
         have hlen:(a.eval y).cells.toList.length=ds.length:=by rw[←hdl];simpa using g1
         have hjsz:j*sz+sz≤n'*sz:=by rw[←asI];exact alS _ hj
         have hncap:n'*sz≤cap*sz:=alS _ hR.hn
         have hfit:j*sz+off+ds.length≤vs.size:=by rw[hR.size];omega
         have hsize:(sizeOf T).run X.P w=.ok size w:=dQ (hTb _ _ hi) w
         have hst:=run_storeCells_at X.P b (j*sz+off) T' (a.eval y).cells.toList 0 vs w hR.heap (by rw[hlen];omega) (fun v hv=>by
          obtain ⟨k,hk,rfl⟩:=arp hv
          exact g2 k _ (by rw[←aeX];exact abn hk))
         simp only[atm] at hst
         generalize hcs':(vs.toList.take (j*sz+off)++(a.eval y).cells.toList++vs.toList.drop (j*sz+off+(a.eval y).cells.toList.length)).toArray=vs' at hst
         have hvs':vs'.size=vs.size:=by
          rw[←hcs'];simp only[atG,aaf,ajz,arP,hlen,al7];omega
         have hat:∀q,vs'[q]?=if j*sz+off≤q∧q<j*sz+off+ds.length then (a.eval y).cells[q-(j*sz+off)]? else vs[q]?:=by
          intro q
          have hl1:(vs.toList.take (j*sz+off)).length=j*sz+off:=by rw[ajz,al7];omega
          rw[←hcs']
          simp only[aty]
          by_cases hin:j*sz+off≤q∧q<j*sz+off+ds.length
          ·rw[if_pos hin,afk (by rw[aaf,hl1];omega),agH (by omega),hl1,aeX]
          ·rw[if_neg hin]
           by_cases hlt:q<j*sz+off
           ·rw[afk (by rw[aaf,hl1];omega),afk (by omega),alD,if_pos hlt,aeX]
           ·rw[agH (by rw[aaf,hl1];omega),aaf,hl1,hlen,aqX,show j*sz+off+ds.length+(q-(j*sz+off+ds.length))=q by omega,aeX]
         have cellOf:∀j' k s,j'<n'→(pq f j off ds j')[k]?=some s→∃v,vs'[j'*sz+k]?=some v∧v.oneCell'=true∧aO E.mem v s:=by
          intro j' k s hj' hs
          have hfl:=hR.hl j' hj'
          have hks:k<sz:=by rw[←uH (f:=f) (j:=j) (off:=off) (ds:=ds) hfl hoff];exact (abA.1 hs).1
          rw[alI hfl hoff] at hs
          rw[hat]
          by_cases hin:j'=j∧off≤k∧k<off+ds.length
          ·rw[if_pos hin] at hs
           obtain ⟨rfl,hk1,hk2⟩:=hin
           rw[if_pos (by omega),show j'*sz+k-(j'*sz+off)=k-off by omega]
           have hcl:(a.eval y).cells.size=ds.length:=by simpa using hlen
           have e1:(a.eval y).cells[k-off]?=some ((a.eval y).cells[k-off]'(by omega)):=aex _
           have e2:new[k-off]?=some (new[k-off]'(by omega)):=abn _
           exact ⟨_,e1,g2 _ _ e1,(hdr _ _ _ _ e2 hs (g3 _ _ _ e1 e2)).mono fun B cs hB=>E.eO bb _ _ hB⟩
          ·rw[if_neg hin] at hs
           rw[if_neg (anH hks hoff hin)]
           obtain ⟨h1,h2⟩:=hR.hc j' k s hj' hs
           exact ⟨_,h1,h2,hR.he j' k s hj' hs⟩
         have hh:=h.heap.write (o':=.row T' sz n' (pq f j off ds)) hob (b:=b) (by simp[Env.blk,hb,aG]) hri (w':=w.setRow b vs')
          (.row T' sz n' _ _ (vs'.toList.take (n'*sz)) (fun j' k=>vs'.getD (j'*sz+k) undef) hb
           ⟨by rw[ajz,al7,hvs',hR.size];omega,.inr ⟨b,cap,vs',rfl,afc _,setRow_heap w b vs vs' T' (0,0) hR.heap,hR.hn,hR.hcap,by rw[hvs'];exact hR.size,rfl⟩⟩ hR.hmax
           (fun j' hj'=>uH (hR.hl j' hj') hoff)
           (fun j' k s hj' hs=>by
            obtain ⟨v,h1,h2,h3⟩:=cellOf j' k s hj' hs
            have hks:k<sz:=by rw[←uH (f:=f) (j:=j) (off:=off) (ds:=ds) (hR.hl j' hj') hoff];exact (abA.1 hs).1
            have hlt:j'*sz+k<n'*sz:=by
             have:=alS sz (show j'+1≤n' from hj');rw[asI] at this;omega
            rw[alD,if_pos hlt,aeX,aeC,h1]
            exact ⟨rfl,h2⟩)
           (fun j' k s hj' hs=>by
            obtain ⟨v,h1,h2,h3⟩:=cellOf j' k s hj' hs
            rw[aeC,h1];exact h3)) rfl rfl rfl (by simp) (fun k hk=>setRow_other w b k vs' hk)
         refine rP hF (by simp[ho]) (w':=w.setRow b vs') ?_ (aD (h.fQ (st':=st.bX i (some (.row T' sz n' (pq f j off ds)))) (Env.Le.refl E) rfl hh ⟨rfl,rfl⟩ (lX hR.heap fun k hk=>setRow_other w b k vs' hk)) hnt hd hk (.any _) fun st' E' a' w' hk' h'=>hn st' E' a' w' hk' h' (by simp[iD,ho]))
         have hcz:(a.eval y).cells.size=size:=by omega
         simp[execOp,ho,Instr.storeAt,Instr.sureAddr,hxe,storeVar,hsize,hcz,hst]
      ·exact hk.elim
     ·exact hk.elim
   ·exact hk.elim
  ·exact hk.elim
 ·-- makeSlice
  rename_i T l c ho
  split at hk
  ·rename_i e _ _ _ hi
   split at hk
   ·rename_i _ sz by_ z hie
    split at hk
    ·rename_i _ k1 n _ k2 m hl hc
     obtain ⟨⟨h0,h1,h2,h3⟩,hk⟩:=hk
     have hlv:=aH h l
     rw[hl] at hlv
     have hle1:=hlv.aN
     have hcv:=aH h c
     rw[hc] at hcv
     have hce:=hcv.aN
     have hu:X.P.underlying T=some (.slice e):=(hTb _ _ hi).desc
     obtain ⟨I,hI,hIs,hIb,zv,hz,hzz,hone,hzc⟩:=(hTb _ _ hie).info
     simp only at hIs hIb hzz hzc
     have hbyt:(I.bytes:Int)*m≤281474976710656:=by
      have e:m=(m.toNat:Int):=by omega
      rw[hIb,e]
      have h5:((by_*m.toNat:Nat):Int)≤((281474976710656:Nat):Int):=Int.ofNat_le.2 h3
      rw[Int.natCast_mul] at h5;exact h5
     have hrun:=run_make (P:=X.P) w T e I zv hu hI hz k1 k2 n m h0 h1 hbyt (by omega)
     rw[hIs] at hrun
     have hzl:z.length=sz+1:=by rw[←hzz,al7];exact hzc
     have hmc:=size_madeCells zv.cells (m.toNat*(sz+1))
     have hnm:n.toNat≤m.toNat:=by omega
     have hmx:m.toNat≤maxLen:=by unfold maxLen;omega
     have hzc:zv.cells.size=sz+1:=hzc
     have hle:=Env.uz (v:=.slice (some ⟨w.heap.size,0,none⟩) n.toNat m.toNat) (h.heap.new st.no (aha _))
     have hnsz:n.toNat*(sz+1)≤m.toNat*(sz+1):=alS _ hnm
     have hcell:∀j k,j<n.toNat→k<sz+1→(madeCells zv.cells (m.toNat*(sz+1)))[j*(sz+1)+k]?=zv.cells[k]?:=by
      intro j k hj hk
      have hlt:j*(sz+1)+k<m.toNat*(sz+1):=by
       have:=alS (sz+1) (show j+1≤m.toNat by omega);rw[asI] at this;omega
      have hmod:(j*(sz+1)+k) % zv.cells.size=k:=by rw[hzc,Nat.add_comm,auc,atK hk]
      have e1:zv.cells[k]?=some (zv.cells[k]'(by omega)):=aex _
      rw[e1]
      simp[madeCells,hlt,hmod,getElem!_def,e1]
     have hh:=h.heap.acD (.cells (madeCells zv.cells (m.toNat*(sz+1))) e) (v:=.slice (some ⟨w.heap.size,0,none⟩) n.toNat m.toNat) (o:=.row e (sz+1) n.toNat fun _=>vals z) (fun b hb=>by simpa [aG] using hb.symm)
      (.row e (sz+1) n.toNat _ _ ((madeCells zv.cells (m.toNat*(sz+1))).toList.take (n.toNat*(sz+1))) (fun j k=>zv.cells.getD k undef) (E.lH _ _)
       ⟨by rw[ajz,al7,hmc];omega,.inr ⟨w.heap.size,m.toNat,_,rfl,afc _,World.alloc_heap_new w _,hnm,hmx,hmc,rfl⟩⟩ (aln hnm hmx)
       (fun j hj=>by rw[q9];exact hzl)
       (fun j k s hj hs=>by
        rw[oG,←hzz,aeX] at hs
        have hks:k<sz+1:=by
         cases hq:zv.cells[k]? with
         | none=>rw[hq] at hs;cases hs
         | some q=>have:=(abB.1 hq).1;omega
        have hlt:j*(sz+1)+k<n.toNat*(sz+1):=by
         have:=alS (sz+1) (show j+1≤n.toNat from hj);rw[asI] at this;omega
        rw[alD,if_pos hlt,aeX,hcell j k hj hks]
        have e1:zv.cells[k]?=some (zv.cells[k]'(by omega)):=aex _
        rw[aeC,e1]
        exact ⟨rfl,hone _ _ e1⟩)
       (fun j k s hj hs=>by
        rw[oG,←hzz,aeX] at hs
        cases hq:zv.cells[k]? with
        | none=>rw[hq] at hs;cases hs
        | some q=>
         rw[hq] at hs;simp only[aoF,Option.some.injEq] at hs;subst hs
         rw[aeC,hq];exact .val q))
     rw[ni] at hk
     refine dH hF (by simp[ho]) (v:=.slice (some ⟨w.heap.size,0,none⟩) n.toNat m.toNat) (w':=w.alloc (.cells (madeCells zv.cells (m.toNat*(sz+1))) e)) ?_
      (dM (h.fQ (st':=st.alloc _) hle rfl hh ⟨rfl,rfl⟩ (iF w _)) hnt hd hk (.row _ _ (E.lH _ _) rfl) fun st' E' a' w' hk' h' hw'=>hn st' E' a' w' hk' h' fun _=>hw'▸jF w _)
     simp[execOp,ho,hle1,hce,hrun]
    ·exact hk.elim
   ·exact hk.elim
  ·exact hk.elim
 ·-- buildSlice
  rename_i T len parts ho
  split at hk
  ·rename_i e _ _ _ hi
   split at hk
   ·rename_i _ sz _ z hie
    split at hk
    ·rename_i cs hf
     split at hk
     ·rename_i b ds hall
      cases hbl:(len*(sz+1)).blt 1000 with
      | false=>simp[hbl] at hk
      | true=>
       simp only[hbl] at hk
       have hlt:len*(sz+1)<1000:=by simpa [atB] using hbl
       obtain ⟨zv,hz,hZ⟩:=qZ (hTb _ _ hie) (E:=E)
       have hu:X.P.underlying T=some (.slice e):=(hTb _ _ hi).desc
       have hzl:(zeros z).length=sz+1:=by
        obtain ⟨I,zz,_,_,_,hs,hA⟩:=(hTb _ _ hie).lT E
        have:=hA.size;simp only at this hs;omega
       have hzs:zv.cells.size=sz+1:=by rw[hZ.size];exact hzl
       have hZ0:jG E ((Array.range (len*(sz+1))).map (zv.cells[· % zv.cells.size]!)) (vM len (zeros z)):=by
        refine jG.of (by rw[om,hzl];simp) fun k hk=>?_
        have hk2:k<len*(sz+1):=by simpa using hk
        have hm:k % (sz+1)<sz+1:=Nat.mod_lt _ (by omega)
        have e1:zv.cells[k % (sz+1)]?=some (zv.cells[k % (sz+1)]'(by omega)):=aex (by omega)
        have e2:(zeros z)[k % (sz+1)]?=some ((zeros z)[k % (sz+1)]'(by omega)):=abn (by omega)
        have hm2:k % (zeros z).length=k % (sz+1):=by rw[hzl]
        refine ⟨_,_,?_,by rw[abG _ _ _ (by rw[hzl];exact hk2),hm2];exact e2,hZ.one _ _ e1,hZ.rep _ _ _ e1 e2⟩
        simp[hk2,hzs,getElem!_def,e1]
       obtain ⟨vs',hfill,hA⟩:=uy h _ (fun i=>some (i*(sz+1),sz+1)) (fun i p hp=>by
        split at hp
        ·exact hp
        ·cases hp) parts.toList _ _ _ hZ0 hf
       obtain ⟨hdl,hdr⟩:=qC (E:=E) cs b ds hall
       have hvl:vs'.size=len*(sz+1):=by
        have:=(uM hf);rw[hA.size,this,om,hzl]
       have hle:=Env.uz (v:=.slice (some ⟨w.heap.size,0,none⟩) len len) (h.heap.new st.no (aha _))
       have hdn:ds.length=len*(sz+1):=by rw[←hdl,←hA.size,hvl]
       have hmx:len≤maxLen:=by unfold maxLen;have:=Nat.le_mul_of_pos_right len (show 0<sz+1 by omega);omega
       have hh:=h.heap.acD (.cells vs' e) (v:=.slice (some ⟨w.heap.size,0,none⟩) len len) (o:=.row e (sz+1) len (bn (sz+1) ds)) (fun b hb=>by simpa [aG] using hb.symm)
        (.row e (sz+1) len _ _ vs'.toList (fun j k=>vs'.getD (j*(sz+1)+k) undef) (E.lH _ _)
         ⟨by simp[hvl],.inr ⟨w.heap.size,len,vs',rfl,afc _,World.alloc_heap_new w _,aha _,hmx,hvl,by rw[atr];simp[hvl]⟩⟩ hmx
         (fun j hj=>(jI hdn hj).1)
         (fun j k s hj hs=>?_) (fun j k s hj hs=>?_))
       ·rw[ni] at hk
        refine dH hF (by simp[ho]) (v:=.slice (some ⟨w.heap.size,0,none⟩) len len) (w':=w.alloc (.cells vs' e)) ?_
         (dM (h.fQ (st':=st.alloc _) hle rfl hh ⟨rfl,rfl⟩ (iF w _)) hnt hd hk (.row _ _ (E.lH _ _) rfl) fun st' E' a' w' hk' h' hw'=>hn st' E' a' w' hk' h' fun _=>hw'▸jF w _)
        have h24:¬(len*(sz+1)>2 ^ 24):=by omega
        have hfill':Instr.fill (fun i=>some (i*(sz+1),sz+1)) ((Array.range (len*(sz+1))).map (zv.cells[· % zv.cells.size]!)) (parts.map fun p=>(p.1,a.eval p.2)).toList=some vs':=by simpa using hfill
        by_cases h0:len*(sz+1)=0
        ·have hz0:∀g:Nat→Value,(Array.range (len*(sz+1))).map g=#[]:=fun g=>by rw[h0];simp
         rw[hz0] at hfill'
         simp only[execOp,ho,Instr.buildSlice,Sem.run_bind,run_underlying hu,Result.andThen_ok,dQ (hTb _ _ hie),h0,show ¬((0:Nat)>2 ^ 24) by omega,if_false,if_true,Sem.run_pure]
         simp only[show Array.range 0=#[] from rfl,Array.map_empty,hfill',newRow,Sem.run_bind,run_newObj,Result.andThen_ok,Sem.run_pure]
         rfl
        ·simp only[execOp,ho,Instr.buildSlice,Sem.run_bind,run_underlying hu,Result.andThen_ok,dQ (hTb _ _ hie),h24,if_false,h0,hz,Sem.run_pure]
         simp only[hfill',newRow,Sem.run_bind,run_newObj,Result.andThen_ok,Sem.run_pure]
         rfl
       ·have hk1:k<sz+1:=by rw[←(jI hdn hj).1];exact (abA.1 hs).1
        have hin:j*(sz+1)+k<vs'.size:=by
         rw[hvl];have:=alS (sz+1) (show j+1≤len from hj);rw[asI] at this;omega
        have e1:vs'[j*(sz+1)+k]?=some vs'[j*(sz+1)+k]:=aex hin
        rw[aeX,aeC,e1]
        exact ⟨rfl,hA.one _ _ e1⟩
       ·have hk1:k<sz+1:=by rw[←(jI hdn hj).1];exact (abA.1 hs).1
        have hin:j*(sz+1)+k<vs'.size:=by
         rw[hvl];have:=alS (sz+1) (show j+1≤len from hj);rw[asI] at this;omega
        have e1:vs'[j*(sz+1)+k]?=some vs'[j*(sz+1)+k]:=aex hin
        have e2:cs[j*(sz+1)+k]?=some (cs[j*(sz+1)+k]'(by rw[←hA.size];exact hin)):=abn _
        rw[(jI hdn hj).2 k hk1] at hs
        rw[aeC,e1]
        exact (hdr _ _ _ _ e2 hs (hA.rep _ _ _ e1 e2)).mono fun B cs hB=>E.eO b _ _ hB
     ·exact hk.elim
    ·exact hk.elim
   ·exact hk.elim
  ·exact hk.elim
 ·exact hk.elim
theorem oI (v:Value) (h:uI v=true):aG v=v.ownBlock:=by
 cases v<;>simp[uI] at h
 rename_i a _ _
 cases a<;>rfl
theorem ake {P:Program} {w:World} (t ty e:TypeId) (i:TypeInfo) (z:Value) (size bytes:Nat) (ht:P.underlying t=some (.slice e)) (hi:P.info? e=some i) (hz:i.zero=some z)
  (hsize:i.size=size) (hby:i.bytes=bytes) (hzs:z.cells.size=size) (hsz:0<size)
  (v:Value) (n:Nat) (xs:List Value) (hown:w.ownsRow 0 e size v n xs)
  (a:Addr) (m c:Nat) (news:List Value) (hl:news.length=m*size) (hnews:∀(j:Nat) (u:Value),news[j]?=some u→w.cell? (a.add j)=some u) (h1:∀u∈news,u.oneCell'=true)
  (h63:n+m≤maxLen) (hbytes:(n+m)*bytes≤140737488355328) :
  ∃v' w',(Builtin.append_ #[t,t] ty #[v,.slice (some a) m c]).run P w=.ok v' w'∧w'.ownsRow 0 e size v' (n+m) (xs++news)∧w.grownBy w' v.ownBlock∧uI v'=true ∧
   (∀b,aG v'=some b→w.heap.size≤b∨v.ownBlock=some b):=by
 obtain ⟨v',w',hr,ho,hg,_⟩:=run_append_own (P:=P) w 0 t ty e i z size bytes ht hi hz hsize hby hzs hsz v n xs hown a m c news hl hnews h1 h63 hbytes (afc _)
 have hsl:uI v'=true:=by
  rcases ho.2 with ⟨rfl,_⟩ | ⟨g,cap,cur,rfl,_⟩<;>rfl
 refine ⟨v',w',hr,ho,hg,hsl,?_⟩
 subst hsize;subst hby
 have hsmall:n+m≤9223372036854775807:=by simp only[maxLen] at h63;omega
 rcases hown.2 with ⟨rfl,rfl⟩ | ⟨g,cap,cur,rfl,_,hgg,hnc,hcm,hcs,htake⟩
 ·have hx:xs=[]:=atJ (by simpa using hown.1)
  subst hx
  by_cases hm:m=0
  ·subst hm
   have hr2:(Builtin.append_ #[t,t] ty #[.slice none 0 0,.slice (some a) 0 c]).run P w=.ok (.slice none 0 0) w:=by
    simp[Builtin.append_,run_underlying ht,sizeOf,typeInfo,hi,Builtin.lenOf,Builtin.firstCells,loadCells,loadCellsFrom]
   rw[hr2] at hr;cases hr
   intro b hb;simp[aG] at hb
  ·have hr2:=run_append_nil (P:=P) w t ty e i z ht hi hz a m c news hl hnews (by omega) (by omega) (by have hb:=hbytes;simp only[aiF] at hb;omega)
   rw[hr2] at hr;cases hr
   intro b hb;simp[aG] at hb;left;omega
 ·by_cases hroom:n+m≤cap
  ·have hfit:n*i.size+news.length≤cur.size:=by rw[hl,hcs,←asM];exact alS _ hroom
   have hr2:=run_append_room (P:=P) w t ty e i ht hi g n cap cur hgg a m c news hl hnews h1 hroom hfit
   rw[hr2] at hr;cases hr
   intro b hb;simp[aG] at hb;right;simp[Value.ownBlock,hb]
  ·have holds:∀j u,xs[j]?=some u→w.cell? ((⟨g,0,none⟩:Addr).add j)=some u:=hown.cells (g:=g) rfl
   have hr2:=run_append_grow (P:=P) w t ty e i z ht hi hz ⟨g,0,none⟩ n cap xs hown.1 holds a m c news hl hnews (by omega) (by omega) (growslice_fits (by omega) hbytes)
   rw[hr2] at hr;cases hr
   intro b hb;simp[aG] at hb;left;omega
theorem qP {n k:Nat} (f g:Nat→List PV) (h:k<n):bS n f g k=f k:=by simp[bS,h]
theorem qw {n k:Nat} (f g:Nat→List PV) (h:n≤k):bS n f g k=g (k-n):=by simp[bS,Nat.not_lt.2 h]
end Go.Sx
