/- CompileBegins, part 1 of its proof: declarations that the last part uses. -/
import Derived.WalkKit
import Derived.CallsIn
import Derived.TacticsIn
import Derived.OrdersIn
import Derived.Laws.AppendOwn
import Derived.Laws.Tables
import Derived.Below
import Derived.RangeFuncSeq
import Derived.RangeFuncLeaves
import Derived.RangeFuncOwn
import Derived.MapKept
import Derived.Laws.Strings
import Derived.OwnWalkIn
import Derived.RangeFuncCalls
import Derived.ChangeKeysEq
import Derived.Laws.IdiomStrings
import Derived.Laws.MakeOwn
import Derived.Lib.AppendStr
import Derived.Laws.OwnMore
import Derived.LoopNIn
import Derived.Laws.BitsAllLaws
import Derived.Laws.Bits64
import Derived.ProofKit
import Derived.OpenShut
import Derived.DataElems
import Derived.Sort.Grow
import Derived.Test.YtagbjlbohahcaaaGreatDoorProg
import Derived.Shelf.Strings.Trim
import Derived.Shelf.Small.Utf8
import Derived.Shelf.Small.Bits
import Derived.Shelf.Small.Strs
import Derived.Shelf.Small.Wraps
import Derived.Shelf.Strconv.Itoa0
import Derived.Shelf.Strconv.Itoa1
import Derived.Shelf.LaysM
import Derived.Shelf.Strconv.Itoa2
import Derived.Shelf.Strconv.Itoa3
import Derived.Shelf.Strings.Search1
import Derived.Shelf.Strings.Search2
import Derived.Shelf.Strings.Search3
import Derived.Shelf.Strings.Shaped
import Derived.Shelf.Sort.Plain
import Derived.Shelf.GgClosure.StringsIndexFunc
import Derived.Ground.GgwProg
import Derived.Shelf.GgClosure.StringsIndexFuncTop
import Derived.Shelf.Strings.Runes
import Derived.Shelf.Strings.AsciiSet
import Derived.Shelf.Unicode.DecodeSlow
import Derived.Shelf.Slices.Equal
import Derived.Ground.Names2Prog
import Derived.Shelf.Slices.Clone
import Derived.Shelf.Slices.In.SortNone
import Derived.Shelf.Slices.Empties2
import Derived.Lib.ItoaNum
import Derived.Lib.DecodeN
import Derived.Shelf.SlGeneric
import Derived.Shelf.Spec.SlicesGrow
import Derived.Ground.Names8Prog
import Derived.Test.YtagbjlbohahcaaaGreatDoorCards
import Derived.Test.YtagbjlbohahcaaaGreatDoorTie
import Derived.Deep.DeepHandedRow
import Derived.Lib.LaidTab
import Derived.Lib.TrailingZeros
import Derived.Lib.SmallJoins
import Derived.Stop.LaidErr
import Derived.ChangeMaps5
set_option maxHeartbeats 1000000
set_option maxRecDepth 4000
set_option linter.unusedSimpArgs false
set_option linter.unusedVariables false
set_option linter.unusedSectionVars false
namespace Go
abbrev aam := @List.getD_eq_getElem?_getD
abbrev aas := @List.length_append
abbrev aav := @List.getElem?_eq_getElem
abbrev aa0 := @List.mem_of_getElem?
abbrev aa1 := @Int.natCast_nonneg
abbrev abj := @Bool.and_eq_true
abbrev abm := @Nat.le_refl
abbrev acC := @Array.getElem?_eq_getElem
abbrev acD := @Nat.eq_of_beq_eq_true
abbrev acE := @List.mem_append
abbrev acG := @Array.getElem?_eq_some_iff
abbrev acI := @List.take_length
abbrev acN := @List.mem_singleton
abbrev acP := @Bool.true_and
abbrev ac9 := @Array.getD_eq_getD_getElem?
abbrev aen := @Int.toNat_natCast
abbrev aeo := @Nat.not_lt_zero
abbrev aer := @Array.getElem?_toList
abbrev aex := @List.getElem?_append_right
abbrev afq := @Bool.true_or
abbrev ahn := @List.length_map
abbrev ahy := @List.mem_cons
abbrev aiT := @Nat.le_trans
abbrev ajv := @Nat.zero_add
abbrev ajG := @Nat.mul_le_mul_right
abbrev akx := @Nat.zero_le
abbrev akB := @Classical.not_not
abbrev alh := @List.getElem?_map
abbrev alk := @Nat.lt_of_lt_of_le
abbrev alO := @List.length_replicate
abbrev al0 := @List.any_eq_true
abbrev al7 := @List.getElem?_append_left
abbrev anI := @List.getElem?_cons_succ
abbrev an8 := @List.length_set
abbrev aot := @List.all_eq_true
abbrev aoF := @Bool.not_eq_true'
abbrev aoH := @Nat.le_of_ble_eq_true
abbrev aoZ := @List.map_append
abbrev ao9 := @List.append_nil
abbrev apl := @List.length_cons
abbrev apr := @Option.map_some
abbrev apT := @List.getElem_of_mem
abbrev aru := @Bool.or_eq_true
abbrev arx := @List.getElem?_eq_some_iff
abbrev arA := @Bool.false_or
abbrev arI := @List.length_take
abbrev arP := @List.mem_cons_of_mem
abbrev arQ := @Bool.false_and
abbrev arR := @Bool.eq_iff_iff
abbrev arU := @List.any_eq_false
abbrev arX := @Bool.and_false
abbrev atL := @Nat.eq_zero_or_pos
abbrev atQ := @List.append_assoc
abbrev atX := @List.all_eq_false
abbrev at0 := @List.length_range
abbrev auh := @List.mem_range
abbrev aup := @List.mem_map
abbrev aut := @Array.getElem?_append_left
abbrev auF := @List.getElem?_of_mem
abbrev auL := @List.getElem?_take
abbrev auO := @List.mem_cons_self
abbrev auY := @Nat.mul_one
abbrev au5 := @Nat.div_div_eq_div_mul
abbrev avc := @Nat.sub_self
abbrev ave := @List.range_succ
abbrev avf := @List.getElem?_replicate
abbrev avj := @Bool.or_eq_false_iff
abbrev avr := @List.take_of_length_le
abbrev avA := @List.foldl_append
abbrev avF := @List.foldl_cons
abbrev awo := @Nat.sub_zero
abbrev awp := @List.nodup_nil
abbrev awq := @Nat.add_sub_cancel_left
abbrev awr := @List.getElem?_eq_none
abbrev awt := @List.contains_eq_mem
abbrev awu := @Bool.eq_false_iff
abbrev awv := @List.map_cons
abbrev axb := @List.length_eq_zero_iff
abbrev axc := @Nat.add_zero
abbrev axd := @Nat.lt_or_ge
abbrev axe := @Array.ext_getElem?
abbrev axf := @List.getElem?_drop
abbrev axg := @List.getElem?_toArray
abbrev axh := @List.take_append_drop
abbrev axi := @List.getElem?_set
abbrev axj := @List.drop_eq_getElem_cons
abbrev axk := @List.findIdx?_eq_none_iff
abbrev axl := @Nat.mod_eq_of_lt
abbrev axn := @List.getElem?_range
abbrev axo := @List.getElem?_cons_zero
abbrev axp := @List.eq_nil_of_length_eq_zero
abbrev axq := @List.take_add_one
abbrev axr := @Nat.div_eq_of_lt
abbrev axt := @Nat.add_assoc
abbrev axu := @List.any_cons
abbrev axv := @Nat.add_mul
abbrev axw := @List.nodup_cons
abbrev axx := @Nat.pow_succ
abbrev axy := @Option.map_eq_some_iff
abbrev axz := @Array.getElem?_eq_none
abbrev axA := @Int.le_refl
abbrev axB := @List.drop_eq_nil_of_le
abbrev axC := @Bool.or_false
abbrev axD := @List.range'_succ
abbrev axE := @List.ext_getElem
abbrev axF := @List.mem_append_right
abbrev axG := @List.length_singleton
abbrev axH := @Bool.and_eq_false_iff
abbrev axI := @List.range_eq_range'
abbrev axJ := @List.length_nil
abbrev axK := @Nat.succ_mul
abbrev axL := @Nat.mul_comm
abbrev axM := @List.mem_append_left
abbrev axN := @List.any_append
abbrev axO := @List.any_nil
abbrev axP := @Bool.decide_and
abbrev axQ := @List.dropWhile_cons
abbrev axR := @Nat.pos_of_ne_zero
abbrev axS := @List.find?_eq_none
end Go
namespace Go.Sx
open Go
inductive PV:Type
 | val (v:Value)
 | seq (n:Nat) (f:Nat→List PV)
 | pt (l:List PV) (off:Nat)
 | agg (l:List PV)
 | tup (l:List PV)
 | fn (f:Nat) (capt:List PV)
 | arr (n:Nat) (f:Nat→PV)
 | bnd (f:Nat) (l:List PV)
inductive MK:Type
 | int (a:Int)
 | str (s:ByteArray)
 | bools (l:List Bool)
inductive dU:Type
 | int (k:IntKind)
 | str
 | bools (n:Nat)
def fF (l:List Bool):Array Value:=(l.map Value.bool).toArray
def dU.val:dU→MK→Value
 | .int k,.int a=>.int k a
 | .str,.str s=>.string s
 | .bools _,.bools l=>.agg (fF l)
 | _,_=>undef
def dU.ok:dU→MK→Prop
 | .int _,.int _=>True
 | .str,.str _=>True
 | .bools n,.bools l=>l.length=n
 | _,_=>False
inductive SV:Type
 | p (fresh:Bool) (d:PV)
 | own (i off:Nat)
 | el (i sz j off:Nat)
 | row (i:Nat)
 | sub (i sz lo n:Nat)
 | agg (l:List SV)
 | tup (l:List SV)
 | fn (f:Nat) (capt:List SV)
 | full (n:Nat) (f:Nat→List PV)
 | any
 | asl (i N lo n:Nat)
 | mp (i:Nat)
 | bnd (f:Nat) (l:List SV)
inductive Ob:Type
 | cells (T:TypeId) (cs:List SV)
 | row (T:TypeId) (sz n:Nat) (f:Nat→List PV)
 | arr (T:TypeId) (n:Nat) (f:Nat→PV)
 | map (kt:dU) (n:Nat) (get:MK→Option PV)
structure Env where
 hd:Nat→Option Value
 mem:Nat→Option (Array Value)
 tm:Nat→Prop
 ws:World
 I:Nat→Prop
 k:Option Nat
def Env.mine (E:Env) (b:Nat):Prop:=E.ws.heap.size≤b∨E.I b
open Classical in
noncomputable def Env.m (E:Env):Bool→Nat→Option (Array Value)
 | true,b=>if E.tm b then E.mem b else none
 | false,b=>E.mem b
inductive aS (μ:Nat→Option (Array Value)):Value→PV→Prop
 | val (v:Value):aS μ v (.val v)
 | nil (f):aS μ (.slice none 0 0) (.seq 0 f)
 | emp (a cap f):aS μ (.slice (some a) 0 cap) (.seq 0 f)
 | seq (b o n cap sz:Nat) (f:Nat→List PV) (cs:Array Value) (u:Nat→Nat→Value) (hm:μ b=some cs) (hcap:n≤cap) (hmax:n≤maxLen)
   (hl:∀j,j<n→(f j).length=sz)
   (hc:∀j k s,j<n→(f j)[k]?=some s→cs[o+(j*sz+k)]?=some (u j k)∧(u j k).oneCell'=true)
   (he:∀j k s,j<n→(f j)[k]?=some s→aS μ (u j k) s):aS μ (.slice (some ⟨b,o,none⟩) n cap) (.seq n f)
 | pt (b o off:Nat) (l:List PV) (cs:Array Value) (u:Nat→Value) (hm:μ b=some cs)
   (hc:∀k s,l[k]?=some s→cs[o+k]?=some (u k)∧(u k).oneCell'=true)
   (he:∀k s,l[k]?=some s→aS μ (u k) s):aS μ (.pointer (some ⟨b,o+off,none⟩)) (.pt l off)
 | agg (vs:Array Value) (l:List PV) (hl:vs.size=l.length) (h1:∀(k:Nat) (u:Value),vs[k]?=some u→u.oneCell'=true)
   (he:∀(k:Nat) (u:Value) (s:PV),vs[k]?=some u→l[k]?=some s→aS μ u s):aS μ (.agg vs) (.agg l)
 | tup (vs:Array Value) (l:List PV) (hl:vs.size=l.length)
   (he:∀(k:Nat) (u:Value) (s:PV),vs[k]?=some u→l[k]?=some s→aS μ u s):aS μ (.tuple vs) (.tup l)
 | fn (f:Nat) (vs:Array Value) (l:List PV) (hl:vs.size=l.length)
   (he:∀(k:Nat) (u:Value) (s:PV),vs[k]?=some u→l[k]?=some s→aS μ u s):aS μ (.func (.func f) #[] vs) (.fn f l)
 | arr (vs:Array Value) (n:Nat) (f:Nat→PV) (u:Nat→Value) (hs:vs.size=n) (hc:∀k,k<n→vs[k]?=some (u k)∧(u k).oneCell'=true)
   (he:∀k,k<n→aS μ (u k) (f k)):aS μ (.agg vs) (.arr n f)
 | bnd (f:Nat) (vs:Array Value) (l:List PV) (hl:vs.size=l.length)
   (he:∀(k:Nat) (u:Value) (s:PV),vs[k]?=some u→l[k]?=some s→aS μ u s):aS μ (.func (.func f) vs #[]) (.bnd f l)
def vT:Value→Bool
 | .slice _ _ _=>true
 | _=>false
inductive aL (E:Env):Value→SV→Prop
 | p (fr:Bool) (v:Value) (d:PV) (h:aS (E.m fr) v d):aL E v (.p fr d)
 | own (i off b:Nat) (h:E.hd i=some (.pointer (some ⟨b,0,none⟩))):aL E (.pointer (some ⟨b,off,none⟩)) (.own i off)
 | el (i sz j off b n cap:Nat) (h:E.hd i=some (.slice (some ⟨b,0,none⟩) n cap)):aL E (.pointer (some ⟨b,j*sz+off,none⟩)) (.el i sz j off)
 | row (i:Nat) (v:Value) (h:E.hd i=some v) (hs:vT v=true):aL E v (.row i)
 | sub (i sz lo n b n' cap c:Nat) (a:Addr) (h:E.hd i=some (.slice (some ⟨b,0,none⟩) n' cap)) (hle:lo+n≤n') (hc:n≤c) (hr:n'≤lo+c) (ha:0<c→a=⟨b,lo*sz,none⟩):aL E (.slice (some a) n c) (.sub i sz lo n)
 | agg (vs:Array Value) (l:List SV) (hl:vs.size=l.length) (h1:∀(k:Nat) (u:Value),vs[k]?=some u→u.oneCell'=true)
   (he:∀(k:Nat) (u:Value) (s:SV),vs[k]?=some u→l[k]?=some s→aL E u s):aL E (.agg vs) (.agg l)
 | tup (vs:Array Value) (l:List SV) (hl:vs.size=l.length)
   (he:∀(k:Nat) (u:Value) (s:SV),vs[k]?=some u→l[k]?=some s→aL E u s):aL E (.tuple vs) (.tup l)
 | fn (f:Nat) (vs:Array Value) (l:List SV) (hl:vs.size=l.length)
   (he:∀(k:Nat) (u:Value) (s:SV),vs[k]?=some u→l[k]?=some s→aL E u s):aL E (.func (.func f) #[] vs) (.fn f l)
 | full (a:Option Addr) (n:Nat) (f:Nat→List PV) (h:aS (E.m false) (.slice a n n) (.seq n f)):aL E (.slice a n n) (.full n f)
 | any (v:Value):aL E v .any
 | asl (i N lo n b c:Nat) (a:Addr) (h:E.hd i=some (.pointer (some ⟨b,0,none⟩))) (hle:lo+n≤N) (hc:n≤c) (ha:0<c→a=⟨b,lo,none⟩):aL E (.slice (some a) n c) (.asl i N lo n)
 | mp (i r:Nat) (h:E.hd i=some (.map (some r))):aL E (.map (some r)) (.mp i)
 | bnd (f:Nat) (vs:Array Value) (l:List SV) (hl:vs.size=l.length)
   (he:∀(k:Nat) (u:Value) (s:SV),vs[k]?=some u→l[k]?=some s→aL E u s):aL E (.func (.func f) vs #[]) (.bnd f l)
theorem aS.mono {μ μ':Nat→Option (Array Value)} (hμ:∀b cs,μ b=some cs→μ' b=some cs) {v:Value} {d:PV} (h:aS μ v d):aS μ' v d:=by
 induction h with
 | val v=>exact .val v
 | nil f=>exact .nil f
 | emp a c f=>exact .emp a c f
 | seq b o n cap sz f cs u hm hcap hmax hl hc _ ih=>exact .seq b o n cap sz f cs u (hμ _ _ hm) hcap hmax hl hc ih
 | pt b o off l cs u hm hc _ ih=>exact .pt b o off l cs u (hμ _ _ hm) hc ih
 | agg vs l hl h1 _ ih=>exact .agg vs l hl h1 ih
 | tup vs l hl _ ih=>exact .tup vs l hl ih
 | fn f vs l hl _ ih=>exact .fn f vs l hl ih
 | arr vs n f u hs hc _ ih=>exact .arr vs n f u hs hc ih
 | bnd f vs l hl _ ih=>exact .bnd f vs l hl ih
structure Env.Le (E E':Env):Prop where
 hd:∀i v,E.hd i=some v→E'.hd i=some v
 mem:∀b cs,E.mem b=some cs→E'.mem b=some cs
 base:E'.tm=E.tm
theorem Env.Le.refl (E:Env):E.Le E:=⟨fun _ _ h=>h,fun _ _ h=>h,rfl⟩
theorem Env.Le.trans {A B C:Env} (h:A.Le B) (k:B.Le C):A.Le C:=⟨fun i v x=>k.hd _ _ (h.hd _ _ x),fun b c x=>k.mem _ _ (h.mem _ _ x),k.base.trans h.base⟩
theorem Env.Le.m {E E':Env} (h:E.Le E') (fr:Bool):∀b cs,E.m fr b=some cs→E'.m fr b=some cs:=by
 intro b cs hb
 cases fr with
 | false=>exact h.mem _ _ hb
 | true=>
  simp only[Env.m] at hb ⊢
  rw[h.base]
  split at hb
  ·rename_i hx;rw[if_pos hx];exact h.mem _ _ hb
  ·cases hb
theorem Env.avg (E:Env):∀b cs,E.m true b=some cs→E.m false b=some cs:=by
 grind [Env.m]
theorem Env.fC (E:Env) (fr:Bool):∀b cs,E.m fr b=some cs→E.m false b=some cs:=by
 cases fr
 ·grind
 ·exact E.avg
theorem aL.mono {E E':Env} (hE:E.Le E') {v:Value} {s:SV} (h:aL E v s):aL E' v s:=by
 induction h with
 | p fr v d h=>exact .p fr v d (h.mono (hE.m fr))
 | own i off b h=>exact .own i off b (hE.hd _ _ h)
 | el i sz j off b n cap h=>exact .el i sz j off b n cap (hE.hd _ _ h)
 | row i v h hs=>exact .row i v (hE.hd _ _ h) hs
 | sub i sz lo n b n' cap c a h hle hc hr ha=>exact .sub i sz lo n b n' cap c a (hE.hd _ _ h) hle hc hr ha
 | agg vs l hl h1 _ ih=>exact .agg vs l hl h1 ih
 | tup vs l hl _ ih=>exact .tup vs l hl ih
 | fn f vs l hl _ ih=>exact .fn f vs l hl ih
 | full a n f h=>exact .full a n f (h.mono (hE.m false))
 | any v=>exact .any v
 | asl i N lo n b c a h hle hc ha=>exact .asl i N lo n b c a (hE.hd _ _ h) hle hc ha
 | mp i r h=>exact .mp i r (hE.hd _ _ h)
 | bnd f vs l hl _ ih=>exact .bnd f vs l hl ih
def aM:Value→Option Nat
 | .pointer (some a)=>some a.block
 | .slice (some a) _ _=>some a.block
 | .map (some r)=>some r
 | _=>none
def Env.blk (E:Env) (i:Nat):Option Nat:=(E.hd i).bind aM
def adY (μ:Nat→Option (Array Value)) (es:Array MapEntry) (kt:dU) (get:MK→Option PV):Prop:=∀k,kt.ok k →
 (∀d,get k=some d→∃x∈es.toList,x.key=kt.val k∧x.val.oneCell'=true∧aS μ x.val d)∧(get k=none→∀x∈es.toList,x.key≠kt.val k)
theorem adY.mono {μ μ':Nat→Option (Array Value)} (hμ:∀b cs,μ b=some cs→μ' b=some cs) {es:Array MapEntry} {kt:dU} {get:MK→Option PV} (h:adY μ es kt get):adY μ' es kt get:=
 fun k hk=>⟨fun d hd=>by obtain ⟨x,h1,h2,h3,h4⟩:=(h k hk).1 d hd;exact ⟨x,h1,h2,h3,h4.mono hμ⟩,(h k hk).2⟩
inductive dP (E:Env) (w:World) (i:Nat):Ob→Prop
 | cells (b:Nat) (T:TypeId) (vs:Array Value) (cs:List SV) (hh:E.hd i=some (.pointer (some ⟨b,0,none⟩)))
   (hw:w.heap[b]?=some (.cells vs T (0,0))) (hl:vs.size=cs.length) (h1:∀(k:Nat) (u:Value),vs[k]?=some u→u.oneCell'=true)
   (he:∀(k:Nat) (u:Value) (s:SV),vs[k]?=some u→cs[k]?=some s→aL E u s):dP E w i (.cells T cs)
 | row (T:TypeId) (sz n:Nat) (f:Nat→List PV) (v:Value) (xs:List Value) (u:Nat→Nat→Value) (hh:E.hd i=some v) (hw:w.ownsRow 0 T sz v n xs) (hmax:n≤maxLen)
   (hl:∀j,j<n→(f j).length=sz)
   (hc:∀j k s,j<n→(f j)[k]?=some s→xs[j*sz+k]?=some (u j k)∧(u j k).oneCell'=true)
   (he:∀j k s,j<n→(f j)[k]?=some s→aS E.mem (u j k) s):dP E w i (.row T sz n f)
 | arr (b:Nat) (T:TypeId) (vs:Array Value) (n:Nat) (f:Nat→PV) (u:Nat→Value) (hh:E.hd i=some (.pointer (some ⟨b,0,none⟩)))
   (hw:w.heap[b]?=some (.cells vs T (0,0))) (hs:vs.size=n∧n≤1000) (hc:∀k,k<n→vs[k]?=some (u k)∧(u k).oneCell'=true)
   (he:∀k,k<n→aS E.mem (u k) (f k)):dP E w i (.arr T n f)
 | map (r:Nat) (es:Array MapEntry) (clock:Nat) (kt:dU) (n:Nat) (get:MK→Option PV) (hh:E.hd i=some (.map (some r)))
   (hw:w.heap[r]?=some (.map es clock)) (hn:es.size=n) (hk:∀x∈es.toList,∃k,kt.ok k∧x.key=kt.val k) (hnd:(es.toList.map (·.key)).Nodup)
   (hg:adY E.mem es kt get):dP E w i (.map kt n get)
theorem dP.mono {E E':Env} (hE:E.Le E') {w:World} {i:Nat} {o:Ob} (h:dP E w i o):dP E' w i o:=by
 cases h with
 | cells b T vs cs hh hw hl h1 he=>exact .cells b T vs cs (hE.hd _ _ hh) hw hl h1 fun k u s a b=>(he k u s a b).mono hE
 | row T sz n f v xs u hh hw hmax hl hc he=>exact .row T sz n f v xs u (hE.hd _ _ hh) hw hmax hl hc fun j k s a b=>(he j k s a b).mono hE.mem
 | arr b T vs n f u hh hw hs hc he=>exact .arr b T vs n f u (hE.hd _ _ hh) hw hs hc fun k hk=>(he k hk).mono hE.mem
 | map r es clock kt n get hh hw hn hk hnd hg=>exact .map r es clock kt n get (hE.hd _ _ hh) hw hn hk hnd (hg.mono hE.mem)
theorem dP.world {E:Env} {w w':World} {i:Nat} {o:Ob} (h:dP E w i o) (hw:∀b,E.blk i=some b→w'.heap[b]?=w.heap[b]?):dP E w' i o:=by
 cases h with
 | cells b T vs cs hh hh2 hl h1 he=>exact .cells b T vs cs hh ((hw b (by grind [Env.blk,aM])).trans hh2) hl h1 he
 | row T sz n f v xs u hh hw2 hmax hl hc he=>
  refine .row T sz n f v xs u hh ⟨hw2.1,?_⟩ hmax hl hc he
  rcases hw2.2 with h | ⟨g,cap,cur,hv,hb,hg,rest⟩
  all_goals grind [Env.blk,aM]
 | arr b T vs n f u hh hw2 hs hc he=>exact .arr b T vs n f u hh ((hw b (by grind [Env.blk,aM])).trans hw2) hs hc he
 | map r es clock kt n get hh hw2 hn hk hnd hg=>exact .map r es clock kt n get hh ((hw r (by grind [Env.blk,aM])).trans hw2) hn hk hnd hg
structure St where
 fr:List (Nat×SV)
 ob:List (Nat×Option Ob)
 no:Nat
 k:Option Nat
def look {α:Type}:List (Nat×α)→Nat→Option α
 | [],_=>none
 | (k,v) :: l,t=>cond (k.beq t) (some v) (look l t)
def St.get (st:St) (t:Nat):SV:=match look st.fr t with | some s=>s | none=>.any
def St.obj (st:St) (i:Nat):Option Ob:=match look st.ob i with | some o=>o | none=>none
theorem bq {α:Type} (l:List (Nat×α)) (k:Nat) (v:α) (t:Nat):look ((k,v) :: l) t=if k=t then some v else look l t:=by
 simp_all [look]
structure Ctx where
 w0:World
 bor:Nat→Prop
 mem0:Nat→Option (Array Value)
 base:Nat
 nt:Nat
 hd0:Nat→Option Value
 m:Nat
 ro:Nat
 kh:Nat
 wk:World
 nm:Bool
 J:Option Nat→(Nat→Prop)→World→Prop
 tm:Nat→Prop
open Classical in
noncomputable def Ctx.agI (C:Ctx) (b:Nat):Option (Array Value):=if C.tm b then C.mem0 b else none
structure Fr (C:Ctx) (E:Env) (w:World):Prop where
 os:w.os=C.w0.os
 tape:w.tape=C.w0.tape
 output:w.output=C.w0.output
 bsz:C.base≤E.ws.heap.size
 wsz:E.ws.heap.size≤w.heap.size
 wos:E.ws.os=C.w0.os∧E.ws.tape=C.w0.tape∧E.ws.output=C.w0.output
 isz:∀b,E.I b→b<E.ws.heap.size
 block:∀k,k<E.ws.heap.size→¬E.I k→w.heap[k]?=E.ws.heap[k]?
 sync:C.J E.k E.I E.ws
structure bg (C:Ctx) (E:Env) (st:St) (w:World):Prop where
 ob:∀i o,st.obj i=some o→dP E w i o
 sep:∀i j o o' b,st.obj i=some o→st.obj j=some o'→E.blk i=some b→E.blk j=some b→i=j
 own:∀i o b,st.obj i=some o→E.blk i=some b→E.mem b=none∧(C.base≤b∨(i<C.m∧(C.bor b∨i<C.ro)))∧(E.mine b∨(i<C.m∧i<C.ro))
 mem:∀b cs,E.mem b=some cs→∃T fr,w.heap[b]?=some (.cells cs T fr)
 mem0:∀b cs,C.mem0 b=some cs→E.mem b=some cs
 memnew:∀b cs,E.mem b=some cs→C.mem0 b=some cs∨(C.base≤b∧E.mine b)
 new:∀i,st.no≤i→E.hd i=none
 base:E.tm=C.tm
 fr:Fr C E w
 hd0:∀k,k<C.kh→E.hd k=C.hd0 k
 mno:C.kh≤st.no
 mkh:C.m≤C.kh
 kk:E.k=st.k
def stC:Obj→Bool
 | .cells _ _ _=>true
 | .map _ _=>true
 | _=>false
def jm (w w':World):Prop:=∀(D:Nat) (o:Obj),w.heap[D]?=some o→stC o=false→w'.heap[D]?=some o
theorem jm.refl (w:World):jm w w:=fun _ _ h _=>h
def Marks (C:Ctx) (E:Env) (a:Act) (w:World):Prop:=
 jm C.wk w∧∃l:List Nat,(C.nm=true→l=[])∧a.defers=l.map (fun D=>{ target:=.collected D,args:=#[] })∧l.Nodup∧∀D,D∈l→(C.base≤D∧E.mine D)∧w.heap[D]?=some (.deferred (some []))
theorem Marks.keep {C:Ctx} {E E':Env} {a:Act} {w w':World} (h:Marks C E a w) (hs:E'.ws=E.ws∧E'.I=E.I) (hk:jm w w'):Marks C E' a w':=by
 obtain ⟨h0,l,hl,h1,h2,h3⟩:=h
 exact ⟨fun D o hD ho=>hk D o (h0 D o hD ho) ho,l,hl,h1,h2,fun D hD=>⟨⟨(h3 D hD).1.1,by grind [Env.mine]⟩,hk D _ (h3 D hD).2 rfl⟩⟩
structure av (C:Ctx) (E:Env) (st:St) (a:Act) (w:World):Prop where
 size:a.tmps.size=C.nt
 slot:∀t,aL E (a.tmps.getD t undef) (st.get t)
 heap:bg C E st w
 marks:Marks C E a w
def St.put (st:St) (t:Nat) (s:SV):St:={ st with fr:=(t,s) :: st.fr }
theorem get_put (st:St) (t t':Nat) (s:SV):(st.put t s).get t'=if t=t' then s else st.get t':=by
 grind [St.put,St.get,bq]
theorem av.put {C:Ctx} {E:Env} {st:St} {a:Act} {w:World} (h:av C E st a w) {t:Nat} {s:SV} {v:Value} (ht:t<C.nt) (hs:aL E v s) :
  av C E (st.put t s) (a.put (some t) v) w:=by
 refine ⟨by simp[Act.put,h.size],fun t'=>?_,⟨h.heap.ob,h.heap.sep,h.heap.own,h.heap.mem,h.heap.mem0,h.heap.memnew,h.heap.new,h.heap.base,h.heap.fr,h.heap.hd0,h.heap.mno,h.heap.mkh,h.heap.kk⟩,h.marks⟩
 rw[get_put]
 simp only[Act.put,ac9,Array.getElem?_setIfInBounds]
 by_cases e:t=t'
 ·subst e;rw[if_pos rfl,if_pos rfl,if_pos (by rw[h.size];exact ht)];exact hs
 ·rw[if_neg e,if_neg e]
  have:=h.slot t'
  simp_all
def St.agt (st:St):Option Nat→SV→St
 | some t,s=>st.put t s
 | none,_=>st
def bY (C:Nat):Option Nat→Bool
 | some t=>Nat.blt t C
 | none=>true
theorem av.agt {C:Ctx} {E:Env} {st:St} {a:Act} {w:World} (h:av C E st a w) {t:Option Nat} {s:SV} {v:Value} (ht:bY C.nt t=true) (hs:aL E v s) :
  av C E (st.agt t s) (a.put t v) w:=by
 cases t with
 | none=>exact h
 | some t=>exact h.put (by grind [bY,Nat.blt_eq]) hs
inductive TD:Type
 | int (k:IntKind)
 | bool
 | string
 | slice (e:Nat)
 | array (n e:Nat)
 | struct (fs:List (Nat×Nat))
 | map (k e:Nat)
 | other
def TD.isAgg:TD→Bool
 | .struct _=>true
 | .array _ _=>true
 | _=>false
structure TI where
 desc:TD
 size:Nat
 bytes:Nat
 zero:List Value
abbrev Tab := List (Nat × TI)
def sJ (fs:Array Field):List (Nat×Nat):=fs.toList.map fun f=>(f.offset,f.type)
def TD.Ok (P:Program) (t:Nat):TD→Prop
 | .int k=>P.underlying t=some (.int k)
 | .bool=>P.underlying t=some .bool
 | .string=>P.underlying t=some .string
 | .slice e=>P.underlying t=some (.slice e)
 | .array n e=>P.underlying t=some (.array n e)
 | .struct l=>∃fs,P.underlying t=some (.struct fs)∧sJ fs=l∧P.stoodInHeld t=false∧(fs.all fun f=>f.name != "_")=true∧P.eqGuardType P.depth t=false∧(fs.all fun f=>(P.info? f.type).isSome)=true
 | .map k e=>P.underlying t=some (.map k e)
 | .other=>∃d,P.underlying t=some d∧(∀fs,d≠.struct fs)∧(∀n e,d≠.array n e)
structure TI.Ok (P:Program) (t:Nat) (i:TI):Prop where
 desc:i.desc.Ok P t
 info:∃I:TypeInfo,P.info? t=some I∧I.size=i.size∧I.bytes=i.bytes∧∃z,I.zero=some z∧z.cells.toList=i.zero∧(∀(k:Nat) (u:Value),z.cells[k]?=some u→u.oneCell'=true)∧z.cells.size=i.size
 flat:i.desc.isAgg=false→∃(I:TypeInfo) (z:Value),P.info? t=some I∧I.zero=some z∧z.cells=#[z]
def Tab.Ok (P:Program) (Tb:Tab):Prop:=∀t i,look Tb t=some i→i.Ok P t
inductive BR:Type
 | ok (v:Value)
 | need (p:Prop) (v:Value)
 | no
def ze (op:BinOp) (k:IntKind) (a b:Int):BR:=
 match op with
 | .add=>.ok (.int k (k.wrap (a+b)))
 | .sub=>.ok (.int k (k.wrap (a-b)))
 | .mul=>.ok (.int k (k.wrap (a*b)))
 | .quo=>.need (b≠0) (.int k (k.wrap (a.tdiv b)))
 | .rem=>.need (b≠0) (.int k (a.tmod b))
 | .and=>.ok (.int k (bits .and k a b))
 | .or=>.ok (.int k (bits .or k a b))
 | .xor=>.ok (.int k (bits .xor k a b))
 | .andNot=>.ok (.int k (bits .andNot k a b))
 | .eql=>.ok (.bool (a==b))
 | .neq=>.ok (.bool (a != b))
 | .lss=>.ok (.bool (decide (a<b)))
 | .leq=>.ok (.bool (decide (a≤b)))
 | .gtr=>.ok (.bool (decide (b<a)))
 | .geq=>.ok (.bool (decide (b≤a)))
 | .shl=>.need (0≤b) (.int k (k.wrap (a*2 ^ (min b.toNat k.bits))))
 | .shr=>.need (0≤b) (.int k (a.fdiv (2 ^ (min b.toNat k.bits))))
def ai6 (op:BinOp) (x y:ByteArray):BR:=
 match op with
 | .add=>.need (((x.size+y.size:Nat):Int)≤9223372036854775807) (.string (x++y))
 | .eql=>.ok (.bool (x.data.toList==y.data.toList))
 | .neq=>.ok (.bool (!(x.data.toList==y.data.toList)))
 | .lss=>.ok (.bool (Op.bytesLess x.data.toList y.data.toList))
 | .leq=>.ok (.bool (Op.bytesLess x.data.toList y.data.toList||x.data.toList==y.data.toList))
 | .gtr=>.ok (.bool (!(Op.bytesLess x.data.toList y.data.toList||x.data.toList==y.data.toList)))
 | .geq=>.ok (.bool (!Op.bytesLess x.data.toList y.data.toList))
 | _=>.no
def amc (op:BinOp) (x y:Bool):BR:=
 match op with
 | .eql=>.ok (.bool (x==y))
 | .neq=>.ok (.bool (!(x==y)))
 | _=>.no
def sameKind:IntKind→IntKind→Bool
 | .i8,.i8 | .i16,.i16 | .i32,.i32 | .i64,.i64 | .u8,.u8 | .u16,.u16 | .u32,.u32 | .u64,.u64=>true
 | _,_=>false
def ku (Tb:Tab):List (Nat×Nat)→Nat→List PV→List PV→Option Bool
 | [],_,[],[]=>some true
 | (off,t) :: fs,n,.val x :: xs,.val y :: ys=>
  cond (off.beq n) (match look Tb t,x,y with
   | some ⟨.int _,_,_,_⟩,.int k a,.int k' b=>cond (sameKind k k') ((ku Tb fs (n+1) xs ys).map fun r=>(a==b)&&r) none
   | some ⟨.bool,_,_,_⟩,.bool a,.bool b=>(ku Tb fs (n+1) xs ys).map fun r=>(a==b)&&r
   | some ⟨.string,_,_,_⟩,.string a,.string b=>(ku Tb fs (n+1) xs ys).map fun r=>(a.data.toList==b.data.toList)&&r
   | _,_,_=>none) none
 | _,_,_,_=>none
def wL:Nat→List PV→List PV→Option Bool
 | 0,[],[]=>some true
 | n+1,.val (.int k a) :: xs,.val (.int k' b) :: ys=>cond (sameKind k k') ((wL n xs ys).map fun r=>(a==b)&&r) none
 | _,_,_=>none
def uf:Nat→List PV→List PV→Option Bool
 | 0,[],[]=>some true
 | n+1,.val (.bool a) :: xs,.val (.bool b) :: ys=>(uf n xs ys).map fun r=>(a==b)&&r
 | _,_,_=>none
def pW (g:Nat→PV):Nat→Nat→List PV
 | _,0=>[]
 | i,n+1=>g i :: pW g (i+1) n
def iJ (n:Nat) (g:Nat→PV):List PV:=pW g 0 n
def binop (Tb:Tab) (op:BinOp) (t:Nat) (x y:SV):BR:=
 match x,y with
 | .p _ (.val (.int k a)),.p _ (.val (.int k' b))=>
  match op with
  | .shl=>ze op k a b
  | .shr=>ze op k a b
  | _=>cond (sameKind k k') (ze op k a b) .no
 | .p _ (.val (.string a)),.p _ (.val (.string b))=>ai6 op a b
 | .p _ (.val (.bool a)),.p _ (.val (.bool b))=>
  match look Tb t with
  | some ⟨.bool,_,_,_⟩=>amc op a b
  | _=>.no
 | .p _ (.agg xs),.p _ (.agg ys)=>
  match look Tb t with
  | some ⟨.struct fs,_,_,_⟩=>
   match op with
   | .eql=>match ku Tb fs 0 xs ys with | some r=>.ok (.bool r) | none=>.no
   | .neq=>match ku Tb fs 0 xs ys with | some r=>.ok (.bool (!r)) | none=>.no
   | _=>.no
  | some ⟨.array n e,_,_,_⟩=>match look Tb e with
   | some ⟨.int _,1,_,_⟩=>match op with
    | .eql=>match wL n xs ys with | some r=>.ok (.bool r) | none=>.no
    | .neq=>match wL n xs ys with | some r=>.ok (.bool (!r)) | none=>.no
    | _=>.no
   | _=>.no
  | _=>.no
 | .p _ (.arr m f),.p _ (.arr m' g)=>
  match look Tb t with
  | some ⟨.array n e,_,_,_⟩=>match (n.beq m).and (n.beq m'),look Tb e with
   | true,some ⟨.bool,1,_,_⟩=>match op with
    | .eql=>match uf n (iJ n f) (iJ n g) with | some r=>.ok (.bool r) | none=>.no
    | .neq=>match uf n (iJ n f) (iJ n g) with | some r=>.ok (.bool (!r)) | none=>.no
    | _=>.no
   | _,_=>.no
  | _=>.no
 | _,_=>.no
def unop (op:UnOp) (x:SV):BR:=
 match op,x with
 | .neg,.p _ (.val (.int k n))=>.ok (.int k (k.wrap (0-n)))
 | .not,.p _ (.val (.bool b))=>.ok (.bool (!b))
 | .xor,.p _ (.val (.int k n))=>.ok (.int k (bits .xor k (cond k.signed (-1) k.max) n))
 | _,_=>.no
def w9:List SV→Option (Bool×List PV)
 | []=>some (true,[])
 | .p b d :: l=>match w9 l with
  | some (c,ds)=>some (b&&c,d :: ds)
  | none=>none
 | _=>none
def oM (l:List SV):SV:=
 match w9 l with
 | some (b,ds)=>.p b (.agg ds)
 | none=>.agg l
def su (size:Nat):TD→Option Nat
 | .array n _=>match ((Nat.blt 5 n).and (Nat.ble n 1000)).and (size.beq n) with
  | true=>some n
  | false=>none
 | _=>none
def nH (l:List PV) (k:Nat):PV:=match l with
 | []=>.val undef
 | d :: l=>match k with
  | 0=>d
  | k+1=>nH l k
def adV (n:Nat):SV→Option (Bool×(Nat→PV))
 | .p b (.arr n' g)=>match n'.beq n with
  | true=>some (b,g)
  | false=>none
 | .p b (.agg l)=>match l.length.beq n with
  | true=>some (b,nH l)
  | false=>none
 | _=>none
def fG (b:Bool):List PV→List SV
 | []=>[]
 | d :: l=>.p b d :: fG b l
def cellsOf:SV→Option (List SV)
 | .p b (.agg l)=>some (fG b l)
 | .p _ (.tup _)=>none
 | .p b (.val v)=>match v with
  | .agg _=>none
  | .tuple _=>none
  | v=>some [.p b (.val v)]
 | .p b (.arr n g)=>some (fG b (iJ n g))
 | .p b d=>some [.p b d]
 | .agg l=>some l
 | .tup _=>none
 | .any=>none
 | .sub _ _ _ _=>none
 | .full _ _=>none
 | s=>some [s]
def takeN {α:Type}:Nat→List α→Option (List α)
 | 0,_=>some []
 | _+1,[]=>none
 | n+1,x :: l=>match takeN n l with
  | some r=>some (x :: r)
  | none=>none
def dH {α:Type}:Nat→List α→List α
 | 0,l=>l
 | _+1,[]=>[]
 | n+1,_ :: l=>dH n l
def nth {α:Type}:List α→Nat→Option α
 | [],_=>none
 | x :: _,0=>some x
 | _ :: l,n+1=>nth l n
def splice:List SV→Nat→List SV→Option (List SV)
 | cs,0,[]=>some cs
 | _ :: cs,0,x :: new=>match splice cs 0 new with
  | some r=>some (x :: r)
  | none=>none
 | c :: cs,n+1,new=>match splice cs n new with
  | some r=>some (c :: r)
  | none=>none
 | _,_,_=>none
def dA (agg:Bool) (size off:Nat) (cs:List SV):Option SV:=
 match agg with
 | true=>match takeN size (dH off cs) with
  | some l=>some (oM l)
  | none=>none
 | false=>nth cs off
def ofConst:Value→SV
 | .agg cs=>match cs.toList.all (·.oneCell') with
  | true=>.p true (.agg (cs.toList.map .val))
  | false=>.any
 | .func (.func f) ⟨[]⟩ ⟨[]⟩=>.fn f []
 | v=>.p true (.val v)
def St.ev (st:St):Operand→SV
 | .tmp t=>st.get t
 | .const v=>ofConst v
 | .global _=>.any
 | .func f=>.fn f []
def St.alloc (st:St) (o:Ob):St:={ st with ob:=(st.no,some o) :: st.ob,no:=st.no+1 }
def St.eX (st:St) (i:Nat) (o:Option Ob):St:={ st with ob:=(i,o) :: st.ob }
def agC:PV→PV→Prop
 | .val (.slice none 0 0),.seq n _=>n=0
 | .val (.int k a),.val (.int k' b)=>match sameKind k k' with | true=>a=b | false=>False
 | .val (.bool a),.val (.bool b)=>a=b
 | .val (.string a),.val (.string b)=>a=b
 | .val a,.val b=>a=b
 | .seq n f,.seq n' f'=>n=n'∧∀k,k<n→f k=f' k
 | .pt l o,.pt l' o'=>l=l'∧o=o'
 | .fn f l,.fn f' l'=>f=f'∧l=l'
 | .bnd f l,.bnd f' l'=>f=f'∧l=l'
 | .arr n f,.arr n' f'=>n=n'∧∀k,k<n→f k=f' k
 | _,_=>False
def aar:List PV→List PV→Prop
 | [],[]=>True
 | [x],[y]=>agC x y
 | x :: xs,y :: ys=>agC x y∧aar xs ys
 | _,_=>False
def agv:PV→PV→Prop
 | .agg xs,.agg ys=>aar xs ys
 | x,y=>agC x y
def xH:List PV→List PV→Prop
 | [],[]=>True
 | [x],[y]=>agv x y
 | x :: xs,y :: ys=>agv x y∧xH xs ys
 | _,_=>False
def kY:PV→PV→Prop
 | .tup xs,.tup ys=>xH xs ys
 | x,y=>agv x y
structure Spec where
 A:Type
 args:A→List SV
 objs:A→List Ob
 pre:A→Prop
 res:A→PV
 objs':A→List Ob
 fresh:Bool
 ro:Nat
 inl:List Nat:=[]
 gl:List (Nat×Array Value):=[]
structure aY where
 P:Program
 Tb:Tab
 nt:Nat
 ro:Nat
 m:Nat
 rnd:Bool
 yl:Option (Nat×List (List PV))
 inl:List Nat
 gl:List (Nat×Array Value)
 nw:Bool
def anK (v:Value) (K:Value→Prop):Prop:=
 match v with
 | .int k n=>K (.int k n)
 | .bool b=>K (.bool b)
 | .string s=>K (.string s)
 | .slice a l c=>K (.slice a l c)
 | .pointer a=>K (.pointer a)
 | v=>K v
theorem anV (v:Value) (K:Value→Prop):anK v K=K v:=by cases v<;>rfl
def anS (d:PV) (K:PV→Prop):Prop:=
 match d with
 | .val v=>anK v fun v=>K (.val v)
 | .seq n f=>K (.seq n f)
 | .pt l o=>K (.pt l o)
 | .agg l=>K (.agg l)
 | .tup l=>K (.tup l)
 | .fn f l=>K (.fn f l)
 | .arr n f=>K (.arr n f)
 | .bnd f l=>K (.bnd f l)
theorem aon (d:PV) (K:PV→Prop):anS d K=K d:=by
 cases d with
 | val v=>exact anV v fun v=>K (.val v)
 | _=>rfl
def aoX (b:Bool) (K:Bool→Prop):Prop:=match b with | true=>K true | false=>K false
theorem aow (b:Bool) (K:Bool→Prop):aoX b K=K b:=by cases b<;>rfl
def adr (s:SV) (K:SV→Prop):Prop:=
 match s with
 | .p b d=>aoX b fun b=>anS d fun d=>K (.p b d)
 | .own i o=>K (.own i o)
 | .el i sz j o=>K (.el i sz j o)
 | .row i=>K (.row i)
 | .sub i sz lo n=>K (.sub i sz lo n)
 | .agg l=>K (.agg l)
 | .tup l=>K (.tup l)
 | .fn f l=>K (.fn f l)
 | .full n f=>K (.full n f)
 | .any=>K .any
 | .asl i N lo n=>K (.asl i N lo n)
 | .mp i=>K (.mp i)
 | .bnd f l=>K (.bnd f l)
theorem acQ (s:SV) (K:SV→Prop):adr s K=K s:=by
 cases s<;>first | rfl | grind [adr,aow,aon]
def aP (st:St) (d:Option Nat) (s:SV) (K:St→Prop):Prop:=
 adr s fun s=>match d,st with
  | some t,⟨fr,ob,no,k⟩=>K ⟨(t,s) :: fr,ob,no,k⟩
  | none,⟨fr,ob,no,k⟩=>K ⟨fr,ob,no,k⟩
theorem abb (st:St) (d:Option Nat) (s:SV) (K:St→Prop):aP st d s K=K (st.agt d s):=by
 unfold aP;rw[acQ];cases d<;>rfl
def rV (st:St) (d:Option Nat) (r:BR) (K:St→Prop):Prop:=
 match r with
 | .ok v=>aP st d (.p true (.val v)) K
 | .need p v=>p∧aP st d (.p true (.val v)) K
 | .no=>False
def oW:Bool→Prop→Prop→Prop
 | true,a,_=>a
 | false,_,b=>b
theorem gV {t:Bool} {A B:Prop} (h:t=true→A) (h':t=false→B):oW t A B:=by
 cases t
 ·exact h' rfl
 ·exact h rfl
theorem abS {t:Bool} {A B:Prop} (h:oW t A B):(t=true∧A)∨(t=false∧B):=by
 cases t
 ·exact .inr ⟨rfl,h⟩
 ·exact .inl ⟨rfl,h⟩
def uF (st:St) (o:Ob) (K:St→Nat→Prop):Prop:=
 match st with
 | ⟨fr,ob,no,k⟩=>K ⟨fr,(no,some o) :: ob,no+1,k⟩ no
theorem rD (st:St) (o:Ob) (K:St→Nat→Prop):uF st o K=K (st.alloc o) st.no:=rfl
def zeros (l:List Value):List SV:=match l with
 | []=>[]
 | v :: l=>.p true (.val v) :: zeros l
def uU (place:Nat→Option (Nat×Nat)) (st:St):List SV→List (Nat×Operand)→Option (List SV)
 | cs,[]=>some cs
 | cs,(i,x) :: rest=>
  match place i,cellsOf (st.ev x) with
  | some (off,size),some new=>
   match new.length.beq size with
   | true=>match splice cs off new with
    | some r=>uU place st r rest
    | none=>none
   | false=>none
  | _,_=>none
def wm (Tb:Tab) (fs:List (Nat×Nat)) (i:Nat):Option (Nat×Nat):=
 match nth fs i with
 | some (off,t)=>match look Tb t with
  | some ⟨_,size,_,_⟩=>some (off,size)
  | none=>none
 | none=>none
def aaT:Nat→List SV→List SV
 | 0,_=>[]
 | n+1,z=>z++aaT n z
def aU (sz:Nat) (l:List PV) (j:Nat):List PV:=match takeN sz (dH (j*sz) l) with
 | some r=>r
 | none=>[]
def afc (W:World) (b:Nat) (cs:Array Value):Prop:=∃T fr,W.heap[b]?=some (.cells cs T fr)
def aiB (μ:Nat→Option (Array Value)) (W:World):Prop:=∀b cs,μ b=some cs→afc W b cs
structure iY (I:Nat→Prop) (μ:Nat→Option (Array Value)) (W W':World):Prop where
 os:W'.os=W.os
 tape:W'.tape=W.tape
 output:W'.output=W.output
 size:W.heap.size≤W'.heap.size
 own:∀b,I b→W'.heap[b]?=W.heap[b]?
 mem:∀b cs,μ b=some cs→afc W b cs→afc W' b cs
def agq (J:Option Nat→(Nat→Prop)→World→Prop):Prop:=∀(k:Option Nat) (I I':Nat→Prop) (W W':World),J k I W→(∀b,I b→I' b)→(∀b,I' b→I b∨W.heap.size≤b)→(∀b,I' b→b<W'.heap.size) →
 W'.os=W.os→W'.tape=W.tape→W'.output=W.output→W.heap.size≤W'.heap.size→(∀b,b<W.heap.size→¬I b→W'.heap[b]?=W.heap[b]?)→J k I' W'
def ag1 (μ:Nat→Option (Array Value)) (us:Array Value) (x:List PV):Prop:=
 us.size=x.length∧∀(k:Nat) (u:Value) (s:PV),us[k]?=some u→x[k]?=some s→aS μ u s
def wH:Nat→List Ob→List (Nat×Option Ob)
 | _,[]=>[]
 | i,o :: l=>(i,some o) :: wH (i+1) l
def ow (l:List Ob):St:={ fr:=[],ob:=wH 0 l,no:=l.length,k:=none }
def nZ (hd:Nat→Option Value) (l:List Ob) (ro:Nat) (b:Nat):Prop:=∃(k:Nat) (o:Ob),ro≤k∧l[k]?=some o∧(hd k).bind aM=some b
def lM (w:World) (E:Env) (l:List Ob) (ro:Nat):Ctx:=
 { w0:=w,bor:=nZ E.hd l ro,mem0:=E.mem,base:=w.heap.size,nt:=0,hd0:=E.hd,m:=l.length,ro:=ro,kh:=l.length,wk:={ w with heap:=#[] },nm:=false,J:=fun k I ws=>k=none∧I=nZ E.hd l ro∧ws=w,tm:=fun b=>w.heap.size≤b }
def l8 (E:Env) (vs:Array Value) (l:List SV):Prop:=
 vs.size=l.length∧∀(k:Nat) (u:Value) (s:SV),vs[k]?=some u→l[k]?=some s→aL E u s
def Spec.post (S:Spec) (a:S.A):List Ob:=(S.objs a).take S.ro++S.objs' a
def ay (P:Program) (f:Nat) (S:Spec):Prop:=
 (∃fn,P.funcs[f]?=some fn∧fn.body.isSome=true∧(fn.name=="runtime.NumGoroutine")=false) ∧
 ∀(a:S.A),S.pre a→∀(E:Env) (vs:Array Value) (w:World),(∀p∈S.gl,E.mem p.1=some p.2) →
  bg (lM w E (S.objs a) S.ro) E (ow (S.objs a)) w→l8 E vs (S.args a) →
  Calls P f vs w fun e w'=>∃v E',e=.returned v∧aS (E'.m S.fresh) v (S.res a)∧bg (lM w E (S.objs a) S.ro) E' (ow (S.post a)) w'
structure uh where
 A:Type
 args:A→List SV
 pre:A→Prop
 T:TypeId
 vals:A→List Value
def fO (l:List Value) (k:Nat):List PV:=[.val (l.getD k undef)]
def aaV (P:Program) (f:Nat) (S:uh):Prop:=
 (∃fn,P.funcs[f]?=some fn∧fn.body.isSome=true∧(fn.name=="runtime.NumGoroutine")=false) ∧
 ∀(a:S.A),S.pre a→∀(E:Env) (vs:Array Value) (w:World),bg (lM w E [] 0) E (ow []) w→l8 E vs (S.args a) →
  Calls P f vs w fun e w'=>∃v,e=.returned v∧vT v=true∧Go.RowKit.Below w.heap.size w w'∧w'.ownsRow w.heap.size S.T 1 v (S.vals a).length (S.vals a)∧(S.vals a).length≤maxLen
structure aau (X:aY) (f:Nat) (args:List SV) (st:St) (K:SV→St→Prop):Prop where
 fn:∃fn,X.P.funcs[f]?=some fn∧fn.body.isSome=true∧(fn.name=="runtime.NumGoroutine")=false
 run:∀(C:Ctx) (E:Env) (vs:Array Value) (w:World),C.m=X.m→C.ro=X.ro→C.ro≤C.m→(∀i b,i<C.m→(C.hd0 i).bind aM=some b→b<C.base)→(∀p∈X.gl,C.mem0 p.1=some p.2)→(X.nw=true→∀b,C.base≤b→C.tm b)→bg C E st w→l8 E vs args →
  Calls X.P f vs w fun e w'=>∃v E' s st',e=.returned v∧aL E' v s∧(E.Le E'∧E'.ws=E.ws∧E'.I=E.I)∧bg C E' st' w'∧jm w w'∧K s st'
def iK (i:Nat):List Nat→Bool
 | []=>false
 | j :: l=>(i.beq j).or (iK i l)
def ain (st:St) (js:List Nat) (s:SV):Option PV:=
 match s with
 | .p _ d=>some d
 | .row i=>match iK i js,st.obj i with
  | false,some (.row _ _ n f)=>some (.seq n f)
  | _,_=>none
 | _=>none
def afs (st:St) (js:List Nat):List SV→Option (List PV)
 | []=>some []
 | s :: l=>match ain st js s,afs st js l with
  | some d,some ds=>some (d :: ds)
  | _,_=>none
def adJ (st:St) (js:List Nat) (s c:SV):Prop:=
 match c with
 | .own k off'=>match s with
  | .own i off=>nth js k=some i∧off=off'
  | _=>False
 | .row k=>match s with
  | .row i=>nth js k=some i
  | _=>False
 | .p false d=>match s with
  | .p _ d'=>kY d' d
  | .row i=>match iK i js,st.obj i with
   | false,some (.row _ _ n f)=>kY (.seq n f) d
   | _,_=>False
  | .asl i N lo n=>match iK i js,st.obj i with
   | false,some (.arr _ N' f)=>N'=N∧kY (.seq n (fun k=>[f (lo+k)])) d
   | _,_=>False
  | .agg l=>match afs st js l with
   | some ds=>kY (.agg ds) d
   | none=>False
  | _=>False
 | .mp k=>match s with
  | .mp i=>nth js k=some i
  | _=>False
 | .any=>True
 | _=>False
def wG (st:St) (js:List Nat):List SV→List SV→Prop
 | [],[]=>True
 | [s],[c]=>adJ st js s c
 | s :: ss,c :: cs=>adJ st js s c∧wG st js ss cs
 | _,_=>False
def acW (st:St) (js:List Nat) (s c:SV):Prop:=
 match c with
 | .fn f l=>match s with
  | .fn f' l'=>f'=f∧wG st js l' l
  | _=>False
 | c=>adJ st js s c
def nK (st:St) (js:List Nat):List SV→List SV→Prop
 | [],[]=>True
 | [s],[c]=>acW st js s c
 | s :: ss,c :: cs=>acW st js s c∧nK st js ss cs
 | _,_=>False
def yQ:SV→SV→Bool
 | .row _,.p _ _=>true
 | .asl _ _ _ _,.p _ _=>true
 | .agg _,.p _ _=>true
 | _,_=>false
def wN:List SV→List SV→Bool
 | .row _ :: l,.p _ _ :: m=>true
 | .asl _ _ _ _ :: l,.p _ _ :: m=>true
 | .agg _ :: l,.p _ _ :: m=>true
 | _ :: l,_ :: m=>wN l m
 | _,_=>false
def jO:List SV→List SV→Bool
 | .row _ :: _,.p _ _ :: _=>true
 | .asl _ _ _ _ :: _,.p _ _ :: _=>true
 | .agg _ :: _,.p _ _ :: _=>true
 | .fn _ l' :: l,.fn _ m' :: m=>(wN l' m').or (jO l m)
 | _ :: l,_ :: m=>jO l m
 | _,_=>false
def obM (st:St) (js:List Nat) (j:Nat) (o:Ob):Prop:=
 match o with
 | .cells T cs=>match st.obj j with
  | some (.cells T' cs')=>T'=T∧nK st js cs' cs
  | _=>False
 | .row T sz n f=>match st.obj j with
  | some (.row T' sz' n' f')=>T'=T∧sz'=sz∧n'=n∧∀k,k<n→f' k=f k
  | _=>False
 | .arr T n f=>match st.obj j with
  | some (.arr T' n' f')=>T'=T∧n'=n∧∀k,k<n→f' k=f k
  | _=>False
 | .map kt n get=>match st.obj j with
  | some (.map kt' n' get')=>kt'=kt∧n'=n∧∀k,get' k=get k
  | _=>False
def qh (st:St) (all:List Nat):List Nat→List Ob→Prop
 | [],[]=>True
 | [j],[o]=>obM st all j o
 | j :: js,o :: os=>obM st all j o∧qh st all js os
 | _,_=>False
def agZ (st:St) (j:Nat) (o:Ob):Bool:=
 match o with
 | .cells _ cs=>match st.obj j with
  | some (.cells _ cs')=>jO cs' cs
  | _=>false
 | _=>false
def kP (st:St):List Nat→List Ob→Bool
 | j :: js,o :: os=>(agZ st j o).or (kP st js os)
 | _,_=>false
def uD (js:List Nat):SV→SV
 | .own k off=>match nth js k with | some i=>.own i off | none=>.any
 | .row k=>match nth js k with | some i=>.row i | none=>.any
 | .p b d=>.p b d
 | .mp k=>match nth js k with | some i=>.mp i | none=>.any
 | _=>.any
def rC (js:List Nat):List SV→List SV
 | []=>[]
 | s :: l=>uD js s :: rC js l
def xO (js:List Nat):Ob→Ob
 | .cells T cs=>.cells T (rC js cs)
 | .row T sz n f=>.row T sz n f
 | .arr T n f=>.arr T n f
 | .map kt n get=>.map kt n get
def mh (all:List Nat):List Nat→List Ob→List (Nat×Option Ob)→List (Nat×Option Ob)
 | j :: js,o :: os,l=>mh all js os ((j,some (xO all o)) :: l)
 | _,_,l=>l
def distinct:List Nat→Bool
 | []=>true
 | j :: l=>(!(iK j l)).and (distinct l)
def lu (ro:Nat):List Nat→Bool
 | []=>true
 | j :: l=>(ro.ble j).and (lu ro l)
def abG:List SV→List SV→Prop
 | .p _ (.val v) :: l,.p _ (.val u) :: l'=>v=u∧abG l l'
 | [],[]=>True
 | _,_=>False
def aiw (st:St) (j:Nat) (o:Ob):Prop:=
 match o with
 | .cells T cs=>match st.obj j with
  | some (.cells T' cs')=>T=T'∧abG cs cs'
  | _=>False
 | _=>False
def acZ (st:St):List Nat→List Ob→Prop
 | [],_=>True
 | j :: js,o :: os=>aiw st j o∧acZ st js os
 | _,_=>False
def evs (st:St):List Operand→List SV
 | []=>[]
 | x :: l=>st.ev x :: evs st l
def arL:List Nat→Bool
 | []=>true
 | _=>false
def afj (X:aY) (gr:Bool) (f:Nat) (args:List SV) (dst:Option Nat) (st:St) (K:St→Prop):Prop:=
 ∃S:Spec,ay X.P f S∧∃(a:S.A) (js:List Nat),(distinct js=true∧(X.nw.or (arL (dH S.ro js))).and (lu X.ro (dH S.ro js))=true∧js.length=(S.objs a).length∧(S.objs' a).length=(dH S.ro js).length∧(gr=true→dH S.ro js=[]∨acZ st (dH S.ro js) (S.objs' a)) ∧
   ((jO args (S.args a)).or (kP st js (S.objs a))=true→S.fresh=true∧dH S.ro js=[])∧(S.gl=[]∨S.gl=X.gl)) ∧
  nK st js args (S.args a)∧qh st js js (S.objs a)∧S.pre a ∧
  match st with
  | ⟨fr,ob,no,k⟩=>aP ⟨fr,mh js (dH S.ro js) (S.objs' a) ob,no,k⟩ dst (.p (S.fresh.and X.nw) (S.res a)) K
def atU (X:aY) (f:Nat) (args:List SV) (dst:Option Nat) (st:St) (K:St→Prop):Prop:=
 ∃S:uh,aaV X.P f S∧∃a:S.A,nK st [] args (S.args a)∧S.pre a∧(∀v∈S.vals a,v.oneCell'=true) ∧
  match st with
  | ⟨fr,ob,no,k⟩=>aP ⟨fr,(no,some (.row S.T 1 (S.vals a).length (fO (S.vals a)))) :: ob,no+1,k⟩ dst (.row no) K
def aaB (X:aY) (gr:Bool) (f:Nat) (args:List SV) (dst:Option Nat) (st:St) (K:St→Prop):Prop:=
 match dst with
 | some t=>match iK (t+7000000) X.inl with
  | true=>atU X f args (some t) st K
  | false=>afj X gr f args (some t) st K
 | none=>afj X gr f args none st K
def aly (n:Nat) (x:SV) (dst:Option Nat) (st:St) (K:St→Prop):Prop:=
 match x with
 | .own i off=>match st.obj i with
  | some (.arr _ n' f)=>match off with
   | 0=>match n'.beq n with
    | true=>aP st dst (.p false (.arr n f)) K
    | false=>False
   | _+1=>False
  | some (.cells _ cs)=>match dA true n off cs with
   | some s=>aP st dst s K
   | none=>False
  | _=>False
 | .el i sz j off=>match st.obj i with
  | some (.row _ sz' m f)=>match sz.beq sz' with
   | true=>j<m∧∃g,takeN n (dH off (f j))=some (iJ n g)∧aP st dst (.p false (.arr n g)) K
   | false=>False
  | _=>False
 | .p b (.pt l off)=>∃g,takeN n (dH off l)=some (iJ n g)∧aP st dst (.p b (.arr n g)) K
 | _=>False
def aw6 (X:aY) (d:Option Nat):Bool:=
 match d with
 | some t=>iK (t+6000000) X.inl
 | none=>false
def y5 (X:aY) (o:Oper) (st:St) (K:St→Prop):Prop:=
  match o.op with
  | .load T x=>match look X.Tb T with
    | some ⟨d,size,_,_⟩=>match su size d with
     | some n=>aly n (st.ev x) o.dst st K
     | none=>match st.ev x with
      | .own i off=>match st.obj i with
        | some (.cells _ cs)=>match dA d.isAgg size off cs with
          | some s=>aP st o.dst s K
          | none=>False
        | some (.arr _ n f)=>match d.isAgg,size with
          | false,1=>off<n∧aP st o.dst (.p false (f off)) K
          | _,_=>False
        | _=>False
      | .el i sz j off=>match st.obj i with
        | some (.row _ sz' n f)=>match sz.beq sz' with
          | true=>j<n∧match dA d.isAgg size off (fG false (f j)) with
            | some s=>aP st o.dst s K
            | none=>False
          | false=>False
        | _=>False
      | .p b (.pt l off)=>match dA d.isAgg size off (fG b l) with
          | some s=>aP st o.dst s K
          | none=>False
      | _=>False
    | none=>False
  | .fieldAddr T x f=>match look X.Tb T with
    | some ⟨.struct fs,_,_,_⟩=>match wm X.Tb fs f with
      | some (off,_+1)=>match st.ev x with
        | .own i o'=>aP st o.dst (.own i (o'+off)) K
        | .el i sz j o'=>aP st o.dst (.el i sz j (o'+off)) K
        | .p b (.pt l o')=>aP st o.dst (.p b (.pt l (o'+off))) K
        | _=>False
      | _=>False
    | _=>False
  | .indexAddr T x i=>match look X.Tb T with
    | some ⟨.slice e,_,_,_⟩=>match look X.Tb e with
      | some ⟨_,sz+1,_,_⟩=>match st.ev x,st.ev i with
        | .p b (.seq n f),.p _ (.val (.int _ j))=>(0≤j∧j<(n:Int))∧(f j.toNat).length=sz+1∧aP st o.dst (.p b (.pt (f j.toNat) 0)) K
        | .row r,.p _ (.val (.int _ j))=>match st.obj r with
          | some (.row _ sz' n _)=>match sz'.beq (sz+1) with
            | true=>(0≤j∧j<(n:Int))∧aP st o.dst (.el r (sz+1) j.toNat 0) K
            | false=>False
          | _=>False
        | _,_=>False
      | _=>False
    | some ⟨.array n e,_,_,_⟩=>match look X.Tb e with
      | some ⟨_,sz,_,_⟩=>match st.ev x,st.ev i with
        | .own q off,.p _ (.val (.int _ j))=>match aw6 X o.dst with
          | true=>(0≤j∧j<(n:Int))∧∃m:Nat,j=(m:Int)∧aP st o.dst (.own q (off+m*sz)) K
          | false=>(0≤j∧j<(n:Int))∧aP st o.dst (.own q (off+j.toNat*sz)) K
        | .p b (.pt l off),.p _ (.val (.int _ j))=>match sz with
          | 1=>(0≤j∧j<(n:Int))∧∃d,l[off+j.toNat]?=some d∧aP st o.dst (.p b (.pt [d] 0)) K
          | _=>False
        | _,_=>False
      | _=>False
    | _=>False
  | _=>False
def gZ (f:Nat→List PV) (j off:Nat) (ds:List PV) (k:Nat):List PV:=if k=j then (f j).take off++ds++(f j).drop (off+ds.length) else f k
def vals (l:List Value):List PV:=match l with
 | []=>[]
 | v :: l=>.val v :: vals l
def vO (f:Nat→PV) (j:Nat) (d:PV) (k:Nat):PV:=if k=j then d else f k
def aoo (X:aY) (T:Nat) (s:SV):Option (Nat×(Nat→PV)):=
 match look X.Tb T with
 | some ⟨d,size,_,_⟩=>match su size d with
  | some n=>match adV n s with
   | some (_,g)=>some (n,g)
   | none=>none
  | none=>none
 | none=>none
def ajd (X:aY) (T:Nat) (x y:SV) (st:St):Option (Nat×Ob):=
 match look X.Tb T with
 | some ⟨d,size,_,_⟩=>match su size d with
  | some n=>match x with
   | .own i 0=>match st.obj i,X.ro.ble i with
    | some (.arr T' n' _),true=>match n'.beq n,adV n y with
     | true,some (_,g)=>some (i,.arr T' n g)
     | _,_=>none
    | _,_=>none
   | _=>none
  | none=>none
 | none=>none
def kindOf (Tb:Tab) (k:Nat):Option dU:=
 match look Tb k with
 | some ⟨.int ik,_,_,_⟩=>some (.int ik)
 | some ⟨.string,_,_,_⟩=>some .str
 | some ⟨.array n e,_,_,_⟩=>match look Tb e with
  | some ⟨.bool,1,_,_⟩=>some (.bools n)
  | _=>none
 | _=>none
def anz (kt:dU) (s:SV) (K:MK→Prop):Prop:=
 match kt,s with
 | .int ik,.p _ (.val (.int k a))=>match sameKind ik k with
  | true=>K (.int a)
  | false=>False
 | .str,.p _ (.val (.string s))=>K (.str s)
 | .bools n,.p _ (.arr n' f)=>match n.beq n' with
  | true=>∃l:List Bool,(l.length=n∧∀k,k<n→f k=.val (.bool (l.getD k false)))∧K (.bools l)
  | false=>False
 | _,_=>False
noncomputable def uR (get:MK→Option PV) (mk:MK) (d:PV) (k:MK):Option PV:=open Classical in if k=mk then some d else get k
def afw (X:aY) (T:Nat) (m k v:SV) (dst:Option Nat) (st:St) (K:St→Prop):Prop:=
 match look X.Tb T with
 | some ⟨.map kT _,_,_,_⟩=>match m with
  | .mp i=>match st.obj i,kindOf X.Tb kT with
   | some (.map kt0 n get),some kt=>match X.ro.ble i,v,cellsOf v with
    | true,.p _ (.val x),some [_]=>kt0=kt∧anz kt k fun mk=>∃n',((get mk=none→n'=n+1)∧(∀d,get mk=some d→n'=n))∧aP (st.eX i (some (.map kt n' (uR get mk (.val x))))) dst .any K
    | _,_,_=>False
   | _,_=>False
  | _=>False
 | _=>False
def ajX (X:aY) (T:Nat) (m k:SV) (ok:Bool) (dst:Option Nat) (st:St) (K:St→Prop):Prop:=
 match look X.Tb T with
 | some ⟨.map kT eT,_,_,_⟩=>match m,look X.Tb eT with
  | .mp i,some ⟨dT,_,_,[z]⟩=>match st.obj i,kindOf X.Tb kT with
   | some (.map kt0 n get),some kt=>(kt0=kt∧dT.isAgg=false)∧anz kt k fun mk=>∃(d:PV) (b:Bool),((∀d',get mk=some d'→d'=d∧b=true)∧(get mk=none→d=.val z∧b=false)) ∧
     match ok with
     | false=>aP st dst (.p false d) K
     | true=>aP st dst (.p false (.tup [d,.val (.bool b)])) K
   | _,_=>False
  | _,_=>False
 | _=>False
def agB (X:aY) (o:Oper) (st:St) (K:St→Prop):Prop:=
  match o.op with
  | .alloc T=>match look X.Tb T with
    | some ⟨d,size,_,z⟩=>match su size d with
      | some n=>uF st (.arr T n (nH (vals z))) fun st i=>aP st o.dst (.own i 0) K
      | none=>uF st (.cells T (zeros z)) fun st i=>aP st o.dst (.own i 0) K
    | none=>False
  | .box T x=>match aoo X T (st.ev x) with
    | some (n,g)=>uF st (.arr T n g) fun st i=>aP st o.dst (.own i 0) K
    | none=>match cellsOf (st.ev x) with
      | some cs=>uF st (.cells T cs) fun st i=>aP st o.dst (.own i 0) K
      | none=>False
  | .makeMap T none=>match look X.Tb T with
    | some ⟨.map kT _,_,_,_⟩=>match kindOf X.Tb kT with
      | some kt=>uF st (.map kt 0 (fun _=>none)) fun st i=>aP st o.dst (.mp i) K
      | none=>False
    | _=>False
  | .insert T m k v=>afw X T (st.ev m) (st.ev k) (st.ev v) o.dst st K
  | .mapUpdate T m k v=>afw X T (st.ev m) (st.ev k) (st.ev v) o.dst st K
  | .lookup T m k ok=>ajX X T (st.ev m) (st.ev k) ok o.dst st K
  | .store T x y=>match ajd X T (st.ev x) (st.ev y) st with
   | some (i,o')=>aP (st.eX i (some o')) o.dst .any K
   | none=>match look X.Tb T with
    | some ⟨d0,size,_,_⟩=>match st.ev x,cellsOf (st.ev y) with
      | .own i off,some new=>match new.length.beq size with
        | true=>match st.obj i with
          | some (.cells T' cs)=>match X.ro.ble i,splice cs off new with
            | true,some r=>aP (st.eX i (some (.cells T' r))) o.dst .any K
            | _,_=>False
          | some (.arr T' n f)=>match X.ro.ble i,d0.isAgg,size,new with
            | true,false,1,[.p _ d]=>off<n∧aP (st.eX i (some (.arr T' n (vO f off d)))) o.dst .any K
            | _,_,_,_=>False
          | _=>False
        | false=>False
      | .el i sz j off,some new=>match new.length.beq size,w9 new with
        | true,some (_,ds)=>match st.obj i with
          | some (.row T' sz' n f)=>match X.ro.ble i,sz.beq sz' with
            | true,true=>(j<n∧off+ds.length≤sz)∧aP (st.eX i (some (.row T' sz n (gZ f j off ds)))) o.dst .any K
            | _,_=>False
          | _=>False
        | _,_=>False
      | _,_=>False
    | none=>False
  | .makeSlice T l c=>match look X.Tb T with
    | some ⟨.slice e,_,_,_⟩=>match look X.Tb e with
      | some ⟨_,sz+1,by_,z⟩=>match st.ev l,st.ev c with
        | .p _ (.val (.int _ n)),.p _ (.val (.int _ m))=>(0≤n∧n≤m∧m≤281474976710655∧by_*m.toNat≤281474976710656)∧uF st (.row e (sz+1) n.toNat fun _=>vals z) fun st i=>aP st o.dst (.row i) K
        | _,_=>False
      | _=>False
    | _=>False
  | .buildSlice T len parts=>match look X.Tb T with
    | some ⟨.slice e,_,_,_⟩=>match look X.Tb e with
      | some ⟨_,sz+1,_,z⟩=>
        match uU (fun i=>match i.blt len with | true=>some (i*(sz+1),sz+1) | false=>none) st (aaT len (zeros z)) parts.toList with
        | some cs=>match w9 cs with
          | some (_,ds)=>match (len*(sz+1)).blt 1000 with
            | true=>uF st (.row e (sz+1) len (aU (sz+1) ds)) fun st i=>aP st o.dst (.row i) K
            | false=>False
          | none=>False
        | none=>False
      | _=>False
    | _=>False
  | _=>False
def wW (f:Nat→List PV) (lo n:Nat) (z:List PV) (k:Nat):List PV:=if lo≤k∧k<lo+n then z else f k
def bD (n:Nat) (f g:Nat→List PV) (k:Nat):List PV:=if k<n then f k else g (k-n)
def anb (st:St) (e sz:Nat):SV→Option (Nat×(Nat→List PV)×Option Nat)
 | .row j=>match st.obj j with
  | some (.row e' sz' m g)=>match (e'.beq e).and (sz'.beq sz) with
   | true=>some (m,g,some j)
   | false=>none
  | _=>none
 | .p _ (.seq m g)=>some (m,g,none)
 | .p _ (.val (.slice none 0 0))=>some (0,fun _=>[],none)
 | _=>none
def anU (i:Nat):Option Nat→Bool
 | some j=>!(i.beq j)
 | none=>true
def ovl (n lo m:Nat) (f:Nat→List PV) (k:Nat):List PV:=if n≤k∧k<n+m then f (lo+(k-n)) else f k
def aeB (X:aY) (e sz:Nat) (s x:SV) (dst:Option Nat) (st:St) (K:St→Prop):Prop:=
 match s,x with
 | .sub i sz' 0 n,.sub j sz'' lo m=>match ((i.beq j).and (X.ro.ble i)).and ((sz'.beq sz).and (sz''.beq sz)),st.obj i with
  | true,some (.row e' sz3 N f)=>match (e'.beq e).and (sz3.beq sz) with
   | true=>(n+m≤N∧lo+m≤N∧0<N)∧aP (st.eX i (some (.row e sz N (ovl n lo m f)))) dst (.sub i sz 0 (n+m)) K
   | false=>False
  | _,_=>False
 | _,_=>False
def agu (X:aY) (t:Nat) (s x:SV) (dst:Option Nat) (st:St) (K:St→Prop):Prop:=
 match look X.Tb t with
 | some ⟨.slice e,_,_,_⟩=>match look X.Tb e with
  | some ⟨_,sz+1,by_,_⟩=>match anb st e (sz+1) x with
   | some (m,g,j)=>match s with
    | .row i=>match (anU i j).and (X.m.ble i),st.obj i with
     | true,some (.row e' sz' n f)=>match (e'.beq e).and (sz'.beq (sz+1)) with
      | true=>(n+m≤maxLen∧(n+m)*by_≤140737488355328)∧(∀k,k<m→(g k).length=sz+1) ∧
        uF (st.eX i none) (.row e (sz+1) (n+m) (bD n f g)) fun st i=>aP st dst (.row i) K
      | false=>False
     | _,_=>False
    | .p _ (.val (.slice none 0 0))=>(m≤maxLen∧m*by_≤140737488355328)∧(∀k,k<m→(g k).length=sz+1) ∧
      uF st (.row e (sz+1) m g) fun st i=>aP st dst (.row i) K
    | .full n f=>(0<m∧n+m≤maxLen∧(n+m)*by_≤140737488355328)∧(∀k,k<n→(f k).length=sz+1)∧(∀k,k<m→(g k).length=sz+1) ∧
      aP st dst (.p false (.seq (n+m) (bD n f g))) K
    | _=>False
   | none=>aeB X e (sz+1) s x dst st K
  | _=>False
 | _=>False
def qo (s:ByteArray) (j:Nat):List PV:=[.val (.int .u8 (s.data.getD j 0).toNat)]
def agG (X:aY) (t t':Nat) (s x:SV) (dst:Option Nat) (st:St) (K:St→Prop):Prop:=
 match look X.Tb t,look X.Tb t' with
 | some ⟨.slice e,_,_,_⟩,some ⟨.string,_,_,_⟩=>match look X.Tb e,x with
  | some ⟨.int .u8,1,by_,[z]⟩,.p _ (.val (.string str))=>match s with
   | .row i=>match X.m.ble i,st.obj i with
    | true,some (.row e' sz' n f)=>match (e'.beq e).and (sz'.beq 1) with
     | true=>((by_=1∧z=.int .u8 0)∧n+str.size≤maxLen∧n+str.size≤140737488355328) ∧
       uF (st.eX i none) (.row e 1 (n+str.size) (bD n f (qo str))) fun st i=>aP st dst (.row i) K
     | false=>False
    | _,_=>False
   | .p _ (.val (.slice none 0 0))=>((by_=1∧z=.int .u8 0)∧str.size≤maxLen∧str.size≤140737488355328) ∧
     uF st (.row e 1 str.size (qo str)) fun st i=>aP st dst (.row i) K
   | _=>False
  | _,_=>False
 | _,_=>False
def ags (X:aY) (c:Call) (o:Oper) (st:St) (K:St→Prop):Prop:=
 match c with
 | ⟨.builtin .len,⟨[x]⟩,⟨[t]⟩⟩=>match look X.Tb t with
  | some ⟨.string,_,_,_⟩=>match st.ev x with
   | .p _ (.val (.string s))=>aP st o.dst (.p true (.val (.int .i64 s.size))) K
   | _=>False
  | some ⟨.slice _,_,_,_⟩=>match st.ev x with
   | .p _ (.seq n _)=>aP st o.dst (.p true (.val (.int .i64 n))) K
   | .p _ (.val (.slice none 0 0))=>aP st o.dst (.p true (.val (.int .i64 0))) K
   | .row i=>match st.obj i with
    | some (.row _ _ n _)=>aP st o.dst (.p true (.val (.int .i64 n))) K
    | _=>False
   | .sub _ _ _ n=>aP st o.dst (.p true (.val (.int .i64 n))) K
   | .asl _ _ _ n=>aP st o.dst (.p true (.val (.int .i64 n))) K
   | _=>False
  | some ⟨.map _ _,_,_,_⟩=>match st.ev x with
   | .mp i=>match st.obj i with
    | some (.map _ n _)=>aP st o.dst (.p true (.val (.int .i64 n))) K
    | _=>False
   | _=>False
  | _=>False
 | _=>False
def adD:Value→PV
 | .int k n=>.val (.int k n)
 | .bool b=>.val (.bool b)
 | .string s=>.val (.string s)
 | .agg cs=>.agg (cs.toList.map .val)
 | v=>.val v
def vOk:Value→Bool
 | .agg cs=>cs.toList.all (·.oneCell')
 | .tuple _=>false
 | _=>true
def iy:List PV→Bool
 | []=>true
 | .val _ :: l=>iy l
 | _=>false
def aoa:Bool→Prop
 | true=>True
 | false=>False
def aa6 (b:Bool):PV→Prop
 | .val _=>True
 | .agg l=>match iy l with
  | true=>True
  | false=>aoa b
 | .arr n f=>match b with
  | true=>True
  | false=>∀k,k<n→iy [f k]=true
 | _=>aoa b
def abV (b:Bool) (d x:PV):Prop:=aa6 b d∧kY d x
def qU:List SV→List PV→Prop
 | [],[]=>True
 | [.p b d],[v]=>abV b d v
 | .p b d :: l,v :: vs=>abV b d v∧qU l vs
 | _,_=>False
def aiL (X:aY) (l:Nat) (args:List SV) (dst:Option Nat) (st:St) (K:St→Prop):Prop:=
 match X.yl,st with
 | some (l',xs),⟨fr,ob,no,some k⟩=>l=l'∧∃vs,xs[k]?=some vs∧qU args vs ∧
   aP ⟨fr,ob,no,some (k+1)⟩ dst (.p true (.val (.bool true))) K∧aP ⟨fr,ob,no,none⟩ dst (.p true (.val (.bool false))) K
 | _,_=>False
def frz (X:aY) (d:Option Nat):Bool:=
 match d with
 | some t=>iK (t+1000000) X.inl
 | none=>false
def jM:List Nat→List (Nat×Option Ob)→List (Nat×Option Ob)
 | [],l=>l
 | j :: js,l=>(j,none) :: jM js l
def aqZ (i:Nat) (l:List Nat):List Nat:=match iK i l with
 | true=>l
 | false=>i :: l
def reach (st:St):Nat→SV→List Nat→List Nat
 | _,.row i,acc=>aqZ i acc
 | _,.sub i _ _ _,acc=>aqZ i acc
 | _,.asl i _ _ _,acc=>aqZ i acc
 | n+1,.own i _,acc=>match iK i acc,st.obj i with
  | false,some (.cells _ cs)=>cs.foldl (fun acc s=>reach st n s acc) (i :: acc)
  | false,some (.arr _ _ _)=>i :: acc
  | _,_=>acc
 | n+1,.agg l,acc=>l.foldl (fun acc s=>reach st n s acc) acc
 | n+1,.tup l,acc=>l.foldl (fun acc s=>reach st n s acc) acc
 | n+1,.fn _ l,acc=>l.foldl (fun acc s=>reach st n s acc) acc
 | _,_,acc=>acc
def y7:List (Option PV)→Option (List PV)
 | []=>some []
 | some d :: l=>match y7 l with
  | some ds=>some (d :: ds)
  | none=>none
 | none :: _=>none
def mH (st:St) (js:List Nat):Nat→SV→Option PV
 | _,.p _ d=>some d
 | _,.row i=>match iK i js,st.obj i with
  | true,some (.row _ _ n f)=>some (.seq n f)
  | _,_=>none
 | _,.sub i sz lo n=>match iK i js,st.obj i with
  | true,some (.row _ sz' _ f)=>match sz.beq sz' with
   | true=>some (.seq n (fun k=>f (lo+k)))
   | false=>none
  | _,_=>none
 | _,.asl i N lo n=>match iK i js,st.obj i with
  | true,some (.arr _ N' f)=>match N'.beq N with
   | true=>some (.seq n (fun k=>[f (lo+k)]))
   | false=>none
  | _,_=>none
 | n+1,.own i off=>match iK i js,st.obj i with
  | true,some (.cells _ cs)=>match y7 (cs.map (mH st js n)) with
   | some ds=>some (.pt ds off)
   | none=>none
  | true,some (.arr _ m f)=>some (.pt (iJ m f) off)
  | _,_=>none
 | n+1,.agg l=>match y7 (l.map (mH st js n)) with
  | some ds=>some (.agg ds)
  | none=>none
 | n+1,.tup l=>match y7 (l.map (mH st js n)) with
  | some ds=>some (.tup ds)
  | none=>none
 | n+1,.fn f l=>match y7 (l.map (mH st js n)) with
  | some ds=>some (.fn f ds)
  | none=>none
 | _,_=>none
def ae5 (X:aY) (s:SV) (d:Option Nat) (st:St) (K:St→Prop) (js:List Nat):Prop:=
 match lu X.m js,mH st js 5 s with
 | true,some d'=>aP { st with ob:=jM js st.ob } d (.p false d') K
 | _,_=>False
def ajO (X:aY) (s:SV) (d:Option Nat) (st:St) (K:St→Prop):Prop:=
 match s with
 | .row i=>match X.m.ble i,st.obj i with
  | true,some (.row _ _ n f)=>aP (st.eX i none) d (.p false (.seq n f)) K
  | _,_=>False
 | .sub i sz lo n=>match X.m.ble i,st.obj i with
  | true,some (.row _ sz' _ f)=>match sz.beq sz' with
   | true=>aP (st.eX i none) d (.p false (.seq n (fun k=>f (lo+k)))) K
   | false=>False
  | _,_=>False
 | .own i off=>ae5 X (.own i off) d st K (reach st 5 (.own i off) [])
 | .agg l=>ae5 X (.agg l) d st K (reach st 5 (.agg l) [])
 | .tup l=>ae5 X (.tup l) d st K (reach st 5 (.tup l) [])
 | .fn f l=>ae5 X (.fn f l) d st K (reach st 5 (.fn f l) [])
 | .asl i N lo n=>ae5 X (.asl i N lo n) d st K [i]
 | s=>aP st d s K
def adX (X:aY) (fr:List (Nat×SV)) (dst:Option Nat) (K:St→Prop) (s:SV) (st:St):Prop:=
 match st with
 | ⟨_,ob,no,k⟩=>match frz X dst with
  | true=>ajO X s dst ⟨fr,ob,no,k⟩ K
  | false=>aP ⟨fr,ob,no,k⟩ dst s K
structure afh where
 A:Type
 args:Nat→A→List SV
 objs:Nat→A→List Ob
 pre:A→Prop
 ys:A→List (List PV)
def ajj (P:Program) (f:Nat) (S:afh):Prop:=
 (∃fn,P.funcs[f]?=some fn∧fn.body.isSome=true∧(fn.name=="runtime.NumGoroutine")=false) ∧
 ∀(a:S.A),S.pre a→∀(l:Nat) (J:Option Nat→(Nat→Prop)→World→Prop) (E:Env) (vs:Array Value) (w:World),agq J→(∀b,E.tm b→∃cs,E.mem b=some cs) →
  (∀(k:Nat) (x:List PV) (us:Array Value) (I:Nat→Prop) (W1:World),(S.ys a)[k]?=some x→ag1 (E.m true) us x→J (some k) I W1→YieldAt Fence.wide 9 P l us W1 fun e W'=>
   (iY I E.mem W1 W'∧∀i b,i<(S.objs l a).length→(E.hd i).bind aM=some b→W'.heap[b]?=W1.heap[b]?) ∧
   ((e=.returned (.bool true)∧J (some (k+1)) I W')∨(e=.returned (.bool false)∧J none I W'))) →
  J (some 0) (fun _=>False) w→bg { lM w E (S.objs l a) (S.objs l a).length with tm:=E.tm } E (ow (S.objs l a)) w→l8 E vs (S.args l a) →
  CallsIn Fence.wide 9 P f vs w fun e W'=>∃I,(∀b,I b→b<W'.heap.size)∧((e=.returned (.bool true)∧J (some (S.ys a).length) I W')∨(e=.returned (.bool false)∧J none I W'))
def afF (st:St) (js:List Nat) (s c:SV):Prop:=
 match c with
 | .p true d=>match s with
  | .p true d'=>kY d' d
  | _=>False
 | c=>acW st js s c
def wJ (st:St) (js:List Nat):List SV→List SV→Prop
 | [],[]=>True
 | [s],[c]=>afF st js s c
 | s :: ss,c :: cs=>afF st js s c∧wJ st js ss cs
 | _,_=>False
def ajC (X:aY) (f:Nat) (args:List SV) (dst:Option Nat) (st:St) (K:St→Prop):Prop:=
 match X.yl,st with
 | some (l,xs),⟨fr,ob,no,some k⟩=>∃S:afh,ajj X.P f S∧∃(a:S.A) (js:List Nat),(distinct js=true∧js.length=(S.objs l a).length∧(jO args (S.args l a)).or (kP ⟨fr,ob,no,some k⟩ js (S.objs l a))=false) ∧
   wJ ⟨fr,ob,no,some k⟩ js args (S.args l a)∧qh ⟨fr,ob,no,some k⟩ js js (S.objs l a)∧S.pre a∧(∀i vs,(S.ys a)[i]?=some vs→xs[k+i]?=some vs) ∧
   aP ⟨fr,ob,no,some (k+(S.ys a).length)⟩ dst (.p true (.val (.bool true))) K∧aP ⟨fr,ob,no,none⟩ dst (.p true (.val (.bool false))) K
 | _,_=>False
def adZ (f:Nat→PV) (lo n:Nat) (g:Nat→List PV) (k:Nat):PV:=if lo≤k∧k<lo+n then nH (g (k-lo)) 0 else f k
def am3 (X:aY) (t:Nat) (x y:SV) (dst:Option Nat) (st:St) (K:St→Prop):Prop:=
 match look X.Tb t with
 | some ⟨.slice e,_,_,_⟩=>match look X.Tb e with
  | some ⟨_,1,_,_⟩=>match x with
   | .asl i N lo n=>match X.ro.ble i,st.obj i with
    | true,some (.arr T N' f)=>match y with
     | .p _ (.seq m g)=>(N'=N∧∀k,k<m→(g k).length=1)∧aP (st.eX i (some (.arr T N' (adZ f lo (Nat.min m n) g)))) dst (.p true (.val (.int .i64 (Nat.min m n:Nat)))) K
     | _=>False
    | _,_=>False
   | _=>False
  | _=>False
 | _=>False
def acf (X:aY) (gr:Bool) (c:Call) (o:Oper) (st:St) (K:St→Prop):Prop:=
 match c with
 | ⟨.value f,args,_⟩=>match st.ev f with
  | .fn k capt=>match iK (k+2000000) X.inl,gr with
   | true,false=>ajC X k (evs st args.toList++capt) o.dst st K
   | true,true=>False
   | false,_=>match iK k X.inl,gr with
    | false,_=>aaB X gr k (evs st args.toList++capt) o.dst st K
    | true,false=>aau X k (evs st args.toList++capt) st (adX X st.fr o.dst K)
    | true,true=>False
  | .bnd k l=>match iK k X.inl,gr with
   | false,_=>aaB X gr k (l++evs st args.toList) o.dst st K
   | true,false=>aau X k (l++evs st args.toList) st (adX X st.fr o.dst K)
   | true,true=>False
  | .p b (.fn k capt)=>aaB X gr k (evs st args.toList++fG b capt) o.dst st K
  | .p b (.bnd k l)=>aaB X gr k (fG b l++evs st args.toList) o.dst st K
  | .p _ (.val (.func (.yield l) ⟨[]⟩ ⟨[]⟩))=>match gr with
   | false=>aiL X l (evs st args.toList) o.dst st K
   | true=>False
  | _=>False
 | ⟨.builtin .append,⟨[s,x]⟩,⟨[t,t']⟩⟩=>match t.beq t' with
  | true=>agu X t (st.ev s) (st.ev x) o.dst st K
  | false=>agG X t t' (st.ev s) (st.ev x) o.dst st K
 | ⟨.builtin .min,⟨[x,y]⟩,_⟩=>match st.ev x,st.ev y with
  | .p _ (.val (.int k a)),.p _ (.val (.int _ b))=>aP st o.dst (.p true (.val (.int k (if b<a then b else a)))) K
  | _,_=>False
 | ⟨.builtin .max,⟨[x,y]⟩,_⟩=>match st.ev x,st.ev y with
  | .p _ (.val (.int k a)),.p _ (.val (.int _ b))=>aP st o.dst (.p true (.val (.int k (if b>a then b else a)))) K
  | _,_=>False
 | ⟨.builtin .copy,⟨[x,y]⟩,⟨[t,_]⟩⟩=>am3 X t (st.ev x) (st.ev y) o.dst st K
 | ⟨.builtin .clear,⟨[x]⟩,⟨[t]⟩⟩=>match look X.Tb t with
  | some ⟨.slice e,_,_,_⟩=>match look X.Tb e with
   | some ⟨_,sz+1,_,z⟩=>match st.ev x with
    | .sub i sz' lo n=>match (sz'.beq (sz+1)).and (X.ro.ble i),st.obj i with
     | true,some (.row T' sz'' m f)=>match sz''.beq (sz+1) with
      | true=>aP (st.eX i (some (.row T' (sz+1) m (wW f lo n (vals z))))) o.dst .any K
      | false=>False
     | _,_=>False
    | _=>False
   | _=>False
  | _=>False
 | _=>False
def kK (st:St) (x:Option Operand) (d:Int) (K:Int→Prop):Prop:=
 match x with
 | none=>K d
 | some x=>match st.ev x with
  | .p _ (.val (.int _ j))=>K j
  | _=>False
def anW (Tb:Tab) (t:Nat) (x y:SV):Option Nat:=
 match x,y with
 | .p _ (.seq n _),.p _ (.val (.slice none 0 0))=>match look Tb t with
  | some ⟨.slice _,_,_,_⟩=>some n
  | _=>none
 | _,_=>none
def yX (X:aY) (o:Oper) (st:St) (K:St→Prop):Prop:=
 match o.op with
 | .move x=>aP st o.dst (st.ev x) K
 | .assign x=>aP st o.dst (st.ev x) K
 | .pick c a b=>match st.ev c with
  | .p _ (.val (.bool t))=>oW t (aP st o.dst (st.ev a) K) (aP st o.dst (st.ev b) K)
  | _=>False
 | .binOp op t x y _=>match anW X.Tb t (st.ev x) (st.ev y) with
  | some n=>match op with
   | .eql=>∀b:Bool,(b=true→n=0)→aP st o.dst (.p true (.val (.bool b))) K
   | .neq=>∀b:Bool,(b=true→n=0)→aP st o.dst (.p true (.val (.bool (!b)))) K
   | _=>False
  | none=>rV st o.dst (binop X.Tb op t (st.ev x) (st.ev y)) K
 | .unOp op _ x=>rV st o.dst (unop op (st.ev x)) K
 | .convert s t x=>match look X.Tb s,look X.Tb t with
  | some _,some ⟨.int k,_,_,_⟩=>match st.ev x with
   | .p _ (.val (.int _ n))=>aP st o.dst (.p true (.val (.int k (k.wrap n)))) K
   | _=>False
  | some ⟨.slice e,_,_,_⟩,some ⟨.string,_,_,_⟩=>match look X.Tb e with
   | some ⟨.int .u8,_,_,_⟩=>match st.ev x with
    | .p _ (.seq n f)=>∃s:ByteArray,(s.size=n∧∀j,j<n→f j=qo s j)∧aP st o.dst (.p true (.val (.string s))) K
    | .row i=>match st.obj i with
     | some (.row _ 1 n f)=>∃s:ByteArray,(s.size=n∧∀j,j<n→f j=qo s j)∧aP st o.dst (.p true (.val (.string s))) K
     | _=>False
    | _=>False
   | _=>False
  | some _,some ⟨.string,_,_,_⟩=>match st.ev x with
   | .p b (.val (.string n))=>aP st o.dst (.p b (.val (.string n))) K
   | .p _ (.val (.int _ n))=>(0≤n∧n<128)∧aP st o.dst (.p true (.val (.string ⟨#[UInt8.ofNat n.toNat]⟩))) K
   | _=>False
  | _,_=>False
 | .makeFunc (.func f) ⟨[]⟩ capt=>aP st o.dst (.fn f (evs st capt.toList)) K
 | .makeFunc (.func f) first ⟨[]⟩=>match w9 (evs st first.toList) with
  | some (b,ds)=>aP st o.dst (.p b (.bnd f ds)) K
  | none=>aP st o.dst (.bnd f (evs st first.toList)) K
 | .build T parts=>match look X.Tb T with
  | some ⟨.struct fs,_,_,z⟩=>match uU (wm X.Tb fs) st (zeros z) parts.toList with
   | some cs=>aP st o.dst (oM cs) K
   | none=>False
  | some ⟨.array n e,size,_,z⟩=>match look X.Tb e with
   | some ⟨_,sz,_,_⟩=>match uU (fun i=>some (i*sz,sz)) st (zeros z) parts.toList with
    | some cs=>match su size (.array n e) with
     | some n=>match adV n (oM cs) with
      | some (b,g)=>aP st o.dst (.p b (.arr n g)) K
      | none=>False
     | none=>aP st o.dst (oM cs) K
    | none=>False
   | none=>False
  | _=>False
 | .field T x f=>match look X.Tb T with
  | some ⟨.struct fs,_,_,_⟩=>match nth fs f with
   | some (off,t)=>match look X.Tb t with
    | some ⟨d,size,_,_⟩=>match st.ev x with
     | .p b (.agg l)=>match dA d.isAgg size off (fG b l) with
      | some s=>aP st o.dst s K
      | none=>False
     | .agg l=>match dA d.isAgg size off l with
      | some s=>aP st o.dst s K
      | none=>False
     | _=>False
    | none=>False
   | none=>False
  | _=>False
 | .extract x i=>match st.ev x with
  | .p b (.tup l)=>match nth l i with
   | some d=>aP st o.dst (.p b d) K
   | none=>False
  | .tup l=>match nth l i with
   | some s=>aP st o.dst s K
   | none=>False
  | _=>False
 | .index T x i=>match look X.Tb T with
  | some ⟨.string,_,_,_⟩=>match st.ev x,st.ev i with
   | .p _ (.val (.string s)),.p _ (.val (.int _ j))=>∃c:UInt8,(0≤j∧s[j.toNat]?=some c)∧aP st o.dst (.p true (.val (.int .u8 c.toNat))) K
   | _,_=>False
  | some ⟨.array n e,_,_,_⟩=>match look X.Tb e with
   | some ⟨d,sz,_,_⟩=>match st.ev i with
    | .p _ (.val (.int _ j))=>match st.ev x with
     | .p b (.agg l)=>(0≤j∧j<(n:Int))∧match dA d.isAgg sz (j.toNat*sz) (fG b l) with
      | some s=>aP st o.dst s K
      | none=>False
     | .agg l=>(0≤j∧j<(n:Int))∧match dA d.isAgg sz (j.toNat*sz) l with
      | some s=>aP st o.dst s K
      | none=>False
     | .p b (.arr n' f)=>match n'.beq n,d.isAgg,sz with
      | true,false,1=>(0≤j∧j<(n:Int))∧aP st o.dst (.p b (f j.toNat)) K
      | _,_,_=>False
     | _=>False
    | _=>False
   | none=>False
  | _=>False
 | .slice T x lo hi none=>match look X.Tb T with
  | some ⟨.string,_,_,_⟩=>match st.ev x with
   | .p _ (.val (.string s))=>kK st lo 0 fun l=>kK st hi s.size fun h=>(0≤l∧l≤h∧h≤(s.size:Int))∧aP st o.dst (.p true (.val (.string (s.extract l.toNat h.toNat)))) K
   | _=>False
  | some ⟨.slice e,_,_,_⟩=>match look X.Tb e with
   | some ⟨_,sz+1,_,_⟩=>match st.ev x with
    | .p b (.seq n f)=>kK st lo 0 fun l=>kK st hi n fun h=>(0≤l∧l≤h∧h≤(n:Int))∧(∀k,k<n→(f k).length=sz+1)∧aP st o.dst (.p b (.seq (h.toNat-l.toNat) (fun k=>f (l.toNat+k)))) K
    | .row r=>match st.obj r with
     | some (.row _ sz' m _)=>match sz'.beq (sz+1) with
      | true=>kK st lo 0 fun l=>kK st hi m fun h=>(0≤l∧l≤h∧h≤(m:Int)∧0<m)∧aP st o.dst (.sub r (sz+1) l.toNat (h.toNat-l.toNat)) K
      | false=>False
     | _=>False
    | .sub r sz' p n=>match sz'.beq (sz+1),st.obj r with
     | true,some (.row _ _ m _)=>kK st lo 0 fun l=>kK st hi n fun h=>(0≤l∧l≤h∧p+h≤(m:Int))∧aP st o.dst (.sub r (sz+1) (p+l.toNat) (h.toNat-l.toNat)) K
     | _,_=>False
    | _=>False
   | _=>False
  | some ⟨.array n e,_,_,_⟩=>match look X.Tb e with
   | some ⟨_,1,_,_⟩=>match st.ev x with
    | .own i 0=>kK st lo 0 fun l=>kK st hi n fun h=>(0≤l∧l≤h∧h≤(n:Int))∧aP st o.dst (.asl i n l.toNat (h.toNat-l.toNat)) K
    | _=>False
   | _=>False
  | _=>False
 | .nilCheck x=>match st.ev x with
  | .p b (.pt l off)=>aP st o.dst (.p b (.pt l off)) K
  | .own i off=>aP st o.dst (.own i off) K
  | _=>False
 | .slice T x lo (some hi) (some mx)=>match look X.Tb T with
  | some ⟨.slice e,_,_,_⟩=>match look X.Tb e with
   | some ⟨_,sz+1,_,_⟩=>match st.ev x with
    | .p _ (.seq n f)=>kK st lo 0 fun l=>kK st (some hi) n fun h=>kK st (some mx) n fun m=>(0≤l∧l≤h∧h=m∧h≤(n:Int))∧(∀k,k<n→(f k).length=sz+1)∧aP st o.dst (.full (h.toNat-l.toNat) (fun k=>f (l.toNat+k))) K
    | .row r=>match st.obj r with
     | some (.row _ _ n _)=>kK st lo 0 fun l=>kK st (some hi) n fun h=>kK st (some mx) n fun m=>(0≤l∧l≤h∧h≤m∧m≤(n:Int))∧aP st o.dst .any K
     | _=>False
    | _=>False
   | _=>False
  | _=>False
 | _=>False
def rM:Op→Bool
 | .call c=>match c.callee with
  | .builtin .len=>true
  | _=>false
 | .alloc _=>false
 | .box _ _=>false
 | .store _ _ _=>false
 | .buildSlice _ _ _=>false
 | .makeSlice _ _ _=>false
 | .makeMap _ _=>false
 | .insert _ _ _ _=>false
 | .mapUpdate _ _ _ _=>false
 | .lookup _ _ _ _=>false
 | _=>true
def jL:Op→Bool
 | .store _ _ _=>false
 | .insert _ _ _ _=>false
 | .mapUpdate _ _ _ _=>false
 | .call c=>match c.callee with
  | .builtin .append=>false
  | .builtin .clear=>false
  | .builtin .copy=>false
  | _=>true
 | _=>true
def auq (X:aY) (x:Operand) (d:Option Nat) (st:St) (K:St→Prop):Prop:=ajO X (st.ev x) d st K
def abM (X:aY) (o:Oper) (st:St) (K:St→Prop):Prop:=
 match o.op with
 | .call c=>ags X c o st K
 | .load _ _=>y5 X o st K
 | .fieldAddr _ _ _=>y5 X o st K
 | .indexAddr _ _ _=>y5 X o st K
 | .assign x=>match frz X o.dst with
  | true=>auq X x o.dst st K
  | false=>yX X o st K
 | _=>yX X o st K
def aeA (X:aY) (o:Oper) (st:St) (K:St→Prop):Prop:=
 match o.op with
 | .makeSlice T l c=>match look X.Tb T with
  | some ⟨.slice e,_,_,_⟩=>match look X.Tb e with
   | some ⟨_,sz+1,by_,z⟩=>match st.ev l,st.ev c with
    | .p _ (.val (.int _ n)),.p _ (.val (.int _ m))=>(0≤n∧n≤m∧m≤281474976710655∧by_*m.toNat≤281474976710656)∧aP st o.dst (.p false (.seq n.toNat fun _=>vals z)) K
    | _,_=>False
   | _=>False
  | _=>False
 | .buildSlice T len parts=>match look X.Tb T with
  | some ⟨.slice e,_,_,_⟩=>match look X.Tb e with
   | some ⟨_,sz+1,_,z⟩=>
    match uU (fun i=>match i.blt len with | true=>some (i*(sz+1),sz+1) | false=>none) st (aaT len (zeros z)) parts.toList with
    | some cs=>match w9 cs with
     | some (_,ds)=>match (len*(sz+1)).blt 1000 with
      | true=>aP st o.dst (.p false (.seq len (aU (sz+1) ds))) K
      | false=>False
     | none=>False
    | none=>False
   | _=>False
  | _=>False
 | _=>False
def av9 (X:aY) (d:Option Nat):Bool:=
 match d with
 | some t=>iK (t+4000000) X.inl
 | none=>false
def ait (X:aY) (gr:Bool) (o:Oper) (st:St) (K:St→Prop):Prop:=
 match o.op with
 | .call c=>acf X gr c o st K
 | _=>match av9 X o.dst with
  | true=>aeA X o st K
  | false=>agB X o st K
def isBytes (Tb:Tab) (s t:Nat):Bool:=
 match look Tb s,look Tb t with
 | some ⟨.string,_,_,_⟩,some ⟨.slice _,_,_,_⟩=>true
 | some ⟨.slice _,_,_,_⟩,some ⟨.slice _,_,_,_⟩=>true
 | _,_=>false
def aat (X:aY) (o:Oper) (st:St) (K:St→Prop):Prop:=
 match o.op with
 | .convert s t x=>match look X.Tb s,look X.Tb t with
  | some ⟨.string,_,_,_⟩,some ⟨.slice e,_,_,_⟩=>match look X.Tb e with
   | some ⟨.int .u8,_,_,_⟩=>match st.ev x with
    | .p _ (.val (.string v))=>v.size≤maxLen∧aP st o.dst (.p X.nw (.seq v.size (qo v))) K
    | _=>False
   | _=>False
  | some ⟨.slice e,_,_,_⟩,some ⟨.slice _,_,_,_⟩=>match s.beq t,look X.Tb e with
   | true,some ⟨.int .u8,_,_,_⟩=>match st.ev x with
    | .row i=>match X.m.ble i,st.obj i with
     | true,some (.row _ _ n f)=>0<n∧aP (st.eX i none) o.dst (.p false (.seq n f)) K
     | _,_=>False
    | _=>False
   | _,_=>False
  | _,_=>False
 | _=>False
def step0 (X:aY) (gr:Bool) (o:Oper) (st:St) (K:St→Prop):Prop:=
 match bY X.nt o.dst,rM o.op with
 | true,true=>match gr,o.op with
  | false,.convert s t _=>match isBytes X.Tb s t with
   | true=>aat X o st K
   | false=>abM X o st K
  | _,_=>abM X o st K
 | true,false=>ait X gr o st K
 | false,_=>False
def amO (st:St) (js:List Nat) (s:SV):SV:=
 match s with
 | .row i=>match iK i js,st.obj i with
  | true,some (.row _ _ n f)=>.p false (.seq n f)
  | _,_=>.row i
 | s=>s
def aq4 (js:List Nat):List SV→Bool
 | []=>false
 | .row i :: l=>(iK i js).or (aq4 js l)
 | _ :: l=>aq4 js l
def oH (st:St) (js:List Nat):Nat→List (Nat×Option Ob)
 | 0=>st.ob
 | n+1=>match st.obj n with
  | some (.cells T cs)=>match aq4 js cs with
   | true=>(n,some (.cells T (cs.map (amO st js)))) :: oH st js n
   | false=>oH st js n
  | _=>oH st js n
def aqR (X:aY) (t:Nat) (st:St) (K:St→Prop):Prop:=
 match st.get t with
 | .agg l=>match lu X.m (reach st 5 (.agg l) []),mH st (reach st 5 (.agg l) []) 5 (.agg l) with
  | true,some d'=>aP { st with ob:=jM (reach st 5 (.agg l) []) (oH st (reach st 5 (.agg l) []) st.no) } (some t) (.p false d') K
  | _,_=>False
 | .own i _=>match st.obj i with
  | some (.cells _ cs)=>match reach st 5 (.agg cs) [] with
   | []=>K st
   | j :: js=>match lu X.m (j :: js) with
    | true=>K { st with ob:=jM (j :: js) (oH st (j :: js) st.no) }
    | false=>False
  | _=>False
 | _=>False
def aiP (X:aY) (d:Option Nat) (st:St) (K:St→Prop):Prop:=
 match d with
 | some t=>match iK (t+3000000) X.inl with
  | true=>ajO X (st.get t) (some t) st K
  | false=>match iK (t+5000000) X.inl with
   | true=>aqR X t st K
   | false=>K st
 | none=>K st
def step (X:aY) (gr:Bool) (o:Oper) (st:St) (K:St→Prop):Prop:=step0 X gr o st fun st'=>aiP X o.dst st' K
def amN (want lit:Bool) (A B:Prop):Prop:=
 match want,lit with
 | true,true=>A
 | false,false=>A
 | _,_=>B
def skipped:SV:=.p true (.val (.tuple ⟨[]⟩))
def stepG (X:aY) (gr:Bool) (all:List Oper) (o:Oper) (st:St) (K:St→Prop):Prop:=
 match o.guard with
 | none=>step X gr o st K
 | some (j,want)=>match nth all j with
  | some oj=>match oj.dst with
   | some d=>match st.get d,bY X.nt o.dst with
    | .p _ (.val (.bool t)),true=>oW t
     (aP st (some d) (.p true (.val (.bool true))) fun st=>amN want true (step X gr o st K) (aP st o.dst skipped K))
     (aP st (some d) (.p true (.val (.bool false))) fun st=>amN want false (step X gr o st K) (aP st o.dst skipped K))
    | .p _ (.val (.tuple ⟨[]⟩)),true=>aP st o.dst skipped K
    | _,_=>False
   | none=>False
  | none=>False
noncomputable def af5 (X:aY) (all:List Oper) (l:List Oper):St→(St→Prop)→Prop:=
 List.rec (motive:=fun _=>St→(St→Prop)→Prop) (fun st K=>K st) (fun o _ ih st K=>stepG X false all o st fun st'=>ih st' K) l
theorem amv (X:aY) (all:List Oper) (o:Oper) (rest:List Oper) (st:St) (K:St→Prop):af5 X all (o :: rest) st K=stepG X false all o st fun st'=>af5 X all rest st' K:=rfl
def agR:Op→Bool
 | .call ⟨.builtin .append,⟨[_,_]⟩,⟨[_,_]⟩⟩=>true
 | _=>false
def wE (Tb:Tab) (all:List Oper) (T:Nat):Bool:=
 match all with
 | []=>false
 | o :: l=>match o.op with
  | .call ⟨.builtin .append,⟨[_,_]⟩,⟨[t,_]⟩⟩=>match look Tb t with
   | some ⟨.slice e,_,_,_⟩=>(e.beq T).or (wE Tb l T)
   | _=>wE Tb l T
  | _=>wE Tb l T
def picks (all:List Oper):List Nat→List Oper
 | []=>[]
 | i :: l=>match nth all i with
  | some o=>o :: picks all l
  | none=>picks all l
def agf (X:aY) (all:List Oper) (o:Oper) (st:St) (K:St→Prop):Prop:=
 match o.guard,o.op,bY X.nt o.dst with
 | none,.load T x,true=>match look X.Tb T with
  | some ⟨d,size,_,_⟩=>match su size d,st.ev x with
   | none,.own i off=>match st.obj i with
    | some (.cells T' cs)=>match wE X.Tb all T' with
     | false=>match dA d.isAgg size off cs with
      | some s=>aP st o.dst s K
      | none=>False
     | true=>False
    | _=>False
   | _,_=>False
  | none=>False
 | _,_,_=>False
structure qd where
 l:List Nat
 own:List Nat
 u:Nat→List Nat
 f:Nat→List Nat→SV
 ob:Nat→List Nat→Ob
def numOf:List Nat→Nat→Nat
 | [],_=>0
 | p :: ρ,q=>match p.beq q with
  | true=>ρ.length
  | false=>numOf ρ q
def nums (no:Nat) (ρ us:List Nat):List Nat:=us.map fun q=>no+numOf ρ q
def wo (all:List Oper) (j:Nat):Nat:=
 match nth all j with
 | some o=>match o.dst with
  | some d=>d
  | none=>0
 | none=>0
def afZ (o:Oper):List Nat:=(o.after.toList.filter (Region.binds .any)).map (·.on)
def qj (all:List Oper) (g:Nat→SV) (fr:List (Nat×SV)):List Nat→List (Nat×SV)
 | []=>fr
 | j :: l=>(wo all j,g j) :: qj all g fr l
def akE (A:qd) (no:Nat) (ob:List (Nat×Option Ob)):List Nat→List (Nat×Option Ob)
 | []=>ob
 | p :: ρ=>(no+ρ.length,some (A.ob p (nums no (p :: ρ) (A.u p)))) :: akE A no ob ρ
def setSt (all:List Oper) (A:qd) (st:St) (g:Nat→SV) (ρ:List Nat):St:=⟨qj all g st.fr A.l,akE A st.no st.ob ρ,st.no+ρ.length,st.k⟩
def agF (A:qd) (no:Nat) (ρ:List Nat) (i:Nat) (o:Oper) (s:Nat→SV) (j:Nat):SV:=
 match iK j (afZ o) with
 | true=>A.f j (nums no ρ (A.u j))
 | false=>match j.beq i with
  | true=>.any
  | false=>s j
def nu (A:qd) (i:Nat) (ρ:List Nat):List Nat:=
 match iK i A.own with
 | true=>i :: ρ
 | false=>ρ
structure arG (all:List Oper) (A:qd) (st:St) (i:Nat) (ρ:List Nat) (fr:List (Nat×SV)) (st':St):Prop where
 fr:st'.fr=(wo all i,A.f i (nums st.no (nu A i ρ) (A.u i))) :: fr
 ob:st'.ob=akE A st.no st.ob (nu A i ρ)
 no:st'.no=st.no+(nu A i ρ).length
 k:st'.k=st.k
def akw (A:qd) (i:Nat) (ρ:List Nat):Bool:=(A.u i).all fun q=>(q.beq i).or (iK q ρ)
def yc (X:aY) (all:List Oper) (A:qd) (st:St) (ρ:List Nat) (i:Nat):Prop:=
 match iK i ρ with
 | true=>True
 | false=>match akw A i ρ with
  | false=>True
  | true=>match nth all i with
   | some o=>∀s:Nat→SV,stepG X true all o (setSt all A st (agF A st.no ρ i o s) ρ) (arG all A st i ρ (qj all (agF A st.no ρ i o s) st.fr A.l))
   | none=>False
def y8 (P:Nat→Prop):List Nat→Prop
 | []=>True
 | i :: l=>P i∧y8 P l
def aeG (i:Nat):List Nat→List Nat
 | []=>[]
 | j :: l=>match j.beq i with
  | true=>l
  | false=>j :: aeG i l
def wU (P:List Nat→Prop):Nat→List Nat→List Nat→Prop
 | 0,_,ρ=>P ρ
 | n+1,own,ρ=>P ρ∧y8 (fun p=>wU P n (aeG p own) (p :: ρ)) own
def agY (all:List Oper) (A:qd) (st:St) (ρ:List Nat):St:=setSt all A st (fun j=>A.f j (nums st.no ρ (A.u j))) ρ
def ahe (all:List Oper) (A:qd) (st:St) (K:St→Prop) (ρ:List Nat):Prop:=
 match A.own.all (fun q=>iK q ρ) with
 | true=>K (agY all A st ρ)
 | false=>True
inductive OT:Type
 | done
 | one (i:Nat) (t:OT)
 | alt (i:Nat) (t u:OT)
 | stop
 | wr (i:Nat) (t:OT)
 | altw (i:Nat) (t u:OT)
 | rd (i:Nat) (l:List Nat) (t:OT)
 | nm (t:OT)
 | lim (l:List Nat) (t:OT)
 | set (A:qd) (t:OT)
def OT.seq:List Nat→OT
 | []=>.done
 | i :: l=>.one i (OT.seq l)
def ajN {α:Type} (k:Nat) (v:α):List (Nat×α)→List (Nat×α)
 | []=>[(k,v)]
 | (k',v') :: l=>match k.ble k' with
  | true=>(k,v) :: (k',v') :: l
  | false=>(k',v') :: ajN k v l
def abA {α:Type}:List (Nat×α)→List (Nat×α)
 | []=>[]
 | (k,v) :: l=>ajN k v (abA l)
def afy (st:St):St:=⟨abA st.fr,abA st.ob,st.no,st.k⟩
structure NmK (K:St→Prop) (st:St):Prop where
 out:K (afy st)
noncomputable def jv (X:aY) (all:List Oper) (t:OT):St→(St→Prop)→Prop:=
 OT.rec (motive:=fun _=>St→(St→Prop)→Prop) (fun st K=>K st)
  (fun i _ ih st K=>match nth all i with
   | some o=>stepG X true all o st fun st'=>ih st' K
   | none=>False)
  (fun i _ _ ih1 ih2 st K=>(match nth all i with
   | some o=>stepG X true all o st fun st'=>ih1 st' K
   | none=>False)∧ih2 st K)
  (fun _ _=>True)
  (fun i _ ih st K=>match nth all i with
   | some o=>stepG X false all o st fun st'=>ih st' K
   | none=>False)
  (fun i _ _ ih1 ih2 st K=>(match nth all i with
   | some o=>stepG X false all o st fun st'=>ih1 st' K
   | none=>False)∧ih2 st K)
  (fun i l _ ih st K=>match nth all i with
   | some o=>agf X (picks all l) o st fun st'=>ih st' K
   | none=>False)
  (fun _ ih st K=>NmK (fun s=>ih s K) st)
  (fun _ _ ih st K=>ih st K)
  (fun A _ ih st K=>wU (fun ρ=>y8 (fun i=>yc X all A st ρ i) A.l) A.own.length A.own []∧wU (ahe all A st fun s=>ih s K) A.own.length A.own []) t
theorem am7 (X:aY) (all:List Oper) (A:qd) (t:OT) (st:St) (K:St→Prop):jv X all (.set A t) st K=(wU (fun ρ=>y8 (fun i=>yc X all A st ρ i) A.l) A.own.length A.own []∧wU (ahe all A st fun s=>jv X all t s K) A.own.length A.own []):=rfl
theorem amq (X:aY) (all:List Oper) (l:List Nat) (t:OT) (st:St) (K:St→Prop):jv X all (.lim l t) st K=jv X all t st K:=rfl
theorem aoJ (X:aY) (all:List Oper) (t:OT) (st:St) (K:St→Prop):jv X all (.nm t) st K=NmK (fun s=>jv X all t s K) st:=rfl
theorem aoq (X:aY) (all:List Oper) (i:Nat) (l:List Nat) (t:OT) (st:St) (K:St→Prop):jv X all (.rd i l t) st K=match nth all i with
  | some o=>agf X (picks all l) o st fun st'=>jv X all t st' K
  | none=>False:=rfl
theorem akR (X:aY) (all:List Oper) (i:Nat) (t u:OT) (st:St) (K:St→Prop):jv X all (.altw i t u) st K=((match nth all i with
  | some o=>stepG X false all o st fun st'=>jv X all t st' K
  | none=>False)∧jv X all u st K):=rfl
theorem afG (X:aY) (all:List Oper) (i:Nat) (t:OT) (st:St) (K:St→Prop):jv X all (.one i t) st K=match nth all i with
  | some o=>stepG X true all o st fun st'=>jv X all t st' K
  | none=>False:=rfl
theorem ahq (X:aY) (all:List Oper) (i:Nat) (t:OT) (st:St) (K:St→Prop):jv X all (.wr i t) st K=match nth all i with
  | some o=>stepG X false all o st fun st'=>jv X all t st' K
  | none=>False:=rfl
theorem acj (X:aY) (all:List Oper) (i:Nat) (t u:OT) (st:St) (K:St→Prop):jv X all (.alt i t u) st K=((match nth all i with
  | some o=>stepG X true all o st fun st'=>jv X all t st' K
  | none=>False)∧jv X all u st K):=rfl
inductive LV:Type
 | s (s:SV)
 | rw (T:TypeId) (sz n:Nat) (f:Nat→List PV)
 | ob (o:Ob)
 | rws (T:TypeId) (sz n:Nat) (f:Nat→List PV)
 | ps (d:PV)
def jq (F:Fence):Prop:=F=Fence.wide∨∃l,F=Fence.wide.inRound l
theorem jq.fn {F:Fence} (h:jq F) (f:FuncId):F.fn f:=by
 rcases h with rfl | ⟨l,rfl⟩<;>trivial
theorem jq.depth {F:Fence} (h:jq F):F.depth=none:=by
 rcases h with rfl | ⟨l,rfl⟩<;>rfl
theorem jq.calls {F:Fence} (h:jq F) {n:Nat} {P:Program} {f:FuncId} {args:Array Value} {w:World} {R:Ending→World→Prop} (hc:Calls P f args w R):CallsIn F n P f args w R:=by
 rcases h with rfl | ⟨l,rfl⟩
 all_goals grind [callsIn_wide,CallsIn.inRound]
theorem eG {F:Fence} (hF:jq F) {P:Program} {o:Oper} {a:Act} {w w':World} {next:Act→World→Prop} {Q:Exit→Act→World→Prop} {v:Value}
  (hd:∀c,o.op≠.defer c) (hrun:(execOp a.eval o).run P w=.ok (.value v) w') (hn:next (a.put o.dst v) w'):o.wpIn F 9 P a w next Q:=
 ⟨fun f _=>hF.fn f,by rw[Oper.semAt_plain F _ _ hd,hrun];exact hn⟩
theorem wM {F:Fence} (hF:jq F) {P:Program} {o:Oper} {a:Act} {w w':World} {next:Act→World→Prop} {Q:Exit→Act→World→Prop}
  (hd:∀c,o.op≠.defer c) (hrun:(execOp a.eval o).run P w=.ok .skip w') (hn:next (a.put o.dst undef) w'):o.wpIn F 9 P a w next Q:=
 ⟨fun f _=>hF.fn f,by rw[Oper.semAt_plain F _ _ hd,hrun];exact hn⟩
def Grow (w w':World):Prop:=w.heap.size≤w'.heap.size∧∀b,b<w.heap.size→w'.heap[b]?=w.heap[b]?
theorem Grow.refl (w:World):Grow w w:=⟨abm _,fun _ _=>rfl⟩
theorem Grow.trans {a b c:World} (h:Grow a b) (k:Grow b c):Grow a c:=⟨aiT h.1 k.1,fun x hx=>(k.2 x (alk hx h.1)).trans (h.2 x hx)⟩
theorem Grow.cell {w w':World} (h:Grow w w') {b:Nat} (hb:b<w.heap.size) (k:Nat):w'.cell? ⟨b,k,none⟩=w.cell? ⟨b,k,none⟩:=by
 simp[World.cell?,h.2 b hb]
def aV (R:World→Prop) (P:Program) (o:Oper) (a:Act) (w:World) (next:Act→World→Prop):Prop:=
 ∃v,(∀w1,R w1→(execOp a.eval o).run P w1=.ok (.value v) w1)∧next (a.put o.dst v) w
theorem aV.mk' {R:World→Prop} {P:Program} {o:Oper} {a:Act} {w:World} {next:Act→World→Prop} {v:Value} (h:∀w1,R w1→(execOp a.eval o).run P w1=.ok (.value v) w1) (hn:next (a.put o.dst v) w):aV R P o a w next:=⟨v,h,hn⟩
def gX:Op→Bool
 | .load _ _=>true
 | .convert _ _ _=>true
 | .call c=>match c.callee with
  | .builtin .len=>true
  | _=>false
 | _=>false
theorem aS.aO {μ:Nat→Option (Array Value)} {v u:Value} (h:aS μ v (.val u)):v=u:=by cases h;rfl
theorem aL.aO {E:Env} {b:Bool} {v u:Value} (h:aL E v (.p b (.val u))):v=u:=by cases h with | p _ _ _ h=>exact h.aO
theorem aL.val {E:Env} (b:Bool) (v:Value):aL E v (.p b (.val v)):=.p b v _ (.val v)
theorem akZ (E:Env) (v:Value):aL E v (ofConst v):=by
 unfold ofConst
 split
 ·rename_i cs
  split
  ·rename_i h
   refine .p _ _ _ (.agg _ _ (by simp) (fun k u hu=>?_) (fun k u s hu hs=>?_))
   ·grind
   ·simp only[alh,aer,hu,apr,Option.some.injEq] at hs
    subst hs;exact .val u
  ·exact .any _
 ·exact .fn _ _ _ (by simp) (by grind)
 ·exact .val true v
theorem aI {C:Ctx} {E:Env} {st:St} {a:Act} {w:World} (h:av C E st a w) (x:Operand):aL E (a.eval x) (st.ev x):=by
 cases x with
 | tmp t=>exact h.slot t
 | const v=>exact akZ E v
 | global g=>exact .any _
 | func f=>exact .fn f #[] [] (by simp) (by grind)
theorem aD {C:Ctx} {E:Env} {st:St} {a:Act} {w:World} (h:av C E st a w) {X:aY} (hnt:C.nt=X.nt) {d:Option Nat} (hd:bY X.nt d=true) {s:SV} {v:Value} {K:St→Prop}
  (hk:aP st d s K) (hs:aL E v s) {next:Act→World→Prop} (hn:∀st' E' a' w',K st'→av C E' st' a' w'→next a' w'):next (a.put d v) w:=by
 rw[abb] at hk
 exact hn _ E _ _ hk (h.agt (by grind) hs)
theorem aaq {P:Program} {t:Nat} {i:TI} (h:i.Ok P t) (w:World):(isAgg t).run P w=.ok i.desc.isAgg w:=by
 have hd:=h.desc
 unfold isAgg
 obtain ⟨desc,size,by_,z⟩:=i
 cases desc with
 | struct l=>obtain ⟨fs,hu,_⟩:=hd;simp[run_underlying hu,TD.isAgg]
 | other=>
  obtain ⟨d,hu,h1,h2⟩:=hd
  simp_all [run_underlying,TD.isAgg]
 | _=>simp only[TD.Ok] at hd;simp[run_underlying hd,TD.isAgg]
theorem eY {P:Program} {t:Nat} {i:TI} (h:i.Ok P t) (w:World):(sizeOf t).run P w=.ok i.size w:=by
 obtain ⟨I,hI,hs,_⟩:=h.info
 simp_all [sizeOf,typeInfo]
theorem sj {k k':IntKind} (h:sameKind k k'=true):k=k':=by cases k<;>cases k'<;>first | rfl | (simp[sameKind] at h)
def BR.holds (r:BR) (x:Sem Value) (P:Program) (w:World):Prop:=
 match r with
 | .ok v=>x.run P w=.ok v w
 | .need p v=>p→x.run P w=.ok v w
 | .no=>True
theorem amA (op:BinOp) (k:IntKind) (a b:Int) (t:Nat) (P:Program) (w:World):(ze op k a b).holds (binOp op t (.int k a) (.int k b)) P w:=by
 cases op<;>simp only[ze,BR.holds,binOp,Op.shift,Op.intArith,Op.intDiv,Op.intBits,Op.intCmp,ne_eq,not_true_eq_false,if_false]
 all_goals first
  | rfl
  | simp_all [if_neg]
  | simp_all [if_neg]
theorem adz (op:BinOp) (hop:op=.shl∨op=.shr) (k k':IntKind) (a b:Int) (t:Nat) (P:Program) (w:World):(ze op k a b).holds (binOp op t (.int k a) (.int k' b)) P w:=by
 rcases hop with rfl | rfl<;>simp only[ze,BR.holds,binOp,Op.shift]<;>(simp_all [if_neg])
theorem amQ (op:BinOp) (x y:ByteArray) (t:Nat) (P:Program) (w:World):(ai6 op x y).holds (binOp op t (.string x) (.string y)) P w:=by
 cases op<;>simp only[ai6,BR.holds,binOp,Op.stringOp,←ByteArray.toList_eq]
 all_goals first
  | rfl
  | simp_all
theorem akr {P:Program} {w:World} (op:BinOp) (t:Nat) (x y:Operand) (a b:Value) (h:(∀u v,¬(a=.agg u∧b=.agg v))∧¬(a=.nilIface∧b=.nilIface)):(eqGuard op t x y a b).run P w=.ok () w:=by
 cases op<;>try rfl
 all_goals
  cases a<;>cases b<;>first | rfl | grind | grind
theorem iQ {P:Program} {t:Nat} {i:TI} (h:i.Ok P t) (ha:i.desc.isAgg=false) (cs:Array Value) (off:Nat) (v:Value) (hv:cs[off]?=some v) (w:World):(part t cs off).run P w=.ok v w:=by
 unfold part
 simp[aaq h,ha,hv]
theorem aek {P:Program} {Tb:Tab} (hTb:Tb.Ok P) (d:Nat) (vs ws:Array Value) (w:World):∀(Fs:List Field) (n:Nat) (xs ys:List PV) (r:Bool),
  ku Tb (Fs.map fun f=>(f.offset,f.type)) n xs ys=some r→(∀f∈Fs,f.name≠"_") →
  (∀(k:Nat) (x:Value),xs[k]?=some (.val x)→vs[n+k]?=some x)→(∀(k:Nat) (x:Value),ys[k]?=some (.val x)→ws[n+k]?=some x) →
  (Op.eqFields (d+1) vs ws Fs).run P w=.ok r w
 | [],n,xs,ys,r,h,_,_,_=>by
  cases xs<;>cases ys<;>simp[ku] at h
  simp_all [Op.eqFields]
 | f :: Fs,n,xs,ys,r,h,hn,h1,h2=>by
  cases xs with
  | nil=>simp[ku] at h
  | cons x xs=>
   cases ys with
   | nil=>cases x<;>simp[ku] at h
   | cons y ys=>
    cases x<;>try (simp[ku] at h;done)
    cases y<;>try (simp[ku] at h;done)
    rename_i x y
    simp only[awv,ku] at h
    cases hof:f.offset.beq n with
    | false=>grind
    | true=>
     have hoff:=acD hof
     simp only[hof,cond_true] at h
     have hx:vs[f.offset]?=some x:=by rw[hoff];exact h1 0 x rfl
     have hy:ws[f.offset]?=some y:=by rw[hoff];exact h2 0 y rfl
     have hnm:f.name≠"_":=hn f (by simp)
     have again:∀r',ku Tb (Fs.map fun f=>(f.offset,f.type)) (n+1) xs ys=some r'→(Op.eqFields (d+1) vs ws Fs).run P w=.ok r' w:=fun r' hr'=>
      aek hTb d vs ws w Fs (n+1) xs ys r' hr' (fun g hg=>hn g (by simp[hg]))
       (fun k z hz=>by have:=h1 (k+1) z (by simpa using hz);grind)
       (fun k z hz=>by have:=h2 (k+1) z (by simpa using hz);grind)
     have fin:∀(i:TI) (e:Bool),look Tb f.type=some i→i.desc.isAgg=false→(Op.equalIn (d+1) f.type x y).run P w=.ok e w →
       (ku Tb (Fs.map fun f=>(f.offset,f.type)) (n+1) xs ys).map (fun r=>e&&r)=some r→(Op.eqFields (d+1) vs ws (f :: Fs)).run P w=.ok r w:=by
      intro i e hi ha he hr
      have hok:=hTb _ _ hi
      cases hr':ku Tb (Fs.map fun f=>(f.offset,f.type)) (n+1) xs ys with
      | none=>grind
      | some r'=>
       simp only[hr',apr,Option.some.injEq] at hr
       subst hr
       simp only[Op.eqFields,ne_eq,hnm,not_false_eq_true,if_true,Sem.run_bind,iQ hok ha _ _ _ hx,iQ hok ha _ _ _ hy,Result.andThen_ok,he]
       cases e
       all_goals simp_all
     split at h
     ·rename_i k _ _ _ k1 a k2 b hi
      cases hk:sameKind k1 k2 with
      | false=>simp[hk] at h
      | true=>
       obtain rfl:=sj hk
       simp only[hk,cond_true] at h
       have hd:=(hTb _ _ hi).desc
       exact fin _ _ hi rfl (run_equalIn_int w d f.type k1 k a b hd) h
     ·rename_i _ _ _ a b hi
      exact fin _ _ hi rfl (run_equalIn_bool' w d f.type a b (hTb _ _ hi).desc) h
     ·rename_i _ _ _ a b hi
      exact fin _ _ hi rfl (run_equalIn_string w d f.type a b (hTb _ _ hi).desc) (by grind [ByteArray.toList_eq])
     ·cases h
theorem afQ {P:Program} {e:Nat} {i:TI} (h:i.Ok P e) (ha:i.desc.isAgg=false) {k0:IntKind} (hu:P.underlying e=some (.int k0)) (d:Nat) (vs ws:Array Value) (w:World):∀(m j:Nat) (xs ys:List PV) (r:Bool),wL m xs ys=some r →
  (∀(k:Nat) (x:Value),xs[k]?=some (.val x)→vs[j+k]?=some x)→(∀(k:Nat) (x:Value),ys[k]?=some (.val x)→ws[j+k]?=some x) →
  (Op.eqItems (d+1) e 1 vs ws (List.range' j m)).run P w=.ok r w
 | 0,j,xs,ys,r,hr,_,_=>by
  cases xs<;>cases ys<;>simp[wL] at hr
  simp_all [Op.eqItems]
 | m+1,j,xs,ys,r,hr,h1,h2=>by
  unfold wL at hr
  split at hr
  ·omega
  ·rename_i m' k a xs k' b ys hm
   obtain rfl:m=m':=by omega
   cases hk:sameKind k k' with
   | false=>grind
   | true=>
    obtain rfl:=sj hk
    simp only[hk,cond_true] at hr
    cases hr':wL m xs ys with
    | none=>grind
    | some r'=>
     simp only[hr',apr,Option.some.injEq] at hr
     subst hr
     have ih:=afQ h ha hu d vs ws w m (j+1) xs ys r' hr'
      (fun q z hz=>by have:=h1 (q+1) z (by simpa using hz);grind)
      (fun q z hz=>by have:=h2 (q+1) z (by simpa using hz);grind)
     have p1:=iQ h ha vs (j*1) _ (by rw[auY];exact h1 0 _ rfl) w
     have p2:=iQ h ha ws (j*1) _ (by rw[auY];exact h2 0 _ rfl) w
     simp only[axD,Op.eqItems,Sem.run_bind,p1,p2,Result.andThen_ok,run_equalIn_int w d e k k0 a b hu]
     cases hab:(a==b)
     all_goals simp_all
  ·cases hr
theorem ac4 {P:Program} {e:Nat} {i:TI} (h:i.Ok P e) (ha:i.desc.isAgg=false) (hu:P.underlying e=some .bool) (d:Nat) (vs ws:Array Value) (w:World):∀(m j:Nat) (xs ys:List PV) (r:Bool),uf m xs ys=some r →
  (∀(k:Nat) (x:Value),xs[k]?=some (.val x)→vs[j+k]?=some x)→(∀(k:Nat) (x:Value),ys[k]?=some (.val x)→ws[j+k]?=some x) →
  (Op.eqItems (d+1) e 1 vs ws (List.range' j m)).run P w=.ok r w
 | 0,j,xs,ys,r,hr,_,_=>by
  cases xs<;>cases ys<;>simp[uf] at hr
  simp_all [Op.eqItems]
 | m+1,j,xs,ys,r,hr,h1,h2=>by
  unfold uf at hr
  split at hr
  ·omega
  ·rename_i m' a xs b ys hm
   obtain rfl:m=m':=by omega
   cases hr':uf m xs ys with
   | none=>grind
   | some r'=>
    simp only[hr',apr,Option.some.injEq] at hr
    subst hr
    have ih:=ac4 h ha hu d vs ws w m (j+1) xs ys r' hr'
     (fun q z hz=>by have:=h1 (q+1) z (by simpa using hz);grind)
     (fun q z hz=>by have:=h2 (q+1) z (by simpa using hz);grind)
    have p1:=iQ h ha vs (j*1) _ (by rw[auY];exact h1 0 _ rfl) w
    have p2:=iQ h ha ws (j*1) _ (by rw[auY];exact h2 0 _ rfl) w
    simp only[axD,Op.eqItems,Sem.run_bind,p1,p2,Result.andThen_ok,run_equalIn_bool' w d e a b hu]
    cases hab:(a==b)
    all_goals simp_all
  ·cases hr
theorem ajD {P:Program} {t e n:Nat} (hu:P.underlying t=some (.array n e)) (he:P.underlying e=some .bool):P.eqGuardType P.depth t=false:=by
 show P.eqGuardType (2*(P.types.size+Made.depth)+1+1) t=false
 grind [Program.eqGuardType]
theorem ak2 {P:Program} {t e n:Nat} {k:IntKind} (hu:P.underlying t=some (.array n e)) (he:P.underlying e=some (.int k)):P.eqGuardType P.depth t=false:=by
 show P.eqGuardType (2*(P.types.size+Made.depth)+1+1) t=false
 grind [Program.eqGuardType]
theorem ji {E:Env} {v:Value} {i off:Nat} (h:aL E v (.own i off)):∃b,E.hd i=some (.pointer (some ⟨b,0,none⟩))∧v=.pointer (some ⟨b,off,none⟩):=by
 cases h with | own _ _ b hb=>grind
theorem ak1 {P:Program} {t:Nat} {fs:Array Field} (h:P.underlying t=some (.struct fs)):P.fieldsOf t=fs:=by simp[Program.fieldsOf,h]
theorem aS.mX {μ:Nat→Option (Array Value)} {v:Value} {l:List PV} (h:aS μ v (.agg l)) :
  ∃vs:Array Value,v=.agg vs∧vs.size=l.length∧(∀(k:Nat) (u:Value),vs[k]?=some u→u.oneCell'=true)∧∀(k:Nat) (u:Value) (s:PV),vs[k]?=some u→l[k]?=some s→aS μ u s:=by
 cases h with | agg vs _ hl h1 he=>grind
theorem aci {μ:Nat→Option (Array Value)} {vs:Array Value} {l:List PV} (hl:vs.size=l.length) (he:∀(k:Nat) (u:Value) (s:PV),vs[k]?=some u→l[k]?=some s→aS μ u s) :
  ∀(k:Nat) (x:Value),l[k]?=some (.val x)→vs[0+k]?=some x:=by
 intro k x hx
 have hk:k<vs.size:=by grind
 have:=he k vs[k] _ (by simp[hk]) hx
 rw[ajv,acC hk,this.aO]
theorem rY (g:Nat→PV):∀(n i k:Nat),(pW g i n)[k]?=if k<n then some (g (i+k)) else none
 | 0,i,k=>by simp[pW]
 | n+1,i,0=>by simp[pW]
 | n+1,i,k+1=>by
  simp only[pW,anI,rY g n (i+1) k,Nat.add_lt_add_iff_right]
  grind
theorem nY (n:Nat) (g:Nat→PV) (k:Nat):(iJ n g)[k]?=if k<n then some (g k) else none:=by
 unfold iJ;rw[rY,ajv]
theorem aoU {P:Program} {Tb:Tab} (hTb:Tb.Ok P) {E:Env} (op:BinOp) (t:Nat) (ox oy:Operand) {vx vy:Value} {sx sy:SV} (hx:aL E vx sx) (hy:aL E vy sy) (w:World) :
  (binop Tb op t sx sy).holds (do eqGuard op t ox oy vx vy;binOp op t vx vy) P w:=by
 have plain:∀(r:BR),((∀u v,¬(vx=.agg u∧vy=.agg v))∧¬(vx=.nilIface∧vy=.nilIface))→r.holds (binOp op t vx vy) P w→r.holds (do eqGuard op t ox oy vx vy;binOp op t vx vy) P w:=by
  simp_all [akr,BR.holds]
 unfold binop
 split
 ·obtain rfl:=hx.aO
  obtain rfl:=hy.aO
  split
  ·grind [adz]
  ·grind [adz]
  ·rename_i _ k1 _ _ k2 _ _ _ _
   cases hk:sameKind k1 k2 with
   | false=>trivial
   | true=>
    grind [sj,amA]
 ·obtain rfl:=hx.aO
  obtain rfl:=hy.aO
  grind [amQ]
 ·obtain rfl:=hx.aO
  obtain rfl:=hy.aO
  split
  ·rename_i hi
   have hd:P.underlying t=some .bool:=(hTb _ _ hi).desc
   refine plain _ (by simp) ?_
   have he:=fun a b=>run_equal_bool (P:=P) w t a b hd
   cases op<;>simp only[amc,BR.holds,binOp,Sem.run_bind,he,Result.andThen_ok]<;>rfl
  ·trivial
 ·rename_i xs _ ys
  split
  ·rename_i fs _ _ _ hi
   have hd:=(hTb _ _ hi).desc
   obtain ⟨Fs,hu,hf,hp,hn,hg,_⟩:=hd
   obtain ⟨vs,rfl,hvl,_,hve⟩:=(show aS _ _ _ by cases hx with | p _ _ _ h=>exact h:aS _ vx (.agg xs)).mX
   obtain ⟨ws,rfl,hwl,_,hwe⟩:=(show aS _ _ _ by cases hy with | p _ _ _ h=>exact h:aS _ vy (.agg ys)).mX
   have hgd:∀op,(eqGuard op t ox oy (.agg vs) (.agg ws)).run P w=.ok () w:=by
    simp_all [eqGuard]
   have hnm:∀f∈Fs.toList,f.name≠"_":=by
    grind [Array.all_eq_true_iff_forall_mem]
   have heq:∀r,ku Tb fs 0 xs ys=some r→(Op.equal t (.agg vs) (.agg ws)).run P w=.ok r w:=by
    intro r hr
    have:=aek hTb 9998 vs ws w Fs.toList 0 xs ys r (by rw[←hf] at hr;exact hr) hnm (aci hvl hve) (aci hwl hwe)
    grind [Op.equal,Op.maxDepth,run_equalIn_struct,ak1]
   split
   ·split
    all_goals simp_all [BR.holds,binOp]
   ·split
    all_goals simp_all [BR.holds,binOp]
   ·trivial
  ·rename_i n e _ _ _ hi
   have hu:P.underlying t=some (.array n e):=(hTb _ _ hi).desc
   split
   ·rename_i k0 _ _ hie
    have hue:P.underlying e=some (.int k0):=(hTb _ _ hie).desc
    obtain ⟨I,hI,hIs,_⟩:=(hTb _ _ hie).info
    have hc:P.cellsOf e=1:=by grind [Program.cellsOf]
    obtain ⟨vs,rfl,hvl,_,hve⟩:=(show aS _ _ _ by cases hx with | p _ _ _ h=>exact h:aS _ vx (.agg xs)).mX
    obtain ⟨ws,rfl,hwl,_,hwe⟩:=(show aS _ _ _ by cases hy with | p _ _ _ h=>exact h:aS _ vy (.agg ys)).mX
    have hg:=ak2 hu hue
    have hgd:∀op,(eqGuard op t ox oy (.agg vs) (.agg ws)).run P w=.ok () w:=by
     simp_all [eqGuard]
    have heq:∀r,wL n xs ys=some r→(Op.equal t (.agg vs) (.agg ws)).run P w=.ok r w:=by
     intro r hr
     have:=afQ (hTb _ _ hie) rfl hue 9998 vs ws w n 0 xs ys r hr (aci hvl hve) (aci hwl hwe)
     unfold Op.equal
     rw[show Op.maxDepth=9999+1 from rfl,run_equalIn_array w 9999 vs ws hu hI,hc,axI]
     exact this
    split
    ·split
     all_goals simp_all [BR.holds,binOp]
    ·split
     all_goals simp_all [BR.holds,binOp]
    ·trivial
   ·trivial
  ·trivial
 ·rename_i m f _ m' g
  split
  ·rename_i n e _ _ _ hi
   have hu:P.underlying t=some (.array n e):=(hTb _ _ hi).desc
   split
   ·rename_i hnn hie
    simp only[abj] at hnn
    obtain rfl:=acD hnn.1
    obtain rfl:=acD hnn.2
    have hue:P.underlying e=some .bool:=(hTb _ _ hie).desc
    obtain ⟨I,hI,hIs,_⟩:=(hTb _ _ hie).info
    have hc:P.cellsOf e=1:=by grind [Program.cellsOf]
    obtain ⟨vs,rfl,hve⟩:∃vs,vx=.agg vs∧∀(k:Nat) (x:Value),(iJ n f)[k]?=some (.val x)→vs[k]?=some x:=by
     cases hx with
     | p _ _ _ h=>cases h with
      | arr vs _ _ u hs hc he=>
       refine ⟨vs,rfl,fun k x hk=>?_⟩
       rw[nY] at hk
       split at hk
       ·rename_i hkn
        have hp:=he k hkn
        rw[Option.some.inj hk] at hp
        rw[(hc k hkn).1,hp.aO]
       ·cases hk
    obtain ⟨ws,rfl,hwe⟩:∃ws,vy=.agg ws∧∀(k:Nat) (x:Value),(iJ n g)[k]?=some (.val x)→ws[k]?=some x:=by
     cases hy with
     | p _ _ _ h=>cases h with
      | arr vs _ _ u hs hc he=>
       refine ⟨vs,rfl,fun k x hk=>?_⟩
       rw[nY] at hk
       split at hk
       ·rename_i hkn
        have hp:=he k hkn
        rw[Option.some.inj hk] at hp
        rw[(hc k hkn).1,hp.aO]
       ·cases hk
    have hg:=ajD hu hue
    have hgd:∀op,(eqGuard op t ox oy (.agg vs) (.agg ws)).run P w=.ok () w:=by
     simp_all [eqGuard]
    have heq:∀r,uf n (iJ n f) (iJ n g)=some r→(Op.equal t (.agg vs) (.agg ws)).run P w=.ok r w:=by
     intro r hr
     have:=ac4 (hTb _ _ hie) rfl hue 9998 vs ws w n 0 _ _ r hr (fun k x hk=>by grind) (fun k x hk=>by grind)
     unfold Op.equal
     rw[show Op.maxDepth=9999+1 from rfl,run_equalIn_array w 9999 vs ws hu hI,hc,axI]
     exact this
    split
    ·split
     all_goals simp_all [BR.holds,binOp]
    ·split
     all_goals simp_all [BR.holds,binOp]
    ·trivial
   ·trivial
  ·trivial
 ·trivial
theorem aq5 {P:Program} {E:Env} (op:UnOp) {vx:Value} {sx:SV} (hx:aL E vx sx) (w:World):(unop op sx).holds (Op.unary op vx) P w:=by
 unfold unop
 split
 ·obtain rfl:=hx.aO;rfl
 ·obtain rfl:=hx.aO;rfl
 ·obtain rfl:=hx.aO
  rename_i k n
  simp only[BR.holds,Op.unary]
  cases hs:k.signed<;>rfl
 ·trivial
theorem agb {C:Ctx} {E:Env} {st:St} {a:Act} {w:World} (h:av C E st a w) {X:aY} (hnt:C.nt=X.nt) {d:Option Nat} (hd:bY X.nt d=true) {r:BR} {K:St→Prop}
  (hk:rV st d r K) {x:Sem Value} {P:Program} (hr:∀w1,r.holds x P w1) {next:Act→World→Prop} (hn:∀st' E' a' w',K st'→av C E' st' a' w'→next a' w') :
  ∃v,(∀w1,x.run P w1=.ok v w1)∧next (a.put d v) w:=by
 cases r with
 | ok v=>exact ⟨v,hr,aD h hnt hd hk (.val _ _) hn⟩
 | need p v=>exact ⟨v,fun w1=>hr w1 hk.1,aD h hnt hd hk.2 (.val _ _) hn⟩
 | no=>exact hk.elim
theorem vH {E:Env}:∀(l:List SV) (b:Bool) (ds:List PV),w9 l=some (b,ds)→l.length=ds.length∧∀(k:Nat) (u:Value) (s:SV) (d:PV),l[k]?=some s→ds[k]?=some d→aL E u s→aS (E.m b) u d
 | [],b,ds,h=>by grind [w9]
 | s :: l,b,ds,h=>by
  cases s<;>simp only[w9] at h<;>try (cases h;done)
  rename_i b' d
  cases hr:w9 l with
  | none=>simp[hr] at h
  | some r=>
   obtain ⟨c,ds'⟩:=r
   simp only[hr,Option.some.injEq,Prod.mk.injEq] at h
   obtain ⟨rfl,rfl⟩:=h
   obtain ⟨h1,h2⟩:=vH l c ds' hr
   refine ⟨by simp[h1],fun k u s d' hs hd hrep=>?_⟩
   have weak:∀(x y:Bool),∀B cs,E.m x B=some cs→((x=true∧y=true)∨(x&&y)=false)→E.m (x&&y) B=some cs:=by
    intro x y B cs hB hxy
    rcases hxy with ⟨rfl,rfl⟩ | hxy
    ·exact hB
    ·rw[hxy];exact E.fC x _ _ hB
   cases k with
   | zero=>
    simp only[axo,Option.some.injEq] at hs hd
    subst hs;subst hd
    cases hrep with
    | p _ _ _ hp=>
     refine hp.mono fun B cs hB=>weak b' c B cs hB ?_
     cases b'<;>cases c<;>simp
   | succ k=>
    simp only[anI] at hs hd
    refine (h2 k u s d' hs hd hrep).mono fun B cs hB=>?_
    have:=weak c b' B cs hB (by cases b'<;>cases c<;>simp)
    grind
theorem wu {E:Env} {vs:Array Value} {l:List SV} (hl:vs.size=l.length) (h1:∀(k:Nat) (u:Value),vs[k]?=some u→u.oneCell'=true)
  (he:∀(k:Nat) (u:Value) (s:SV),vs[k]?=some u→l[k]?=some s→aL E u s):aL E (.agg vs) (oM l):=by
 unfold oM
 split
 ·rename_i b ds h
  obtain ⟨h2,h3⟩:=vH (E:=E) l b ds h
  refine .p _ _ _ (.agg vs ds (by omega) h1 fun k u d hu hd=>?_)
  have hk:k<l.length:=by grind
  exact h3 k u l[k] d (by simp[hk]) hd (he k u l[k] hu (by simp[hk]))
 ·exact .agg vs l hl h1 he
theorem jW (b:Bool):∀(l:List PV) (k:Nat),(fG b l)[k]?=(l[k]?).map (SV.p b)
 | [],k=>by simp[fG]
 | d :: l,0=>by simp[fG]
 | d :: l,k+1=>by simp[fG,jW b l k]
theorem pQ (b:Bool):∀(l:List PV),(fG b l).length=l.length
 | []=>rfl
 | d :: l=>by simp[fG,pQ b l]
theorem fT {α:Type}:∀(l:List α) (n:Nat),nth l n=l[n]?
 | [],n=>by simp[nth]
 | x :: l,0=>rfl
 | x :: l,n+1=>by simp[nth,fT l n]
theorem vB {α:Type}:∀(n:Nat) (l:List α),dH n l=l.drop n
 | 0,l=>rfl
 | n+1,[]=>rfl
 | n+1,x :: l=>by simp[dH,vB n l]
theorem ai1 {α:Type}:∀(n:Nat) (l r:List α),takeN n l=some r→r=l.take n∧n≤l.length
 | 0,l,r,h=>by grind [takeN]
 | n+1,[],r,h=>by grind [takeN]
 | n+1,x :: l,r,h=>by
  simp only[takeN] at h
  cases hr:takeN n l with
  | none=>simp[hr] at h
  | some r'=>
   simp only[hr,Option.some.injEq] at h
   subst h
   obtain ⟨rfl,h2⟩:=ai1 n l r' hr
   exact ⟨rfl,by simp;omega⟩
theorem aa2 (g:Nat→PV):∀(n i:Nat),(pW g i n).length=n
 | 0,_=>rfl
 | n+1,i=>by simp[pW,aa2 g n (i+1)]
theorem aaM (n:Nat) (g:Nat→PV):(iJ n g).length=n:=aa2 g n 0
theorem acX:∀(l:List PV) (k:Nat),nH l k=l.getD k (.val undef)
 | [],k=>by simp[nH]
 | d :: l,0=>by simp[nH]
 | d :: l,k+1=>by simp[nH,acX l k]
theorem aS.iD {μ:Nat→Option (Array Value)} {v:Value} {n:Nat} {f:Nat→PV} (h:aS μ v (.arr n f)) :
  ∃vs,v=.agg vs∧vs.size=n∧∀k,k<n→∃u,vs[k]?=some u∧u.oneCell'=true∧aS μ u (f k):=by
 cases h with
 | arr vs n f u hs hc he=>grind
theorem aS.wz {μ:Nat→Option (Array Value)} {vs:Array Value} {n:Nat} {f:Nat→PV} (hs:vs.size=n) (h:∀k,k<n→∃u,vs[k]?=some u∧u.oneCell'=true∧aS μ u (f k)):aS μ (.agg vs) (.arr n f):=by
 refine .arr vs n f (fun k=>vs.getD k undef) hs (fun k hk=>?_) (fun k hk=>?_)
 all_goals simp_all
theorem adx {E:Env} {n:Nat} {s:SV} {b:Bool} {g:Nat→PV} (ha:adV n s=some (b,g)) {v:Value} (h:aL E v s):aS (E.m b) v (.arr n g):=by
 unfold adV at ha
 split at ha
 ·split at ha
  ·rename_i hb
   obtain rfl:=acD hb
   cases ha
   cases h with | p _ _ _ hp=>exact hp
  ·cases ha
 ·split at ha
  ·rename_i hb
   cases ha
   have hb:=acD hb
   cases h with
   | p _ _ _ hp=>
    obtain ⟨vs,rfl,hl,h1,he⟩:=hp.mX
    grind [aS.wz,acX]
  ·cases ha
 ·cases ha
theorem nU {E:Env} {v:Value} {s:SV} (h:aL E v s) {cs:List SV} (hc:cellsOf s=some cs) :
  v.cells.size=cs.length∧(∀(k:Nat) (u:Value),v.cells[k]?=some u→u.oneCell'=true)∧∀(k:Nat) (u:Value) (s:SV),v.cells[k]?=some u→cs[k]?=some s→aL E u s:=by
 have single:∀(v:Value) (s:SV),(∀l,v≠.agg l)→(∀l,v≠.tuple l)→aL E v s→cs=[s]→v.cells.size=cs.length∧(∀(k:Nat) (u:Value),v.cells[k]?=some u→u.oneCell'=true)∧∀(k:Nat) (u:Value) (s:SV),v.cells[k]?=some u→cs[k]?=some s→aL E u s:=by
  intro v s ha ht hs hcs
  subst hcs
  have hv:v.cells=#[v]:=by cases v<;>first | rfl | (exact absurd rfl (ha _))
  rw[hv]
  refine ⟨rfl,fun k u hu=>?_,fun k u s' hu hs'=>?_⟩
  ·cases k with
   | zero=>simp at hu;subst hu;cases v<;>first | rfl | (exact absurd rfl (ha _)) | (exact absurd rfl (ht _))
   | succ k=>simp at hu
  ·cases k with
   | zero=>simp at hu hs';subst hu;subst hs';exact hs
   | succ k=>simp at hu
 cases s with
 | p b d=>
  cases d with
  | agg l=>
   simp only[cellsOf,Option.some.injEq] at hc
   subst hc
   cases h with | p _ _ _ h=>
   obtain ⟨vs,rfl,hl,h1,he⟩:=h.mX
   refine ⟨by simp[Value.cells,hl,pQ],h1,fun k u s hu hs=>?_⟩
   rw[jW] at hs
   cases hd:l[k]? with
   | none=>simp[hd] at hs
   | some d=>simp[hd] at hs;subst hs;exact .p _ _ _ (he k u d hu hd)
  | tup l=>simp[cellsOf] at hc
  | val x=>
   obtain rfl:=h.aO
   cases v<;>simp only[cellsOf,Option.some.injEq] at hc<;>try (cases hc;done)
   all_goals exact single _ _ (by simp) (by simp) h hc.symm
  | seq n f=>
   simp only[cellsOf,Option.some.injEq] at hc
   refine single v _ ?_ ?_ h hc.symm<;>(intro l e;subst e;cases h with | p _ _ _ h=>cases h)
  | pt l o=>
   simp only[cellsOf,Option.some.injEq] at hc
   refine single v _ ?_ ?_ h hc.symm<;>(intro l e;subst e;cases h with | p _ _ _ h=>cases h)
  | fn f l=>
   simp only[cellsOf,Option.some.injEq] at hc
   refine single v _ ?_ ?_ h hc.symm<;>(intro l e;subst e;cases h with | p _ _ _ h=>cases h)
  | bnd f l=>
   simp only[cellsOf,Option.some.injEq] at hc
   refine single v _ ?_ ?_ h hc.symm<;>(intro l e;subst e;cases h with | p _ _ _ h=>cases h)
  | arr n g=>
   simp only[cellsOf,Option.some.injEq] at hc
   subst hc
   cases h with | p _ _ _ h=>
   obtain ⟨vs,rfl,hs,hc⟩:=h.iD
   refine ⟨by simp[Value.cells,hs,pQ,aaM],fun k u hu=>?_,fun k u s hu hs'=>?_⟩
   ·have hk:k<n:=by rw[←hs];exact (acG.1 hu).1
    obtain ⟨u',h1,h2,_⟩:=hc k hk
    have hu:vs[k]?=some u:=hu
    rw[h1] at hu;cases hu;exact h2
   ·have hk:k<n:=by rw[←hs];exact (acG.1 hu).1
    obtain ⟨u',h1,_,h3⟩:=hc k hk
    have hu:vs[k]?=some u:=hu
    rw[h1] at hu;cases hu
    rw[jW,nY,if_pos hk] at hs'
    simp at hs';subst hs';exact .p _ _ _ h3
 | agg l=>
  simp only[cellsOf,Option.some.injEq] at hc
  subst hc
  cases h with | agg vs _ hl h1 he=>exact ⟨hl,h1,he⟩
 | tup l=>simp[cellsOf] at hc
 | any=>simp[cellsOf] at hc
 | own i o=>
  simp only[cellsOf,Option.some.injEq] at hc
  refine single v _ ?_ ?_ h hc.symm<;>(intro l e;subst e;cases h)
 | el i sz j o=>
  simp only[cellsOf,Option.some.injEq] at hc
  refine single v _ ?_ ?_ h hc.symm<;>(intro l e;subst e;cases h)
 | sub i sz lo n=>simp[cellsOf] at hc
 | full n f=>simp[cellsOf] at hc
 | row i=>
  simp only[cellsOf,Option.some.injEq] at hc
  refine single v _ ?_ ?_ h hc.symm<;>(intro l e;subst e;cases h with | row _ _ _ hs=>simp[vT] at hs)
 | fn f l=>
  simp only[cellsOf,Option.some.injEq] at hc
  refine single v _ ?_ ?_ h hc.symm<;>(intro l e;subst e;cases h)
 | asl i N lo n=>
  simp only[cellsOf,Option.some.injEq] at hc
  refine single v _ ?_ ?_ h hc.symm<;>(intro l e;subst e;cases h)
 | mp i=>
  simp only[cellsOf,Option.some.injEq] at hc
  refine single v _ ?_ ?_ h hc.symm<;>(intro l e;subst e;cases h)
 | bnd f l=>
  simp only[cellsOf,Option.some.injEq] at hc
  refine single v _ ?_ ?_ h hc.symm<;>(intro l e;subst e;cases h)
def pR (E:Env) (U:Nat→Option Value) (cs:List SV):Prop:=
 ∀(k:Nat) (s:SV),cs[k]?=some s→∃u,U k=some u∧u.oneCell'=true∧aL E u s
theorem amt {E:Env} {vs:Array Value} {cs:List SV} (hl:vs.size=cs.length) (h1:∀(k:Nat) (u:Value),vs[k]?=some u→u.oneCell'=true)
  (he:∀(k:Nat) (u:Value) (s:SV),vs[k]?=some u→cs[k]?=some s→aL E u s):pR E (vs[·]?) cs:=by
 intro k s hs
 have hk:k<vs.size:=by grind
 exact ⟨vs[k],by simp[hk],h1 k _ (by simp[hk]),he k _ s (by simp[hk]) hs⟩
theorem amd {E:Env} {U:Nat→Option Value} {cs:List SV} (h:pR E U cs) {size off:Nat} {s:SV} (hr:dA true size off cs=some s) :
  (off+size≤cs.length∨size=0)∧∀vs:Array Value,vs.size=size→(∀k,k<size→vs[k]?=U (off+k))→aL E (.agg vs) s:=by
 simp only[dA] at hr
 cases ht:takeN size (dH off cs) with
 | none=>grind
 | some l=>
  simp only[ht,Option.some.injEq] at hr
  subst hr
  obtain ⟨rfl,hle⟩:=ai1 _ _ _ ht
  rw[vB] at *
  have hlen:off+size≤cs.length∨size=0:=by grind
  have hll:((cs.drop off).take size).length=size:=by grind
  have hget:∀k,k<size→((cs.drop off).take size)[k]?=cs[off+k]?:=by
   grind
  have main:∀vs:Array Value,vs.size=size→(∀k,k<size→vs[k]?=U (off+k))→aL E (.agg vs) (oM ((cs.drop off).take size)):=by
   intro vs hvs hv
   have get:∀k u,vs[k]?=some u→k<size∧∃s,cs[off+k]?=some s∧U (off+k)=some u:=by
    grind
   refine wu (by rw[hvs,hll]) (fun k u hu=>?_) (fun k u s hu hs=>?_)
   ·obtain ⟨hk,s,hs,hU⟩:=get k u hu
    obtain ⟨u',hu',h1,_⟩:=h _ _ hs
    grind
   ·obtain ⟨hk,s',hs',hU⟩:=get k u hu
    rw[hget k hk,hs'] at hs;cases hs
    obtain ⟨u',hu',_,h2⟩:=h _ _ hs'
    grind
  grind
theorem sI:∀(cs:List SV) (off:Nat) (new r:List SV),splice cs off new=some r →
  r.length=cs.length∧off+new.length≤cs.length∧∀k,r[k]?=if off≤k∧k<off+new.length then new[k-off]? else cs[k]?
 | cs,0,[],r,h=>by
  cases cs<;>simp[splice] at h<;>subst h<;>simp
  all_goals (intro k hk;omega)
 | [],0,x :: new,r,h=>by grind [splice]
 | [],n+1,new,r,h=>by grind [splice]
 | c :: cs,0,x :: new,r,h=>by
  simp only[splice] at h
  cases hr:splice cs 0 new with
  | none=>simp[hr] at h
  | some r'=>
   simp only[hr,Option.some.injEq] at h
   subst h
   obtain ⟨h1,h2,h3⟩:=sI cs 0 new r' hr
   grind
 | c :: cs,n+1,new,r,h=>by
  simp only[splice] at h
  cases hr:splice cs n new with
  | none=>simp[hr] at h
  | some r'=>
   simp only[hr,Option.some.injEq] at h
   subst h
   obtain ⟨h1,h2,h3⟩:=sI cs n new r' hr
   grind
structure lT (E:Env) (vs:Array Value) (cs:List SV):Prop where
 size:vs.size=cs.length
 one:∀(k:Nat) (u:Value),vs[k]?=some u→u.oneCell'=true
 rep:∀(k:Nat) (u:Value) (s:SV),vs[k]?=some u→cs[k]?=some s→aL E u s
theorem lT.at {E:Env} {vs:Array Value} {cs:List SV} (h:lT E vs cs):pR E (vs[·]?) cs:=amt h.size h.one h.rep
theorem lT.of {E:Env} {vs:Array Value} {cs:List SV} (hs:vs.size=cs.length) (h:∀k,k<vs.size→∃u s,vs[k]?=some u∧cs[k]?=some s∧u.oneCell'=true∧aL E u s):lT E vs cs:=by
 refine ⟨hs,fun k u hu=>?_,fun k u s hu hs'=>?_⟩
 all_goals grind
theorem alA (off:Nat):∀(l:List Value) (i:Nat) (cells:Array Value),
  ((l.zipIdx i).foldl (fun (cs:Array Value) (p:Value×Nat)=>cs.setIfInBounds (off+p.2) p.1) cells).size=cells.size ∧
  ∀k,k<cells.size→((l.zipIdx i).foldl (fun (cs:Array Value) (p:Value×Nat)=>cs.setIfInBounds (off+p.2) p.1) cells)[k]?=if off+i≤k∧k<off+i+l.length then l[k-(off+i)]? else cells[k]?
 | [],i,cells=>by
  simp_all
 | v :: l,i,cells=>by
  obtain ⟨h1,h2⟩:=alA off l (i+1) (cells.setIfInBounds (off+i) v)
  simp only[List.zipIdx_cons,avF]
  grind
theorem zy {C:Ctx} {E:Env} {st:St} {a:Act} {w:World} (h:av C E st a w) (place place':Nat→Option (Nat×Nat)) (hpl:∀i p,place i=some p→place' i=some p):∀(parts:List (Nat×Operand)) (vs:Array Value) (cs cs':List SV),
  lT E vs cs→uU place st cs parts=some cs'→∃vs',Instr.fill place' vs (parts.map fun p=>(p.1,a.eval p.2))=some vs'∧lT E vs' cs'
 | [],vs,cs,cs',hA,hf=>by simp[uU] at hf;subst hf;exact ⟨vs,rfl,hA⟩
 | (i,x) :: rest,vs,cs,cs',hA,hf=>by
  simp only[uU] at hf
  split at hf
  ·rename_i off size new hp hc
   cases hb:new.length.beq size with
   | false=>grind
   | true=>
    have hnew:=acD hb
    simp only[hb] at hf
    cases hs:splice cs off new with
    | none=>grind
    | some r=>
     simp only[hs] at hf
     obtain ⟨g1,g2,g3⟩:=nU (aI h x) hc
     obtain ⟨r1,r2,r3⟩:=sI cs off new r hs
     have hfold:=alA off (a.eval x).cells.toList 0 vs
     simp only[axc] at hfold
     obtain ⟨f1,f2⟩:=hfold
     have hA':lT E (((a.eval x).cells.toList.zipIdx 0).foldl (fun (cs:Array Value) (p:Value×Nat)=>cs.setIfInBounds (off+p.2) p.1) vs) r:=by
      refine lT.of (by rw[f1,hA.size,r1]) fun k hk=>?_
      rw[f1] at hk
      rw[f2 k hk,r3 k]
      have hlen:(a.eval x).cells.toList.length=new.length:=by simpa using g1
      rw[hlen]
      by_cases hin:off≤k∧k<off+new.length
      ·grind
      ·rw[if_neg hin,if_neg hin]
       have h1:k<cs.length:=by rw[←hA.size];exact hk
       have e1:vs[k]?=some vs[k]:=acC hk
       have e2:cs[k]?=some cs[k]:=aav h1
       exact ⟨_,_,e1,e2,hA.one _ _ e1,hA.rep _ _ _ e1 e2⟩
     obtain ⟨vs',e1,e2⟩:=zy h place place' hpl rest _ r cs' hA' hf
     refine ⟨vs',?_,e2⟩
     simp only[awv,Instr.fill,hpl _ _ hp]
     have hcond:¬((a.eval x).cells.size≠size∨off+(a.eval x).cells.size>vs.size):=by
      have:=hA.size
      omega
     rw[if_neg (by grind)]
     grind [Array.toList_zipIdx]
  ·cases hf
theorem aaC:∀(l:List Value) (k:Nat),(zeros l)[k]?=(l[k]?).map fun v=>SV.p true (.val v)
 | [],k=>by simp[zeros]
 | v :: l,0=>by simp[zeros]
 | v :: l,k+1=>by simp[zeros,aaC l k]
theorem zeros_length:∀(l:List Value),(zeros l).length=l.length
 | []=>rfl
 | v :: l=>by simp[zeros,zeros_length l]
theorem TI.Ok.o7 {P:Program} {t:Nat} {i:TI} (h:i.Ok P t) (E:Env):∃I z,P.info? t=some I∧I.zero=some z∧I.size=i.size∧z.cells.size=i.size∧lT E z.cells (zeros i.zero):=by
 obtain ⟨I,hI,hs,_,z,hz,hzl,h1,hsz⟩:=h.info
 refine ⟨I,z,hI,hz,hs,hsz,by grind [zeros_length],h1,fun k u s hu hs=>?_⟩
 rw[aaC,←hzl] at hs
 simp only[aer,hu,apr,Option.some.injEq] at hs
 subst hs;exact .val _ _
theorem aaw {P:Program} {Tb:Tab} (hTb:Tb.Ok P) {fs:Array Field} {i:Nat} {p:Nat×Nat} (h:wm Tb (sJ fs) i=some p):∃f,fs[i]?=some f∧p.1=f.offset∧(P.info? f.type).map (·.size)=some p.2:=by
 unfold wm at h
 rw[fT] at h
 simp only[sJ,alh,aer] at h
 cases hf:fs[i]? with
 | none=>simp[hf] at h
 | some f=>
  simp only[hf,apr] at h
  split at h
  ·rename_i size _ _ hl
   cases h
   obtain ⟨I,hI,hs,_⟩:=(hTb _ _ hl).info
   grind
  ·cases h
theorem afY {P:Program}:∀(fs:List Field),(fs.all fun f=>(P.info? f.type).isSome)=true →
  ∃places,fs.mapM (fun f=>(P.info? f.type).map fun i=>(f.offset,i.size))=some places∧∀(i:Nat) f,fs[i]?=some f→(places[i]?)=(P.info? f.type).map fun i=>(f.offset,i.size)
 | [],_=>⟨[],rfl,by simp⟩
 | f :: fs,h=>by
  simp only[List.all_cons,abj] at h
  obtain ⟨ps,h1,h2⟩:=afY fs h.2
  obtain ⟨I,hI⟩:=Option.isSome_iff_exists.1 h.1
  refine ⟨(f.offset,I.size) :: ps,by simp[hI,h1],fun i g hg=>?_⟩
  grind
structure anp (E:Env) (w:World) (T:TypeId) (sz n:Nat) (f:Nat→List PV) (b cap:Nat) (cur:Array Value) (u:Nat→Nat→Value):Prop where
 heap:w.heap[b]?=some (.cells cur T (0,0))
 hn:n≤cap
 hcap:cap≤maxLen
 hmax:n≤maxLen
 size:cur.size=cap*sz
 hl:∀j,j<n→(f j).length=sz
 hc:∀j k s,j<n→(f j)[k]?=some s→cur[j*sz+k]?=some (u j k)∧(u j k).oneCell'=true
 he:∀j k s,j<n→(f j)[k]?=some s→aS E.mem (u j k) s
theorem dP.pG {E:Env} {w:World} {i:Nat} {T:TypeId} {sz n:Nat} {f:Nat→List PV} (h:dP E w i (.row T sz n f)) {b n' cap:Nat} (hb:E.hd i=some (.slice (some ⟨b,0,none⟩) n' cap)) :
  n'=n∧∃cur u,anp E w T sz n f b cap cur u:=by
 cases h with
 | row _ _ _ _ v xs u hh hw hmax hl hc he=>
  rw[hb] at hh
  have hv:=Option.some.inj hh
  rcases hw.2 with ⟨h1,_⟩ | ⟨g,cap',cur,h1,h2,h3,h4,h5,h6,h7⟩
  ·grind
  ·rw[h1] at hv
   simp only[Value.slice.injEq,Option.some.injEq,Addr.mk.injEq] at hv
   obtain ⟨⟨rfl,_⟩,rfl,rfl⟩:=hv
   refine ⟨rfl,cur,u,h3,h4,h5,hmax,h6,hl,fun j k s hj hs=>?_,he⟩
   grind
theorem dP.ae2 {E:Env} {w:World} {i:Nat} {T:TypeId} {sz n:Nat} {f:Nat→List PV} (h:dP E w i (.row T sz n f)) (hn:0<n):∃b cap,E.hd i=some (.slice (some ⟨b,0,none⟩) n cap):=by
 cases h with
 | row _ _ _ _ v xs u hh hw hmax hl hc he=>
  rcases hw.2 with ⟨_,h1⟩ | ⟨g,cap',cur,h1,_⟩
  all_goals grind
theorem pI {C:Ctx} {E:Env} {st:St} {a:Act} {w:World} (h:av C E st a w):∀(l:List Operand),(evs st l).length=l.length ∧
  ∀(k:Nat) (u:Value) (s:SV),(l.map a.eval)[k]?=some u→(evs st l)[k]?=some s→aL E u s
 | []=>by simp[evs]
 | x :: l=>by
  obtain ⟨h1,h2⟩:=pI h l
  refine ⟨by simp[evs,h1],fun k u s hu hs=>?_⟩
  cases k with
  | zero=>simp[evs] at hu hs;subst hu;subst hs;exact aI h x
  | succ k=>simp[evs] at hu hs;exact h2 k u s (by simpa using hu) hs
theorem akU (cs:Array Value) (off size k:Nat) (hk:k<size):(cs.extract off (off+size))[k]?=cs[off+k]?:=by
 grind
theorem ajw {P:Program} {t:Nat} {i:TI} (hi:i.Ok P t) {E:Env} {vs:Array Value} {l:List SV} (hA:lT E vs l) {off:Nat} {s:SV} (hr:dA i.desc.isAgg i.size off l=some s) :
  ∃v,(∀w,(part t vs off).run P w=.ok v w)∧aL E v s:=by
 cases hag:i.desc.isAgg with
 | true=>
  rw[hag] at hr
  obtain ⟨h1,h2⟩:=amd hA.at hr
  refine ⟨_,fun w=>by unfold part;simp[aaq hi,hag,eY hi],h2 _ ?_ fun k hk=>akU vs off i.size k hk⟩
  have:=hA.size
  grind
 | false=>
  rw[hag] at hr
  simp only[dA,fT] at hr
  obtain ⟨u,hu,_,hs⟩:=hA.at _ _ hr
  grind [iQ]
theorem aiI {E:Env} {v:Value} {b:Bool} {l:List PV} (h:aL E v (.p b (.agg l))):∃vs,v=.agg vs∧lT E vs (fG b l):=by
 cases h with | p _ _ _ h=>
 obtain ⟨vs,rfl,hl,h1,he⟩:=h.mX
 refine ⟨vs,rfl,by grind [pQ],h1,fun k u s hu hs=>?_⟩
 rw[jW] at hs
 cases hd:l[k]? with
 | none=>grind
 | some d=>simp[hd] at hs;subst hs;exact .p _ _ _ (he k u d hu hd)
theorem fK {C:Ctx} {E:Env} {st:St} {a:Act} {w:World} (h:av C E st a w) {x:Option Operand} {d:Int} {K:Int→Prop} (hk:kK st x d K):∃j,K j∧((x.map a.eval=none∧j=d)∨∃k,x.map a.eval=some (.int k j)):=by
 cases x with
 | none=>exact ⟨d,hk,.inl ⟨rfl,rfl⟩⟩
 | some x=>
  simp only[kK] at hk
  split at hk
  ·rename_i b k j hx
   have hv:=aI h x
   rw[hx] at hv
   exact ⟨j,hk,.inr ⟨k,by rw[apr,hv.aO]⟩⟩
  grind
theorem xL {P:Program} {w:World} (b:Bool) (len cap:Nat) {lo hi:Option Value} {l h:Int} (hl:(lo=none∧l=0)∨∃k,lo=some (.int k l)) (hh:(hi=none∧h=len)∨∃k,hi=some (.int k h)) (h0:0≤l) (h1:l≤h) (h2:h≤len) (hc:len≤cap) :
  (Instr.sliceBounds b len cap lo hi none).run P w=.ok (l.toNat,h.toNat,cap) w:=by
 have hcap:h≤(cap:Int):=by omega
 rcases hl with ⟨rfl,rfl⟩ | ⟨k,rfl⟩<;>rcases hh with ⟨rfl,rfl⟩ | ⟨k',rfl⟩
 ·simp[Instr.sliceBounds]
 ·simp_all [Instr.sliceBounds,Instr.sliceBound,asIntOf]
 ·simp_all [Instr.sliceBounds,Instr.sliceBound,asIntOf]
 ·have h3:0≤h:=by omega
  simp_all [Instr.sliceBounds,Instr.sliceBound,asIntOf,Int.max_eq_left]
theorem akP {P:Program} {w:World} (len cap:Nat) {lo hi:Option Value} {l h:Int} (hl:(lo=none∧l=0)∨∃k,lo=some (.int k l)) (hh:(hi=none∧h=len)∨∃k,hi=some (.int k h)) (h0:0≤l) (h1:l≤h) (h2:h≤cap) (hc:len≤cap) :
  (Instr.sliceBounds true len cap lo hi none).run P w=.ok (l.toNat,h.toNat,cap) w:=by
 rcases hl with ⟨rfl,rfl⟩ | ⟨k,rfl⟩<;>rcases hh with ⟨rfl,rfl⟩ | ⟨k',rfl⟩
 ·simp[Instr.sliceBounds]
 ·simp_all [Instr.sliceBounds,Instr.sliceBound,asIntOf]
 ·simp_all [Instr.sliceBounds,Instr.sliceBound,asIntOf]
 ·have h3:0≤h:=by omega
  simp_all [Instr.sliceBounds,Instr.sliceBound,asIntOf,Int.max_eq_left]
theorem akX {P:Program} {w:World} (len cap:Nat) {lo:Option Value} {hi mx:Value} {l h m:Int} {k1 k2:IntKind} (hl:(lo=none∧l=0)∨∃k,lo=some (.int k l)) (hh:hi=.int k1 h) (hm:mx=.int k2 m) (h0:0≤l) (h1:l≤h) (h2:h≤m) (h3:m≤cap) :
  (Instr.sliceBounds true len cap lo (some hi) (some mx)).run P w=.ok (l.toNat,h.toNat,m.toNat) w:=by
 subst hh hm
 have h4:0≤h:=by omega
 have h5:0≤m:=by omega
 have h6:h≤((m.toNat:Nat):Int):=by omega
 have h7:l≤((h.toNat:Nat):Int):=by omega
 rcases hl with ⟨rfl,rfl⟩ | ⟨k,rfl⟩
 all_goals simp_all [Instr.sliceBounds,Instr.sliceBound,asIntOf]
theorem alc {P:Program} {w:World} (len cap:Nat) {lo:Option Value} {hi mx:Value} {l h m:Int} {k1 k2:IntKind} (hl:(lo=none∧l=0)∨∃k,lo=some (.int k l)) (hh:hi=.int k1 h) (hm:mx=.int k2 m) (h0:0≤l) (h1:l≤h) (h2:h=m) (h3:h≤len) (hc:len≤cap) :
  (Instr.sliceBounds true len cap lo (some hi) (some mx)).run P w=.ok (l.toNat,h.toNat,m.toNat) w:=by
 subst hh hm h2
 have hcap:h≤(cap:Int):=by omega
 have h4:0≤h:=by omega
 have h5:h≤((h.toNat:Nat):Int):=by omega
 have h6:l≤((h.toNat:Nat):Int):=by omega
 rcases hl with ⟨rfl,rfl⟩ | ⟨k,rfl⟩
 all_goals simp_all [Instr.sliceBounds,Instr.sliceBound,asIntOf]
theorem afS {P:Program} (w:World) (d:Nat) {t e:TypeId} (hu:P.underlying t=some (.slice e)):(Op.equalIn (d+1) t (.slice none 0 0) (.slice none 0 0)).run P w=.ok true w:=by
 simp[Op.equalIn,run_underlying hu]
theorem aaf {P:Program} (w:World) (d:Nat) {t e:TypeId} (hu:P.underlying t=some (.slice e)) (a:Addr) (n c:Nat):(Op.equalIn (d+1) t (.slice (some a) n c) (.slice none 0 0)).run P w=.ok false w:=by
 simp[Op.equalIn,run_underlying hu]
theorem agP {C:Ctx} {E:Env} {st:St} {a:Act} {w:World} {R:World→Prop} (h:av C E st a w) {X:aY} (hTb:X.Tb.Ok X.P) (hnt:C.nt=X.nt) {o:Oper} (hR:∀w1,R w1→gX o.op=true→Grow w w1) (hd:bY X.nt o.dst=true)
  {K:St→Prop} (hk:yX X o st K) {next:Act→World→Prop}
  (hn:∀st' E' a' w',K st'→av C E' st' a' w'→next a' w'):aV R X.P o a w next:=by
 unfold yX at hk
 split at hk
 ·rename_i x ho
  exact aV.mk' (v:=a.eval x) (fun w1 hg=>by simp[execOp,ho]) (aD h hnt hd hk (aI h x) hn)
 ·rename_i x ho
  exact aV.mk' (v:=a.eval x) (fun w1 hg=>by simp[execOp,ho]) (aD h hnt hd hk (aI h x) hn)
 ·rename_i c x y ho
  split at hk
  ·rename_i b t hc
   have hcv:=aI h c
   rw[hc] at hcv
   have hce:=hcv.aO
   rcases abS hk with ⟨rfl,hk⟩ | ⟨rfl,hk⟩
   ·exact aV.mk' (v:=a.eval x) (fun w1 hg=>by simp_all [execOp,asBool]) (aD h hnt hd hk (aI h x) hn)
   ·exact aV.mk' (v:=a.eval y) (fun w1 hg=>by simp_all [execOp,asBool]) (aD h hnt hd hk (aI h y) hn)
  grind
 ·rename_i op t x y _ ho
  split at hk
  ·rename_i n hnil
   unfold anW at hnil
   split at hnil
   ·rename_i b0 m f b1 hx hy
    split at hnil
    ·rename_i e _ _ _ hi
     obtain rfl:m=n:=by grind
     have hu:X.P.underlying t=some (.slice e):=(hTb _ _ hi).desc
     have hxv:=aI h x
     have hyv:=aI h y
     rw[hx] at hxv
     rw[hy] at hyv
     have hye:=hyv.aO
     obtain ⟨b,hb,hsl,heq⟩:∃b:Bool,(b=true→m=0)∧(∃ad n c,a.eval x=.slice ad n c)∧∀w1,(Op.equal t (a.eval x) (.slice none 0 0)).run X.P w1=.ok b w1:=by
      generalize a.eval x=v at hxv
      cases hxv with
      | p _ _ _ hp=>
       cases hp with
       | nil=>simp_all [Op.equal,Op.maxDepth,afS]
       | emp=>simp_all [Op.equal,Op.maxDepth,aaf]
       | seq=>simp_all [Op.equal,Op.maxDepth,aaf]
     obtain ⟨ad,n',c',hsl⟩:=hsl
     rw[hsl] at heq
     split at hk
     ·exact aV.mk' (v:=.bool b) (fun w1 hg=>by simp_all [execOp,eqGuard,binOp]) (aD h hnt hd (hk b hb) (.val _ _) hn)
     ·exact aV.mk' (v:=.bool (!b)) (fun w1 hg=>by simp_all [execOp,eqGuard,binOp]) (aD h hnt hd (hk b hb) (.val _ _) hn)
     grind
    ·cases hnil
   ·cases hnil
  obtain ⟨v,hv,hnx⟩:=agb h hnt hd hk (fun w1=>aoU hTb op t x y (aI h x) (aI h y) w1) hn
  grind [aV.mk',execOp,Sem.run_bind,Result.andThen_ok,Sem.run_pure]
 ·rename_i op _ x ho
  obtain ⟨v,hv,hnx⟩:=agb h hnt hd hk (fun w1=>aq5 (P:=X.P) op (aI h x) w1) hn
  grind [aV.mk',execOp,Sem.run_bind,Result.andThen_ok,Sem.run_pure]
 ·rename_i s t x ho
  split at hk
  ·rename_i i1 k _ _ _ hi1 hi2
   split at hk
   ·rename_i _ k' n hx
    have hxv:=aI h x
    rw[hx] at hxv
    have hxe:=hxv.aO
    have hd2:X.P.underlying t=some (.int k):=(hTb _ _ hi2).desc
    obtain ⟨d,hds⟩:∃d,X.P.underlying s=some d:=by
     obtain ⟨I,hI,_⟩:=(hTb _ _ hi1).info
     have:=(hTb _ _ hi1).desc
     obtain ⟨desc,_,_,_⟩:=i1
     cases desc<;>first | exact ⟨_,this⟩ | (obtain ⟨d,hd,_⟩:=this;grind) | (obtain ⟨fs,hd,_⟩:=this;grind)
    exact aV.mk' (v:=.int k (k.wrap n)) (fun w1 hg=>by simp_all [execOp,convert,run_underlying,Conv.intToInt]) (aD h hnt hd hk (.val _ _) hn)
   grind
  ·-- bytes to a string
   rename_i e _ _ _ _ _ _ hi1 hi2
   split at hk
   ·rename_i _ _ _ hie
    have hs:X.P.underlying s=some (.slice e):=(hTb _ _ hi1).desc
    have hd2:X.P.underlying t=some .string:=(hTb _ _ hi2).desc
    have he8:X.P.underlying e=some (.int .u8):=(hTb _ _ hie).desc
    have done:∀(b:Nat) (q cap:Nat) (bs:ByteArray),a.eval x=.slice (some ⟨b,q,none⟩) bs.size cap→b<w.heap.size→(∀j,j<bs.size→w.cell? ⟨b,q+j,none⟩=some (.int .u8 (bs.data.getD j 0).toNat)) →
      aP st o.dst (.p true (.val (.string bs))) K→aV R X.P o a w next:=by
     intro b q cap bs hv hlt hcell hk
     refine aV.mk' (v:=.string bs) (fun w1 hg=>?_) (aD h hnt hd hk (.val _ _) hn)
     have hr:=run_convert_bytes_back (P:=X.P) w1 s t e ⟨b,q,none⟩ cap bs.data.toList hs he8 hd2 (fun j hj=>by
      have hj':j<bs.size:=by simpa using hj
      rw[Addr.add_lit,(hR w1 hg (by simp[gX,ho])).cell hlt,hcell j hj']
      simp_all)
     simp_all [execOp]
    have none0:∀(v:Value) (bs:ByteArray),bs.size=0→a.eval x=v→(v=.slice none 0 0∨∃ad cap,v=.slice (some ad) 0 cap)→aP st o.dst (.p true (.val (.string bs))) K→aV R X.P o a w next:=by
     intro v bs hb hv hor hk
     have hbe:bs=ByteArray.empty:=by
      simp_all
     subst hbe
     refine aV.mk' (v:=.string ByteArray.empty) (fun w1 hg=>?_) (aD h hnt hd hk (.val _ _) hn)
     rcases hor with rfl | ⟨ad,cap,rfl⟩
     ·simp_all [execOp,run_convert_bytes_string,Conv.bytesToString]
     ·have hr:=run_convert_bytes_back (P:=X.P) w1 s t e ad cap [] hs he8 hd2 (fun j hj=>absurd hj (aeo _))
      simp only[axJ] at hr
      simp[execOp,ho,hv,hr];rfl
    split at hk
    ·rename_i bb n f hx
     obtain ⟨bs,⟨hbs,hf⟩,hk⟩:=hk
     subst hbs
     have hxv:=aI h x
     rw[hx] at hxv
     generalize hvx:a.eval x=v at hxv
     cases hxv with
     | p _ _ _ hp=>
      generalize hm0:bs.size=m at hp hf
      cases hp with
      | nil=>grind
      | emp ad cap=>grind
      | seq b' q _ cap sz' _ cs u hm hcap hmax hl hc he=>
       subst hm0
       obtain ⟨T',fr,hw⟩:=h.heap.mem _ _ (E.fC _ _ _ hm)
       refine done b' q cap bs hvx (acG.1 hw).1 (fun j hj=>?_) hk
       have hfj:=hf j hj
       have hs0:(f j)[0]?=some (.val (.int .u8 (bs.data.getD j 0).toNat)):=by rw[hfj];rfl
       have hsz:sz'=1:=by rw[←hl j hj,hfj];rfl
       obtain ⟨c1,_⟩:=hc j 0 _ hj hs0
       have c2:=(he j 0 _ hj hs0).aO
       grind [World.cell?]
    ·rename_i i hx
     split at hk
     ·rename_i T' n f hob
      obtain ⟨bs,⟨hbs,hf⟩,hk⟩:=hk
      subst hbs
      have hxv:=aI h x
      rw[hx] at hxv
      generalize hvx:a.eval x=v at hxv
      cases hxv with
      | row _ _ hh _=>
       by_cases h0:bs.size=0
       ·refine none0 _ bs h0 hvx ?_ hk
        have:=h.heap.ob i _ hob
        cases this with
        | row _ _ _ _ v' xs u hh' hw' _ _ _ _=>
         rw[hh] at hh';cases hh'
         rcases hw'.2 with ⟨h1,_⟩ | ⟨g,cap',cur,h1,_⟩
         all_goals grind
       ·obtain ⟨b,cap,hb⟩:=(h.heap.ob i _ hob).ae2 (by omega)
        obtain ⟨_,cur,u,hR⟩:=(h.heap.ob i _ hob).pG hb
        rw[hb] at hh;cases hh
        refine done b 0 cap bs hvx (acG.1 hR.heap).1 (fun j hj=>?_) hk
        have hs0:(f j)[0]?=some (.val (.int .u8 (bs.data.getD j 0).toNat)):=by rw[hf j hj];rfl
        obtain ⟨c1,_⟩:=hR.hc j 0 _ hj hs0
        have c2:=(hR.he j 0 _ hj hs0).aO
        rw[c2] at c1
        simp only[World.cell?,hR.heap]
        simpa using c1
     grind
    grind
   grind
  ·rename_i i1 _ _ _ _ hi1 hi2
   split at hk
   ·rename_i b n hx
    have hxv:=aI h x
    rw[hx] at hxv
    have hxe:=hxv.aO
    have hd2:X.P.underlying t=some .string:=(hTb _ _ hi2).desc
    obtain ⟨d,hds⟩:∃d,X.P.underlying s=some d:=by
     have:=(hTb _ _ hi1).desc
     obtain ⟨desc,_,_,_⟩:=i1
     cases desc<;>first | exact ⟨_,this⟩ | (obtain ⟨d,hd,_⟩:=this;grind) | (obtain ⟨fs,hd,_⟩:=this;grind)
    refine aV.mk' (v:=.string n) ?_ (aD h hnt hd hk (.val _ _) hn)
    simp_all [execOp,convert,run_underlying]
   ·rename_i b ik n hx
    obtain ⟨⟨hn0,hn1⟩,hk⟩:=hk
    have hxv:=aI h x
    rw[hx] at hxv
    have hxe:=hxv.aO
    have hd2:X.P.underlying t=some .string:=(hTb _ _ hi2).desc
    obtain ⟨d,hds⟩:∃d,X.P.underlying s=some d:=by
     have:=(hTb _ _ hi1).desc
     obtain ⟨desc,_,_,_⟩:=i1
     cases desc<;>first | exact ⟨_,this⟩ | (obtain ⟨d,hd,_⟩:=this;grind) | (obtain ⟨fs,hd,_⟩:=this;grind)
    refine aV.mk' (v:=.string ⟨#[UInt8.ofNat n.toNat]⟩) ?_ (aD h hnt hd hk (.val _ _) hn)
    intro w1 hg
    simp only[execOp,ho,convert,run_underlying hds,run_underlying hd2,hxe,Sem.run_bind,Result.andThen_ok]
    have he:Utf8.encode n=⟨#[UInt8.ofNat n.toNat]⟩:=by
     have hv:Utf8.valid n=true:=by grind [Utf8.valid]
     simp_all [Utf8.encode]
    cases d<;>(simp only[Conv.intToString,he];rfl)
   grind
  grind
 ·rename_i f capt ho
  obtain ⟨h1,h2⟩:=pI h capt.toList
  refine aV.mk' (v:=.func (.func f) #[] (capt.map a.eval)) (fun w1 hg=>by simp[execOp,ho,Instr.makeFunc]) (aD h hnt hd hk (.fn f _ _ (by simp[h1]) fun k u s hu hs=>h2 k u s ?_ hs) hn)
  simpa using hu
 ·rename_i f first _ ho
  split at hk
  ·rename_i b ds hal
   obtain ⟨h1,h2⟩:=pI h first.toList
   obtain ⟨g1,g2⟩:=vH _ b ds hal
   refine aV.mk' (v:=.func (.func f) (first.map a.eval) #[]) (fun w1 hg=>by simp[execOp,ho,Instr.makeFunc]) (aD h hnt hd hk (.p b _ _ (.bnd f _ _ (by grind) fun k u d hu hds=>?_)) hn)
   have hk1:k<(evs st first.toList).length:=by grind
   exact g2 k u _ d (aav hk1) hds (h2 k u _ (by simpa using hu) (aav hk1))
  ·obtain ⟨h1,h2⟩:=pI h first.toList
   refine aV.mk' (v:=.func (.func f) (first.map a.eval) #[]) (fun w1 hg=>by simp[execOp,ho,Instr.makeFunc]) (aD h hnt hd hk (.bnd f _ _ (by simp[h1]) fun k u s hu hs=>h2 k u s ?_ hs) hn)
   simpa using hu
 ·rename_i T parts ho
  split at hk
  ·rename_i fs _ _ z hi
   split at hk
   ·rename_i cs hf
    have hok:=hTb _ _ hi
    obtain ⟨I,zv,hI,hz,hs,hzs,hZ⟩:=hok.o7 E
    obtain ⟨Fs,hu,hfs,_,_,_,hall⟩:=hok.desc
    subst hfs
    obtain ⟨places,hp1,hp2⟩:=afY Fs.toList (by simpa using hall)
    obtain ⟨vs',hfill,hA⟩:=zy h _ (places.toArray[·]?) (fun i p hp=>by
     obtain ⟨f,hf1,hf2,hf3⟩:=aaw hTb hp
     have:=hp2 i f (by grind)
     cases hI':X.P.info? f.type with
     | none=>grind
     | some I'=>grind) parts.toList _ _ _ hZ hf
    have hb:X.P.built T (parts.map fun p=>(p.1,a.eval p.2)).toList=some vs':=by
     simp_all [Program.built]
    exact aV.mk' (v:=.agg vs') (fun w1 hg=>by grind [execOp,Sem.run_bind,run_build,Result.andThen_ok,Sem.run_pure]) (aD h hnt hd hk (wu hA.size hA.one hA.rep) hn)
   grind
  ·rename_i n e _ _ z hi
   split at hk
   ·rename_i _ sz _ _ hie
    split at hk
    ·rename_i cs hf
     have hok:=hTb _ _ hi
     obtain ⟨I,zv,hI,hz,hs,hzs,hZ⟩:=hok.o7 E
     have hu:X.P.underlying T=some (.array n e):=hok.desc
     obtain ⟨Ie,hIe,hse,_⟩:=(hTb _ _ hie).info
     obtain ⟨vs',hfill,hA⟩:=zy h _ _ (fun i p hp=>hp) parts.toList _ _ _ hZ hf
     have hb:X.P.built T (parts.map fun p=>(p.1,a.eval p.2)).toList=some vs':=by
      simp_all [Program.built]
     have hrun:∀w1,R w1→(execOp a.eval o).run X.P w1=.ok (.value (.agg vs')) w1:=fun w1 hg=>by grind [execOp,Sem.run_bind,run_build,Result.andThen_ok,Sem.run_pure]
     split at hk
     ·split at hk
      ·rename_i b g hb
       exact aV.mk' hrun (aD h hnt hd hk (.p b _ _ (adx hb (wu hA.size hA.one hA.rep))) hn)
      grind
     ·exact aV.mk' hrun (aD h hnt hd hk (wu hA.size hA.one hA.rep) hn)
    grind
   grind
  grind
 ·rename_i T x f ho
  split at hk
  ·rename_i fs _ _ _ hi
   split at hk
   ·rename_i off t hfs
    split at hk
    ·rename_i d size _ _ ht
     obtain ⟨Fs,hu,hfp,_⟩:=(hTb _ _ hi).desc
     subst hfp
     rw[fT] at hfs
     simp only[sJ,alh,aer] at hfs
     cases hff:Fs[f]? with
     | none=>grind
     | some fd=>
      simp only[hff,apr,Option.some.injEq,Prod.mk.injEq] at hfs
      obtain ⟨rfl,rfl⟩:=hfs
      have fin:∀(vs:Array Value) (l:List SV) (s:SV),a.eval x=.agg vs→lT E vs l→dA d.isAgg size fd.offset l=some s→aP st o.dst s K→aV R X.P o a w next:=by
       intro vs l s hx hA hr hk
       obtain ⟨v,hv,hs⟩:=ajw (hTb _ _ ht) hA hr
       exact aV.mk' (v:=v) (fun w1 hg=>by simp_all [execOp,Instr.field,run_underlying,asAgg]) (aD h hnt hd hk hs hn)
      split at hk
      ·rename_i b l hx
       split at hk
       ·rename_i s hr
        have hxv:=aI h x
        grind [aiI]
       grind
      ·rename_i l hx
       split at hk
       ·rename_i s hr
        have hxv:=aI h x
        rw[hx] at hxv
        generalize hvx:a.eval x=v at hxv
        cases hxv with
        | agg vs _ hl h1 he=>exact fin vs _ s hvx ⟨hl,h1,he⟩ hr hk
       grind
      grind
    grind
   grind
  grind
 ·rename_i x i ho
  split at hk
  ·rename_i b l hx
   split at hk
   ·rename_i dd hg
    have hxv:=aI h x
    rw[hx] at hxv
    rw[fT] at hg
    generalize hvx:a.eval x=v at hxv
    cases hxv with
    | p _ _ _ hp=>
     cases hp with
     | tup vs _ hl he=>
      have hi:i<vs.size:=by grind
      have hvi:vs[i]?=some vs[i]:=acC hi
      exact aV.mk' (v:=vs[i]) (fun w1 hg=>by simp[execOp,ho,Instr.extract,hvx,hvi]) (aD h hnt hd hk (.p _ _ _ (he i _ _ hvi hg)) hn)
   grind
  ·rename_i l hx
   split at hk
   ·rename_i dd hg
    have hxv:=aI h x
    rw[hx] at hxv
    rw[fT] at hg
    generalize hvx:a.eval x=v at hxv
    cases hxv with
    | tup vs _ hl he=>
     have hi:i<vs.size:=by grind
     have hvi:vs[i]?=some vs[i]:=acC hi
     exact aV.mk' (v:=vs[i]) (fun w1 hg=>by simp[execOp,ho,Instr.extract,hvx,hvi]) (aD h hnt hd hk (he i _ _ hvi hg) hn)
   grind
  grind
 ·rename_i T x i ho
  split at hk
  ·rename_i _ _ _ hi
   split at hk
   ·rename_i _ s _ k j hx hj
    obtain ⟨c,⟨h0,hc⟩,hk⟩:=hk
    have hxv:=aI h x
    rw[hx] at hxv
    have hxe:=hxv.aO
    have hjv:=aI h i
    rw[hj] at hjv
    have hje:=hjv.aO
    have hu:X.P.underlying T=some .string:=(hTb _ _ hi).desc
    exact aV.mk' (v:=.int .u8 c.toNat) (fun w1 hg=>by simp_all [execOp,Instr.index,run_underlying,asIntOf]) (aD h hnt hd hk (.val _ _) hn)
   grind
  ·rename_i n e _ _ _ hi
   split at hk
   ·rename_i d sz _ _ ht
    split at hk
    ·rename_i _ k j hj
     have hjv:=aI h i
     rw[hj] at hjv
     have hje:=hjv.aO
     have hu:X.P.underlying T=some (.array n e):=(hTb _ _ hi).desc
     have fin:∀(vs:Array Value) (l:List SV) (s:SV),a.eval x=.agg vs→lT E vs l→(0≤j∧j<(n:Int))→dA d.isAgg sz (j.toNat*sz) l=some s→aP st o.dst s K→aV R X.P o a w next:=by
      intro vs l s hx hA hjn hr hk
      obtain ⟨v,hv,hs⟩:=ajw (hTb _ _ ht) hA hr
      exact aV.mk' (v:=v) (fun w1 hg=>by simp[execOp,ho,Instr.index,run_underlying hu,hje,asIntOf,hjn,hx,eY (hTb _ _ ht),hv]) (aD h hnt hd hk hs hn)
     split at hk
     ·rename_i b l hx
      obtain ⟨hjn,hk⟩:=hk
      split at hk
      ·rename_i s hr
       have hxv:=aI h x
       grind [aiI]
      grind
     ·rename_i l hx
      obtain ⟨hjn,hk⟩:=hk
      split at hk
      ·rename_i s hr
       have hxv:=aI h x
       rw[hx] at hxv
       generalize hvx:a.eval x=v at hxv
       cases hxv with
       | agg vs _ hl h1 he=>exact fin vs _ s hvx ⟨hl,h1,he⟩ hjn hr hk
      grind
     ·rename_i b n' f hx
      split at hk
      ·rename_i hnn hag
       obtain rfl:=acD hnn
       obtain ⟨hjn,hk⟩:=hk
       have hxv:=aI h x
       rw[hx] at hxv
       obtain ⟨g1,g2,g3⟩:=nU hxv (show cellsOf (.p b (.arr n' f))=some (fG b (iJ n' f)) from rfl)
       generalize hvx:a.eval x=v at hxv g1 g2 g3
       cases hxv with
       | p _ _ _ hp=>
        obtain ⟨vs,rfl,_,_⟩:=hp.iD
        refine fin vs _ _ hvx ⟨g1,g2,g3⟩ hjn ?_ hk
        simp_all [dA,fT,jW,nY]
      grind
     grind
    grind
   grind
  grind
 ·rename_i T x lo hi ho
  split at hk
  ·rename_i _ _ _ hi'
   have hu:X.P.underlying T=some .string:=(hTb _ _ hi').desc
   split at hk
   ·rename_i _ s hx
    have hxv:=aI h x
    rw[hx] at hxv
    have hxe:=hxv.aO
    obtain ⟨l,hk,hl⟩:=fK h hk
    obtain ⟨hh,hk,hhi⟩:=fK h hk
    obtain ⟨⟨h0,h1,h2⟩,hk⟩:=hk
    exact aV.mk' (v:=.string (s.extract l.toNat hh.toNat)) (fun w1 hg=>by
     have:=xL (P:=X.P) (w:=w1) false s.size s.size hl hhi h0 h1 h2 (abm _)
     simp_all [execOp,Instr.sliceAt,Instr.slice,run_underlying]) (aD h hnt hd hk (.val _ _) hn)
   grind
  ·rename_i e _ _ _ hi'
   have hu:X.P.underlying T=some (.slice e):=(hTb _ _ hi').desc
   split at hk
   ·rename_i _ sz _ _ hie
    split at hk
    ·rename_i b n f hx
     have hxv:=aI h x
     rw[hx] at hxv
     obtain ⟨l,hk1,hl⟩:=fK h hk
     obtain ⟨hh,hk2,hhi⟩:=fK h hk1
     obtain ⟨⟨h0,h1,h2⟩,hlen,hk3⟩:=hk2
     generalize hvx:a.eval x=v at hxv
     have hrun:∀(ad:Option Addr) (cap:Nat) (w1:World),v=.slice ad n cap→n≤cap→(execOp a.eval o).run X.P w1=.ok (.value (.slice (if cap=l.toNat then ad else ad.map (·.add (l.toNat*(sz+1)))) (hh.toNat-l.toNat) (cap-l.toNat))) w1:=by
      intro ad cap w1 hv hcap
      have:=xL (P:=X.P) (w:=w1) true n cap hl hhi h0 h1 h2 hcap
      simp[execOp,ho,Instr.sliceAt,Instr.slice,run_underlying hu,hvx,hv,this,eY (hTb _ _ hie)]
     cases hxv with
     | p _ _ _ hp=>
      cases hp with
      | nil=>
       have e1:l.toNat=0:=by omega
       have e2:hh.toNat=0:=by omega
       exact aV.mk' (fun w1 hg=>hrun none 0 w1 rfl (abm _)) (aD h hnt hd hk3 (by simp only[e1,e2];exact .p _ _ _ (.nil _)) hn)
      | emp ad cap=>
       have e1:l.toNat=0:=by omega
       have e2:hh.toNat=0:=by omega
       refine aV.mk' (fun w1 hg=>hrun (some ad) cap w1 rfl (akx _)) (aD h hnt hd hk3 ?_ hn)
       simp only[e1,e2,awo,avc]
       split
       ·exact .p _ _ _ (.emp _ _ _)
       ·exact .p _ _ _ (.emp _ _ _)
      | seq b' q _ cap sz' _ cs u hm hcap hmax hl' hc he=>
       refine aV.mk' (fun w1 hg=>hrun (some ⟨b',q,none⟩) cap w1 rfl hcap) (aD h hnt hd hk3 ?_ hn)
       by_cases hn0:hh.toNat-l.toNat=0
       ·rw[hn0]
        split
        ·exact .p _ _ _ (.emp _ _ _)
        ·exact .p _ _ _ (.emp _ _ _)
       ·have hsz':sz'=sz+1:=by rw[←hl' 0 (by omega),hlen 0 (by omega)]
        rw[if_neg (by omega)]
        simp only[apr,Addr.add_lit]
        refine .p _ _ _ (.seq b' (q+l.toNat*(sz+1)) _ _ (sz+1) _ cs (fun j k=>u (l.toNat+j) k) hm (by omega) (by omega) (fun j hj=>hlen _ (by omega)) (fun j k s hj hs=>?_) (fun j k s hj hs=>he _ _ _ (by omega) hs))
        grind
    ·rename_i r hx
     split at hk
     ·rename_i T' sz' m f hob
      cases hbq:sz'.beq (sz+1) with
      | false=>grind
      | true=>
       simp only[hbq] at hk
       have hxv:=aI h x
       rw[hx] at hxv
       obtain ⟨l,hk1,hl⟩:=fK h hk
       obtain ⟨hh,hk2,hhi⟩:=fK h hk1
       obtain ⟨⟨h0,h1,h2,hm0⟩,hk3⟩:=hk2
       obtain ⟨bl,cap,hhd⟩:=(h.heap.ob r _ hob).ae2 hm0
       obtain ⟨_,cur,u,hR⟩:=(h.heap.ob r _ hob).pG hhd
       generalize hvx:a.eval x=v at hxv
       cases hxv with
       | row _ _ hh2 hsl=>
        rw[hhd] at hh2
        have hv:=(Option.some.inj hh2).symm
        have hcap:=hR.hn
        refine aV.mk' (v:=.slice (if cap=l.toNat then some ⟨bl,0,none⟩ else (some (⟨bl,0,none⟩:Addr)).map (·.add (l.toNat*(sz+1)))) (hh.toNat-l.toNat) (cap-l.toNat)) (fun w1 hg=>?_) (aD h hnt hd hk3 ?_ hn)
        ·have:=xL (P:=X.P) (w:=w1) true m cap hl hhi h0 h1 h2 hcap
         simp[execOp,ho,Instr.sliceAt,Instr.slice,run_underlying hu,hvx,hv,this,eY (hTb _ _ hie)]
        ·by_cases hc:cap=l.toNat
         ·rw[if_pos hc]
          exact .sub _ _ _ _ bl m cap _ _ hhd (by omega) (by omega) (by omega) (fun h9=>by omega)
         ·rw[if_neg hc]
          simp only[apr,Addr.add_lit,ajv]
          exact .sub _ _ _ _ bl m cap _ _ hhd (by omega) (by omega) (by omega) (fun _=>rfl)
     grind
    ·rename_i r sz' p n hx
     split at hk
     ·rename_i T' sz2 m f hbq hob
      obtain rfl:=acD hbq
      have hxv:=aI h x
      rw[hx] at hxv
      obtain ⟨l,hk1,hl⟩:=fK h hk
      obtain ⟨hh,hk2,hhi⟩:=fK h hk1
      obtain ⟨⟨h0,h1,h2⟩,hk3⟩:=hk2
      generalize hvx:a.eval x=v at hxv
      cases hxv with
      | sub _ _ _ _ bl n' cap c ad hhd hle hc hr ha=>
       obtain ⟨rfl,cur,u,hR⟩:=(h.heap.ob r _ hob).pG hhd
       refine aV.mk' (v:=.slice (if c=l.toNat then some ad else (some ad).map (·.add (l.toNat*(sz+1)))) (hh.toNat-l.toNat) (c-l.toNat)) (fun w1 hg=>?_) (aD h hnt hd hk3 ?_ hn)
       ·have:=akP (P:=X.P) (w:=w1) n c hl hhi h0 h1 (by omega) hc
        simp[execOp,ho,Instr.sliceAt,Instr.slice,run_underlying hu,hvx,this,eY (hTb _ _ hie)]
       ·by_cases hcl:c=l.toNat
        ·rw[if_pos hcl]
         exact .sub _ _ _ _ bl n' cap _ _ hhd (by omega) (by omega) (by omega) (fun h9=>by omega)
        ·rw[if_neg hcl]
         obtain rfl:=ha (by omega)
         simp only[apr,Addr.add_lit]
         refine .sub _ _ _ _ bl n' cap _ _ hhd (by omega) (by omega) (by omega) (fun _=>?_)
         grind
     grind
    grind
   grind
  ·rename_i n e _ _ _ hi'
   split at hk
   ·rename_i _ _ _ hie
    split at hk
    ·rename_i i hx
     obtain ⟨l,hk2,hl⟩:=fK h hk
     obtain ⟨hh,⟨⟨h0,h1,h2⟩,hk3⟩,hhi⟩:=fK h hk2
     have hxv:=aI h x
     rw[hx] at hxv
     obtain ⟨b,hb,hxe⟩:=ji hxv
     have hu:X.P.underlying T=some (.array n e):=(hTb _ _ hi').desc
     refine aV.mk' (v:=.slice (some (if n=l.toNat then ⟨b,0,none⟩ else (⟨b,0,none⟩:Addr).add (l.toNat*1))) (hh.toNat-l.toNat) (n-l.toNat)) (fun w1 hg=>?_) (aD h hnt hd hk3 (.asl i n l.toNat (hh.toNat-l.toNat) b (n-l.toNat) _ hb (by omega) (by omega) (fun hc=>?_)) hn)
     ·have:=xL (P:=X.P) (w:=w1) false n n hl hhi h0 h1 h2 (abm _)
      simp[execOp,ho,Instr.sliceAt,Instr.sureAddr,run_underlying hu,hxe,this,eY (hTb _ _ hie)]
     ·rw[if_neg (by omega)]
      simp only[Addr.add_lit,auY,ajv]
    grind
   grind
  grind
 ·rename_i x ho
  split at hk
  ·rename_i b l off hx
   have hxv:=aI h x
   rw[hx] at hxv
   generalize hvx:a.eval x=v at hxv
   cases hxv with
   | p _ _ _ hp=>
    cases hp with
    | pt b' o' _ _ cs u hm hc he=>
     exact aV.mk' (fun w1 hg=>by simp_all [execOp]) (aD h hnt hd hk (.p _ _ _ (.pt b' o' off l cs u hm hc he)) hn)
  ·rename_i i off hx
   have hxv:=aI h x
   rw[hx] at hxv
   generalize hvx:a.eval x=v at hxv
   cases hxv with
   | own _ _ b hh=>exact aV.mk' (fun w1 hg=>by simp_all [execOp]) (aD h hnt hd hk (.own _ _ b hh) hn)
  grind
 ·rename_i T x lo hi mx ho
  split at hk
  ·rename_i e _ _ _ hi'
   have hu:X.P.underlying T=some (.slice e):=(hTb _ _ hi').desc
   split at hk
   ·rename_i _ sz _ _ hie
    split at hk
    ·rename_i b n f hx
     have hxv:=aI h x
     rw[hx] at hxv
     obtain ⟨l,hk1,hl⟩:=fK h hk
     obtain ⟨hh,hk2,hhi⟩:=fK h hk1
     obtain ⟨mm,hk3,hmi⟩:=fK h hk2
     obtain ⟨⟨h0,h1,h2,h3⟩,hlen,hk4⟩:=hk3
     obtain ⟨k1,hhi⟩:∃k,a.eval hi=.int k hh:=by
      grind
     obtain ⟨k2,hmi⟩:∃k,a.eval mx=.int k mm:=by
      grind
     subst h2
     generalize hvx:a.eval x=v at hxv
     have hrun:∀(ad:Option Addr) (cap:Nat) (w1:World),v=.slice ad n cap→n≤cap→(execOp a.eval o).run X.P w1=.ok (.value (.slice (if hh.toNat=l.toNat then ad else ad.map (·.add (l.toNat*(sz+1)))) (hh.toNat-l.toNat) (hh.toNat-l.toNat))) w1:=by
      intro ad cap w1 hv hcap
      have:=alc (P:=X.P) (w:=w1) n cap hl hhi hmi h0 h1 rfl h3 hcap
      simp[execOp,ho,Instr.sliceAt,Instr.slice,run_underlying hu,hvx,hv,this,eY (hTb _ _ hie)]
     cases hxv with
     | p _ _ _ hp=>
      cases hp with
      | nil=>
       have e1:l.toNat=0:=by omega
       have e2:hh.toNat=0:=by omega
       exact aV.mk' (fun w1 hg=>hrun none 0 w1 rfl (abm _)) (aD h hnt hd hk4 (by simp only[e1,e2];exact .full _ _ _ (.nil _)) hn)
      | emp ad cap=>
       have e1:l.toNat=0:=by omega
       have e2:hh.toNat=0:=by omega
       refine aV.mk' (fun w1 hg=>hrun (some ad) cap w1 rfl (akx _)) (aD h hnt hd hk4 ?_ hn)
       simp only[e1,e2,avc,if_true]
       exact .full _ _ _ (.emp _ _ _)
      | seq b' q _ cap sz' _ cs u hm hcap hmax hl' hc he=>
       refine aV.mk' (fun w1 hg=>hrun (some ⟨b',q,none⟩) cap w1 rfl hcap) (aD h hnt hd hk4 ?_ hn)
       by_cases hn0:hh.toNat-l.toNat=0
       ·rw[hn0]
        split
        ·exact .full _ _ _ (.emp _ _ _)
        omega
       ·have hsz':sz'=sz+1:=by rw[←hl' 0 (by omega),hlen 0 (by omega)]
        rw[if_neg (by omega)]
        simp only[apr,Addr.add_lit]
        refine .full _ _ _ (.seq b' (q+l.toNat*(sz+1)) _ _ (sz+1) _ cs (fun j k=>u (l.toNat+j) k) (E.fC _ _ _ hm) (abm _) (by omega) (fun j hj=>hlen _ (by omega)) (fun j k s hj hs=>?_) (fun j k s hj hs=>(he _ _ _ (by omega) hs).mono (E.fC _)))
        grind
    ·rename_i r hx
     split at hk
     ·rename_i T' sz' n f hob
      have hxv:=aI h x
      rw[hx] at hxv
      obtain ⟨l,hk1,hl⟩:=fK h hk
      obtain ⟨hh,hk2,hhi⟩:=fK h hk1
      obtain ⟨mm,hk3,hmi⟩:=fK h hk2
      obtain ⟨⟨h0,h1,h2,h3⟩,hk4⟩:=hk3
      obtain ⟨k1,hhi⟩:∃k,a.eval hi=.int k hh:=by
       grind
      obtain ⟨k2,hmi⟩:∃k,a.eval mx=.int k mm:=by
       grind
      generalize hvx:a.eval x=v at hxv
      have hO:=h.heap.ob _ _ hob
      cases hO with
      | row _ _ _ _ v0 xs u hhd hw hmax _ _ _=>
      cases hxv with
      | row _ _ hh2 hsl=>
       rw[hhd] at hh2
       obtain rfl:=Option.some.inj hh2
       obtain ⟨ad,cap,hv,hcap⟩:∃ad cap,v0=.slice ad n cap∧n≤cap:=by
        rcases hw.2 with ⟨rfl,rfl⟩ | ⟨g,cap,cur,rfl,_,_,hc,_⟩
        all_goals grind
       refine aV.mk' (v:=.slice (if mm.toNat=l.toNat then ad else ad.map (·.add (l.toNat*(sz+1)))) (hh.toNat-l.toNat) (mm.toNat-l.toNat)) (fun w1 hg=>?_) (aD h hnt hd hk4 (.any _) hn)
       have:=akX (P:=X.P) (w:=w1) n cap hl hhi hmi h0 h1 h2 (by omega)
       simp[execOp,ho,Instr.sliceAt,Instr.slice,run_underlying hu,hvx,hv,this,eY (hTb _ _ hie)]
     grind
    grind
   grind
  grind
 grind
def dU.At (P:Program) (kT:Nat):dU→Prop
 | .int ik=>P.underlying kT=some (.int ik)
 | .str=>P.underlying kT=some .string
 | .bools n=>∃e i,P.underlying kT=some (.array n e)∧P.underlying e=some .bool∧TI.Ok P e i∧i.desc.isAgg=false∧i.size=1
theorem ahs {P:Program} {Tb:Tab} (hTb:Tb.Ok P) {kT:Nat} {kt:dU} (h:kindOf Tb kT=some kt):kt.At P kT:=by
 unfold kindOf at h
 split at h
 ·rename_i hi;cases h;exact (hTb _ _ hi).desc
 ·rename_i hi;cases h;exact (hTb _ _ hi).desc
 ·rename_i hi
  split at h
  ·rename_i hie;cases h
   exact ⟨_,_,(hTb _ _ hi).desc,(hTb _ _ hie).desc,hTb _ _ hie,rfl,rfl⟩
  ·cases h
 ·cases h
theorem xV (l:List Bool) (k:Nat):(fF l)[k]?=(l[k]?).map Value.bool:=by simp[fF]
theorem agn {a b:List Bool} (h:fF a=fF b):a=b:=by
 unfold fF at h
 have h:=congrArg Array.toList h
 simp only at h
 have inj:∀(a b:List Bool),a.map Value.bool=b.map Value.bool→a=b:=by
  intro a
  induction a with
  | nil=>simp_all
  | cons x a ih=>intro b h;cases b with
   | nil=>simp at h
   | cons y b=>
    grind
 exact inj a b h
theorem dU.val_inj {kt:dU} {a b:MK} (ha:kt.ok a) (hb:kt.ok b) (h:kt.val a=kt.val b):a=b:=by
 cases kt<;>cases a<;>cases b<;>simp only[dU.ok,dU.val] at ha hb h<;>try exact ha.elim
 all_goals grind [agn]
theorem aeu {P:Program} {e:Nat} {i:TI} (h:i.Ok P e) (ha:i.desc.isAgg=false) (hu:P.underlying e=some .bool) (d:Nat) (vs ws:Array Value) (w:World):∀(m j:Nat) (xs ys:List Bool),xs.length=m→ys.length=m →
  (∀(k:Nat) (x:Bool),xs[k]?=some x→vs[j+k]?=some (.bool x))→(∀(k:Nat) (x:Bool),ys[k]?=some x→ws[j+k]?=some (.bool x)) →
  (Op.eqItems (d+1) e 1 vs ws (List.range' j m)).run P w=.ok (decide (xs=ys)) w
 | 0,j,[],[],_,_,_,_=>by simp[Op.eqItems]
 | m+1,j,x :: xs,y :: ys,hx,hy,h1,h2=>by
  have ih:=aeu h ha hu d vs ws w m (j+1) xs ys (by simpa using hx) (by simpa using hy)
   (fun q z hz=>by have:=h1 (q+1) z (by simpa using hz);grind)
   (fun q z hz=>by have:=h2 (q+1) z (by simpa using hz);grind)
  have p1:=iQ h ha vs (j*1) _ (by rw[auY];exact h1 0 _ rfl) w
  have p2:=iQ h ha ws (j*1) _ (by rw[auY];exact h2 0 _ rfl) w
  simp only[axD,Op.eqItems,Sem.run_bind,p1,p2,Result.andThen_ok,run_equalIn_bool w d e x y hu]
  cases hab:(x==y)
  all_goals simp_all
 | 0,_,_ :: _,_,hx,_,_,_=>by simp at hx
 | 0,_,[],_ :: _,_,hy,_,_=>by simp at hy
 | _+1,_,[],_,hx,_,_,_=>by simp at hx
 | _+1,_,_ :: _,[],_,hy,_,_=>by simp at hy
theorem ana {P:Program} {kT e:Nat} {n:Nat} {i:TI} (hu:P.underlying kT=some (.array n e)) (he:P.underlying e=some .bool) (h:i.Ok P e) (ha:i.desc.isAgg=false) (hs:i.size=1) (w:World) {a b:List Bool} (hla:a.length=n) (hlb:b.length=n) :
  (Op.equal kT (.agg (fF a)) (.agg (fF b))).run P w=.ok (decide (a=b)) w:=by
 obtain ⟨I,hI,hIs,_⟩:=h.info
 have hc:P.cellsOf e=1:=by grind [Program.cellsOf]
 unfold Op.equal
 rw[show Op.maxDepth=9999+1 from rfl,run_equalIn_array w 9999 _ _ hu hI,hc,axI]
 exact aeu h ha he 9998 _ _ w n 0 a b hla hlb (fun k x hx=>by rw[ajv,xV,hx];rfl) (fun k x hx=>by rw[ajv,xV,hx];rfl)
theorem amT {P:Program} {kT e:Nat} {n:Nat} {i:TI} (hu:P.underlying kT=some (.array n e)) (he:P.underlying e=some .bool) (h:i.Ok P e) (ha:i.desc.isAgg=false) (hs:i.size=1) (w:World) (em:Bool) {a:List Bool} (hla:a.length=n) :
  (Instr.checkKey em 10000 kT (.agg (fF a))).run P w=.ok () w:=by
 have hone:∀x:Bool,(Instr.checkKey em 9999 e (.bool x)).run P w=.ok () w:=fun x=>by
  show (Instr.checkKey em (9998+1) e (.bool x)).run P w=.ok () w
  unfold Instr.checkKey
  simp[run_underlying he]
 obtain ⟨I,hI,hIs,_⟩:=h.info
 show (Instr.checkKey em (9999+1) kT (.agg (fF a))).run P w=.ok () w
 unfold Instr.checkKey
 rw[Sem.run_bind,run_underlying hu,Result.andThen_ok]
 show (do for i in [0:n] do Instr.checkKey em 9999 e (←part e (fF a) (i*(←sizeOf e))):Sem Unit).run P w=_
 simp only[Std.Legacy.Range.forIn_eq_forIn_range',Std.Legacy.Range.size,awo,Nat.add_one_sub_one,Nat.div_one]
 have go:∀(m j:Nat),j+m≤n→(forIn (m:=Sem) (List.range' j m) PUnit.unit fun (k:Nat) (_:PUnit)=>do
   Instr.checkKey em 9999 e (←part e (fF a) (k*(←sizeOf e)))
   pure (ForInStep.yield PUnit.unit)).run P w=.ok PUnit.unit w:=by
  intro m
  induction m with
  | zero=>simp_all
  | succ m ih=>
   intro j hj
   have hp:=iQ h ha (fF a) (j*1) (.bool (a[j]'(by omega))) (by simp_all [xV]) w
   have hsz:(sizeOf e).run P w=.ok 1 w:=by grind [eY]
   simp only[axD,List.forIn_cons,Sem.run_bind,hsz,hp,hone,Result.andThen_ok,Sem.run_pure]
   grind
 simp_all
theorem ahv {P:Program} {kT:Nat} {kt:dU} (h:kt.At P kT) {k:MK} (hk:kt.ok k) (em:Bool) (w:World):(Instr.checkKey em 10000 kT (kt.val k)).run P w=.ok () w:=by
 cases kt with
 | int ik=>cases k<;>simp only[dU.ok] at hk;rename_i z;exact MapKept.run_checkKey h (k:=.int ik z) (by simp[MapKept.IsKey]) em 9999
 | str=>cases k<;>simp only[dU.ok] at hk;rename_i z;exact MapKept.run_checkKey h (k:=.string z) (by simp[MapKept.IsKey]) em 9999
 | bools n=>
  obtain ⟨e,i,h1,h2,h3,h4,h5⟩:=h
  cases k<;>simp only[dU.ok] at hk
  exact amT h1 h2 h3 h4 h5 w em hk
theorem ajb {P:Program} {kT:Nat} {kt:dU} (h:kt.At P kT) {k:MK} (hk:kt.ok k) (w:World) (es:List MapEntry) (hes:∀x∈es,∃k,kt.ok k∧x.key=kt.val k) :
  ((Instr.findKey kT (kt.val k) es).run P w=.ok none w∧∀x∈es,x.key≠kt.val k)∨∃j e,(Instr.findKey kT (kt.val k) es).run P w=.ok (some (j,e.val)) w∧es[j]?=some e∧e.key=kt.val k:=by
 have plain:∀(d:TypeDesc),P.underlying kT=some d→MapKept.IsKey d (kt.val k)→(∀x∈es,MapKept.IsKey d x.key)→((Instr.findKey kT (kt.val k) es).run P w=.ok none w∧∀x∈es,x.key≠kt.val k)∨∃j e,(Instr.findKey kT (kt.val k) es).run P w=.ok (some (j,e.val)) w∧es[j]?=some e∧e.key=kt.val k:=by
  intro d hd h1 h2
  rcases MapKept.findNow_spec h1 es 0 h2 with ⟨g1,g2⟩ | ⟨j,e,g1,g2,g3⟩
  ·grind [MapKept.run_findKey]
  ·exact .inr ⟨j,e,by rw[MapKept.run_findKey hd g1,ajv],g2,g3⟩
 cases kt with
 | int ik=>
  refine plain _ h (by cases k<;>simp only[dU.ok] at hk;simp[MapKept.IsKey,dU.val]) fun x hx=>?_
  obtain ⟨q,h1,h2⟩:=hes x hx
  rw[h2];cases q<;>simp only[dU.ok] at h1;simp[MapKept.IsKey,dU.val]
 | str=>
  refine plain _ h (by cases k<;>simp only[dU.ok] at hk;simp[MapKept.IsKey,dU.val]) fun x hx=>?_
  obtain ⟨q,h1,h2⟩:=hes x hx
  rw[h2];cases q<;>simp only[dU.ok] at h1;simp[MapKept.IsKey,dU.val]
 | bools n=>
  obtain ⟨e,i,hu,h2,h3,h4,h5⟩:=h
  cases k<;>simp only[dU.ok] at hk
  rename_i a
  have ask:∀(l:List MapEntry) (q:Nat),(∀x∈l,∃k,(dU.bools n).ok k∧x.key=(dU.bools n).val k) →
    ((Instr.findAsking kT (.agg (fF a)) l q).run P w=.ok none w∧∀x∈l,x.key≠.agg (fF a))∨∃j e,(Instr.findAsking kT (.agg (fF a)) l q).run P w=.ok (some (q+j,e.val)) w∧l[j]?=some e∧e.key=.agg (fF a):=by
   intro l
   induction l with
   | nil=>simp_all [Instr.findAsking]
   | cons x l ih=>
    intro q hl
    obtain ⟨b,hb,hxk⟩:=hl x (by simp)
    cases b<;>simp only[dU.ok] at hb
    rename_i b
    have heq:=ana hu h2 h3 h4 h5 w hk hb
    have hxk:x.key=.agg (fF b):=hxk
    by_cases hab:a=b
    ·refine .inr ⟨0,x,?_,rfl,by rw[hxk,hab]⟩
     simp_all [Instr.findAsking]
    ·rcases ih (q+1) (fun y hy=>hl y (by simp[hy])) with ⟨g1,g2⟩ | ⟨j,e',g1,g2,g3⟩
     ·refine .inl ⟨?_,fun y hy=>?_⟩
      ·simp_all [Instr.findAsking]
      grind [agn]
     ·refine .inr ⟨j+1,e',?_,by simpa using g2,g3⟩
      rw[Instr.findAsking,Sem.run_bind,hxk,heq]
      simp[hab,g1];omega
  show ((Instr.findKey kT (.agg (fF a)) es).run P w=.ok none w∧∀x∈es,x.key≠.agg (fF a))∨∃j e,(Instr.findKey kT (.agg (fF a)) es).run P w=.ok (some (j,e.val)) w∧es[j]?=some e∧e.key=.agg (fF a)
  cases es with
  | nil=>simp_all [Instr.findKey,run_underlying,Instr.findNow]
  | cons x l=>
   have hfk:(Instr.findKey kT (.agg (fF a)) (x :: l)).run P w=(Instr.findAsking kT (.agg (fF a)) (x :: l) 0).run P w:=by
    simp[Instr.findKey,run_underlying hu,Instr.findNow,Instr.sameNow]
   grind
theorem agV (n:Nat):∀l:List Bool,((fF l).toList.zip (fF l).toList).all (fun (x,y)=>Instr.sameBits n x y)=true:=by
 intro l
 unfold fF
 induction l with
 | nil=>rfl
 | cons x l ih=>
  simp_all [Instr.sameBits]
theorem ao5 {P:Program} {kt:dU} {k:MK} (hk:kt.ok k) (w:World):(Instr.keyThatStays (kt.val k) (kt.val k)).run P w=.ok (kt.val k) w:=by
 have:Instr.sameBits 10000 (kt.val k) (kt.val k)=true:=by
  cases kt<;>cases k<;>simp only[dU.ok] at hk
  ·rename_i ik z;exact MapKept.sameBits_self (d:=.int ik) (k:=.int ik z) (by simp[MapKept.IsKey]) _
  ·rename_i z;exact MapKept.sameBits_self (d:=.string) (k:=.string z) (by simp[MapKept.IsKey]) _
  ·show Instr.sameBits (9999+1) (.agg _) (.agg _)=true
   simp_all [Instr.sameBits,agV]
 simp[Instr.keyThatStays,this]
theorem dP.iZ {E:Env} {w:World} {i:Nat} {o:Ob} (h:dP E w i o) {b:Nat} (hb:E.blk i=some b):b<w.heap.size:=by
 cases h with
 | cells b' T vs cs hh hw _ _ _=>
  grind [Env.blk,aM]
 | row T sz n f v xs u hh hw _ _ _ _=>
  rcases hw.2 with ⟨rfl,_⟩ | ⟨g,cap,cur,rfl,_,hg,_⟩
  all_goals grind [Env.blk,aM]
 | arr b' T vs n f u hh hw _ _ _=>grind [Env.blk,aM]
 | map r es clock kt n get hh hw _ _ _ _=>grind [Env.blk,aM]
theorem dP.alH {E:Env} {w:World} {i:Nat} {o:Ob} (h:dP E w i o):∃v,E.hd i=some v:=by
 cases h with
 | cells b' T vs cs hh hw _ _ _=>grind
 | row T sz n f v xs u hh hw _ _ _ _=>grind
 | arr b T vs n f u hh=>grind
 | map r es clock kt n get hh=>grind
theorem dP.iD {E:Env} {w:World} {i:Nat} {T:TypeId} {n:Nat} {f:Nat→PV} (h:dP E w i (.arr T n f)) :
  ∃b vs,E.hd i=some (.pointer (some ⟨b,0,none⟩))∧w.heap[b]?=some (.cells vs T (0,0))∧(vs.size=n∧n≤1000)∧∀k,k<n→∃u,vs[k]?=some u∧u.oneCell'=true∧aS E.mem u (f k):=by
 cases h with | arr b _ vs _ _ u hh hw hs hc he=>grind
theorem dP.wz {E:Env} {w:World} {i b:Nat} {T:TypeId} {n:Nat} {f:Nat→PV} {vs:Array Value} (hh:E.hd i=some (.pointer (some ⟨b,0,none⟩))) (hw:w.heap[b]?=some (.cells vs T (0,0))) (hs:vs.size=n∧n≤1000)
  (h:∀k,k<n→∃u,vs[k]?=some u∧u.oneCell'=true∧aS E.mem u (f k)):dP E w i (.arr T n f):=by
 refine .arr b T vs n f (fun k=>vs.getD k undef) hh hw hs (fun k hk=>?_) (fun k hk=>?_)
 all_goals simp_all
theorem pX {size:Nat} {d:TD} {n:Nat} (h:su size d=some n):∃e,d=.array n e∧size=n∧n≤1000:=by
 cases d<;>simp only[su] at h<;>try (cases h;done)
 split at h
 all_goals simp_all
theorem abU (b:Bool):∀(n:Nat) (l:List PV),takeN n (fG b l)=(takeN n l).map (fG b)
 | 0,l=>by simp[takeN,fG]
 | n+1,[]=>by simp[takeN,fG]
 | n+1,d :: l=>by
  simp only[fG,takeN,abU b n l]
  cases takeN n l<;>rfl
theorem abY (b:Bool):∀(n:Nat) (l:List PV),dH n (fG b l)=fG b (dH n l)
 | 0,l=>by simp[dH]
 | n+1,[]=>by simp[dH,fG]
 | n+1,d :: l=>by simp only[fG,dH,abY b n l]
theorem ahr:∀(n:Nat) (l:List PV),l.length=n→takeN n l=some l
 | 0,l,h=>by rw[axp h];rfl
 | n+1,[],h=>by simp at h
 | n+1,d :: l,h=>by simp only[takeN,ahr n l (by simpa using h)]
theorem afg (n:Nat) (g:Nat→PV):takeN n (dH 0 (iJ n g))=some (iJ n g):=by
 grind [dH,ahr,aaM]
theorem ahG (b:Bool):∀(l:List PV),∃c,w9 (fG b l)=some (c,l)∧(b=true→c=true)
 | []=>⟨true,rfl,fun _=>rfl⟩
 | d :: l=>by
  obtain ⟨c,h1,h2⟩:=ahG b l
  simp_all [fG,w9]
theorem aey {E:Env} {b:Bool} {n:Nat} {g:Nat→PV} {v:Value} (h:aL E v (oM (fG b (iJ n g)))):aS (E.m b) v (.arr n g):=by
 obtain ⟨c,h1,h2⟩:=ahG b (iJ n g)
 simp only[oM,h1] at h
 cases h with
 | p _ _ _ hp=>
  have hp:aS (E.m b) v (.agg (iJ n g)):=hp.mono fun B cs hB=>by
   cases b with
   | true=>grind
   | false=>exact E.fC c _ _ hB
  obtain ⟨vs,rfl,hl,h1,he⟩:=hp.mX
  rw[aaM] at hl
  refine aS.wz hl fun k hk=>?_
  have e1:vs[k]?=some (vs[k]'(by omega)):=acC _
  exact ⟨_,e1,h1 k _ e1,he k _ _ e1 (by rw[nY,if_pos hk])⟩
theorem bg.lt {C:Ctx} {E:Env} {st:St} {w:World} (h:bg C E st w) {i:Nat} {o:Ob} (ho:st.obj i=some o):i<st.no:=by
 rcases axd i st.no with hi | hi
 ·exact hi
 ·obtain ⟨v,hv⟩:=(h.ob i o ho).alH
  rw[h.new i hi] at hv;cases hv
theorem bg.sM {C:Ctx} {E:Env} {st:St} {w:World} (h:bg C E st w) {b:Nat} {cs:Array Value} (hb:E.mem b=some cs):b<w.heap.size:=by
 obtain ⟨T,fr,hw⟩:=h.mem b cs hb
 grind
theorem mq (fr:List (Nat×SV)) (ob:List (Nat×Option Ob)) (no no':Nat) {c c':Option Nat} (k:Nat) (o:Option Ob) (i:Nat) :
  St.obj ⟨fr,(k,o) :: ob,no',c'⟩ i=if k=i then o else St.obj ⟨fr,ob,no,c⟩ i:=by
 grind [St.obj,bq]
def Env.add (E:Env) (i:Nat) (v:Value):Env:={ E with hd:=fun k=>if k=i then some v else E.hd k }
theorem Env.uL {E:Env} {i:Nat} {v:Value} (h:E.hd i=none):E.Le (E.add i v):=
 ⟨fun k u hk=>by
  simp only[Env.add]
  grind,fun _ _ h=>h,rfl⟩
theorem Env.kX (E:Env) (i:Nat) (v:Value):(E.add i v).hd i=some v:=by simp[Env.add]
theorem Env.ajg (E:Env) {i k:Nat} (v:Value) (h:k≠i):(E.add i v).hd k=E.hd k:=by simp[Env.add,h]
theorem bg.step {C:Ctx} {E:Env} {st:St} {w w':World} (h:bg C E st w) {st':St} {i:Nat} {v:Value} {o:Ob}
  (hi:st.no≤i) (hno:i<st'.no) (hkk:st'.k=st.k) (hi':st'.obj i=some o)
  (hold:∀k o',k≠i→st'.obj k=some o'→st.obj k=some o')
  (hrep:dP (E.add i v) w' i o)
  (hos:w'.os=w.os) (htape:w'.tape=w.tape) (hout:w'.output=w.output) (hsz:w.heap.size≤w'.heap.size)
  (hkeep:∀k,k<w.heap.size→w'.heap[k]?=w.heap[k]?∨(∃j o',C.m≤j∧st.obj j=some o'∧st'.obj j=none∧E.blk j=some k))
  (hblk:∀b,aM v=some b→w.heap.size≤b∨(∃j o',C.m≤j∧st.obj j=some o'∧st'.obj j=none∧E.blk j=some b)) :
  bg C (E.add i v) st' w':=by
 have hno0:=h.new i hi
 have hle:=Env.uL (v:=v) hno0
 have blk_ne:∀k,k≠i→(E.add i v).blk k=E.blk k:=fun k hk=>by simp[Env.blk,E.ajg v hk]
 have blk_i:(E.add i v).blk i=aM v:=by simp[Env.blk,E.kX]
 -- an object that has stayed is untouched
 have stays:∀k o',k≠i→st'.obj k=some o'→∀b,E.blk k=some b→w'.heap[b]?=w.heap[b]?:=by
  intro k o' hk ho b hb
  have hs:=hold k o' hk ho
  rcases hkeep b ((h.ob k o' hs).iZ hb) with h1 | ⟨j,o2,hro,h1,h2,h3⟩
  ·exact h1
  ·have:=h.sep k j o' o2 b hs h1 hb h3
   grind
 refine ⟨fun k o' ho=>?_,fun k j o1 o2 b h1 h2 b1 b2=>?_,fun k o' b ho hb=>?_,fun b cs hb=>?_,h.mem0,h.memnew,fun k hk=>?_,h.base,?_,fun k hk=>?_,?_,h.mkh,h.kk.trans hkk.symm⟩
 ·by_cases hk:k=i
  ·grind
  ·exact ((h.ob k o' (hold k o' hk ho)).mono hle).world fun b hb=>stays k o' hk ho b (by grind)
 ·-- apart
  have one:∀k o1,k≠i→st'.obj k=some o1→∀b,E.blk k=some b→aM v=some b→False:=by
   intro k o1 hk ho b hb hv
   have hs:=hold k o1 hk ho
   rcases hblk b hv with h1 | ⟨j,o2,hro,h1,h2,h3⟩
   ·have:=(h.ob k o1 hs).iZ hb;omega
   ·have:=h.sep k j o1 o2 b hs h1 hb h3
    grind
  by_cases hk:k=i
  ·grind
  ·by_cases hj:j=i
   ·grind
   ·rw[blk_ne k hk] at b1;rw[blk_ne j hj] at b2
    exact h.sep k j o1 o2 b (hold k o1 hk h1) (hold j o2 hj h2) b1 b2
 ·by_cases hk:k=i
  ·subst hk
   rw[blk_i] at hb
   rcases hblk b hb with h1 | ⟨j,o2,hro,h1,h2,h3⟩
   ·refine ⟨?_,.inl (aiT h.fr.bsz (aiT h.fr.wsz h1)),.inl (.inl (aiT h.fr.wsz h1))⟩
    cases hm:(E.add k v).mem b with
    | none=>rfl
    | some cs=>have:=h.sM (b:=b) (cs:=cs) hm;omega
   ·obtain ⟨g1,g2,g3⟩:=h.own j o2 b h1 h3
    exact ⟨g1,.inl (g2.resolve_right (fun x=>by omega)),.inl (g3.resolve_right (fun x=>by omega))⟩
  ·rw[blk_ne k hk] at hb
   exact h.own k o' b (hold k o' hk ho) hb
 ·obtain ⟨T,fr,hw⟩:=h.mem b cs hb
  refine ⟨T,fr,?_⟩
  rcases hkeep b (acG.1 hw).1 with h1 | ⟨j,o2,hro,h1,h2,h3⟩
  ·grind
  ·have:=(h.own j o2 b h1 h3).1
   have hb':E.mem b=some cs:=hb
   grind
 ·rw[E.ajg v (by omega)];exact h.new k (by omega)
 ·refine ⟨hos.trans h.fr.os,htape.trans h.fr.tape,hout.trans h.fr.output,h.fr.bsz,aiT h.fr.wsz hsz,h.fr.wos,h.fr.isz,fun k hk hbor=>?_,h.fr.sync⟩
  rcases hkeep k (alk hk h.fr.wsz) with h1 | ⟨j,o2,hro,h1,h2,h3⟩
  ·rw[h1];exact h.fr.block k hk hbor
  ·rcases (h.own j o2 k h1 h3).2.2 with (h4 | h4) | h4
   ·have hk':k<E.ws.heap.size:=hk;omega
   ·exact absurd h4 hbor
   ·omega
 ·have:k≠i:=by have:=h.mno;omega
  rw[E.ajg v this];exact h.hd0 k hk
 ·have:=h.mno;omega
theorem bg.afC {C:Ctx} {E:Env} {st:St} {w:World} (h:bg C E st w) (obj:Obj) {v:Value} {o:Ob} (hv:∀b,aM v=some b→b=w.heap.size)
  (hrep:dP (E.add st.no v) (w.alloc obj) st.no o):bg C (E.add st.no v) (st.alloc o) (w.alloc obj):=by
 refine h.step (abm _) (by simp[St.alloc]) rfl ?_ (fun k o' hk ho=>?_) hrep rfl rfl rfl (by simp) (fun k hk=>.inl (RowKit.Below.heap_alloc w obj k hk)) (fun b hb=>.inl (by grind))
 ·have:(st.alloc o).obj st.no=if st.no=st.no then some o else st.obj st.no:=mq st.fr st.ob st.no _ _ _ _
  grind
 ·have:(st.alloc o).obj k=if st.no=k then some o else st.obj k:=mq st.fr st.ob st.no _ _ _ _
  grind
theorem bg.write {C:Ctx} {E:Env} {st:St} {w w':World} (h:bg C E st w) {i b:Nat} {o o':Ob} (ho:st.obj i=some o) (hb:E.blk i=some b) (hro:C.ro≤i)
  (hrep:dP E w' i o') (hos:w'.os=w.os) (htape:w'.tape=w.tape) (hout:w'.output=w.output) (hsz:w'.heap.size=w.heap.size) (hkeep:∀k,k≠b→w'.heap[k]?=w.heap[k]?) :
  bg C E (st.eX i (some o')) w':=by
 have get:∀k,(st.eX i (some o')).obj k=if i=k then some o' else st.obj k:=fun k=>mq st.fr st.ob st.no _ _ _ _
 have old:∀k o1,(st.eX i (some o')).obj k=some o1→∃o2,st.obj k=some o2:=by
  grind
 refine ⟨fun k o1 hk=>?_,fun k j o1 o2 c h1 h2 b1 b2=>?_,fun k o1 c hk hc=>?_,fun c cs hc=>?_,h.mem0,h.memnew,h.new,h.base,?_,h.hd0,h.mno,h.mkh,h.kk⟩
 ·rw[get] at hk
  by_cases e:i=k
  ·grind
  ·rw[if_neg e] at hk
   exact (h.ob k o1 hk).world fun c hc=>hkeep c (fun e2=>by subst e2;exact e (h.sep i k o o1 c ho hk hb hc))
 ·obtain ⟨o3,h3⟩:=old k o1 h1
  obtain ⟨o4,h4⟩:=old j o2 h2
  exact h.sep k j o3 o4 c h3 h4 b1 b2
 ·obtain ⟨o3,h3⟩:=old k o1 hk
  exact h.own k o3 c h3 hc
 ·obtain ⟨T,fr,hw⟩:=h.mem c cs hc
  refine ⟨T,fr,?_⟩
  rw[hkeep c (fun e=>by subst e;rw[(h.own i o c ho hb).1] at hc;cases hc)];exact hw
 ·refine ⟨hos.trans h.fr.os,htape.trans h.fr.tape,hout.trans h.fr.output,h.fr.bsz,by rw[hsz];exact h.fr.wsz,h.fr.wos,h.fr.isz,fun k hk hbor=>?_,h.fr.sync⟩
  rw[hkeep k (fun e=>by subst e;rcases (h.own i o k ho hb).2.2 with (h4 | h4) | h4<;>first | omega | exact hbor h4)]
  exact h.fr.block k hk hbor
theorem av.fE {C:Ctx} {E E':Env} {st st':St} {a:Act} {w w':World} (h:av C E st a w) (hle:E.Le E') (hf:st'.fr=st.fr) (hh:bg C E' st' w') (hs:E'.ws=E.ws∧E'.I=E.I) (hnc:jm w w'):av C E' st' a w':=
 ⟨h.size,fun t=>by
  have:st'.get t=st.get t:=by grind [St.get]
  rw[this];exact (h.slot t).mono hle,hh,h.marks.keep hs hnc⟩
theorem bg.alB {C:Ctx} {E:Env} {st:St} {w:World} (h:bg C E st w) (f:List (Nat×SV)):bg C E ⟨f,st.ob,st.no,st.k⟩ w:=
 ⟨h.ob,h.sep,h.own,h.mem,h.mem0,h.memnew,h.new,h.base,h.fr,h.hd0,h.mno,h.mkh,h.kk⟩
theorem jX (w:World) (o:Obj):jm w (w.alloc o):=fun D o' h _=>(RowKit.Below.heap_alloc w o D (acG.1 h).1).trans h
theorem amS {w w':World} {b:Nat} {es:Array MapEntry} {clock:Nat} (hb:w.heap[b]?=some (.map es clock)) (h:∀k,k≠b→w'.heap[k]?=w.heap[k]?):jm w w':=fun D o ho hc=>by
 by_cases e:D=b
 ·subst e;rw[hb] at ho;cases ho;cases hc
 grind
theorem ru {w w':World} {b:Nat} {cs:Array Value} {T:TypeId} {fr:Nat×Nat} (hb:w.heap[b]?=some (.cells cs T fr)) (h:∀k,k≠b→w'.heap[k]?=w.heap[k]?):jm w w':=fun D o ho hc=>by
 rw[h D (fun e=>by subst e;rw[hb] at ho;cases ho;cases hc)];exact ho
theorem dP.l6 {E:Env} {w:World} {i:Nat} {T:TypeId} {cs:List SV} (h:dP E w i (.cells T cs)) :
  ∃b vs,E.hd i=some (.pointer (some ⟨b,0,none⟩))∧w.heap[b]?=some (.cells vs T (0,0))∧lT E vs cs:=by
 cases h with | cells b _ vs _ hh hw hl h1 he=>exact ⟨b,vs,hh,hw,hl,h1,he⟩
theorem afH {E:Env} {v:Value} {i sz j off:Nat} (h:aL E v (.el i sz j off)):∃b n cap,E.hd i=some (.slice (some ⟨b,0,none⟩) n cap)∧v=.pointer (some ⟨b,j*sz+off,none⟩):=by
 cases h with | el _ _ _ _ b n cap hb=>grind
theorem anp.cells {E:Env} {w:World} {T:TypeId} {sz n:Nat} {f:Nat→List PV} {b cap:Nat} {cur:Array Value} {u:Nat→Nat→Value} (h:anp E w T sz n f b cap cur u) {j:Nat} (hj:j<n) :
  pR E (fun k=>w.cell? ⟨b,j*sz+k,none⟩) (fG false (f j)):=by
 intro k s hs
 rw[jW] at hs
 cases hl:(f j)[k]? with
 | none=>grind
 | some d'=>
  simp[hl] at hs;subst hs
  obtain ⟨h1,h2⟩:=h.hc j k d' hj hl
  exact ⟨u j k,by simp[World.cell?,h.heap];exact h1,h2,.p _ _ _ (h.he j k d' hj hl)⟩
theorem zx {f:Nat→List PV} {j off:Nat} {ds:List PV} {sz j':Nat} (hl:(f j').length=sz) (ho:off+ds.length≤sz):(gZ f j off ds j').length=sz:=by
 grind [gZ]
theorem an1 {f:Nat→List PV} {j off:Nat} {ds:List PV} {sz j' k:Nat} (hl:(f j').length=sz) (ho:off+ds.length≤sz) :
  (gZ f j off ds j')[k]?=if j'=j∧off≤k∧k<off+ds.length then ds[k-off]? else (f j')[k]?:=by
 unfold gZ
 by_cases h:j'=j
 ·subst h
  have h1:((f j').take off).length=off:=by grind
  grind
 grind
theorem aqa {j j' k off len sz:Nat} (hk:k<sz) (ho:off+len≤sz) (h:¬(j'=j∧off≤k∧k<off+len)):¬(j*sz+off≤j'*sz+k∧j'*sz+k<j*sz+off+len):=by
 intro ⟨h1,h2⟩
 by_cases e:j'=j
 ·grind
 ·rcases axd j' j with hlt | hge
  ·have:=ajG sz (show j'+1≤j from hlt)
   grind
  ·have:=ajG sz (show j+1≤j' by omega)
   grind
theorem sZ:∀(l:List Value) (k:Nat),(vals l)[k]?=(l[k]?).map PV.val
 | [],k=>by simp[vals]
 | v :: l,0=>by simp[vals]
 | v :: l,k+1=>by simp[vals,sZ l k]
theorem wB:∀(l:List Value),(vals l).length=l.length
 | []=>rfl
 | v :: l=>by simp[vals,wB l]
theorem yN {P:Program} {t:Nat} {i:TI} (hi:i.Ok P t) {E:Env} {w:World} {b base:Nat} {cs:List SV} (hc:pR E (fun k=>w.cell? ⟨b,base+k,none⟩) cs) {off:Nat} {s:SV}
  (hr:dA i.desc.isAgg i.size off cs=some s):∃v,(∀w1:World,(∀k,w1.cell? ⟨b,k,none⟩=w.cell? ⟨b,k,none⟩)→(loadVar t ⟨b,base+off,none⟩).run P w1=.ok v w1)∧aL E v s:=by
 cases hag:i.desc.isAgg with
 | true=>
  rw[hag] at hr
  obtain ⟨h1,h2⟩:=amd hc hr
  have hcell:∀j,j<i.size→w.cell? ((⟨b,base+off,none⟩:Addr).add j)=some ((w.cell? ⟨b,base+(off+j),none⟩).getD undef):=by
   intro j hj
   rw[Addr.add_lit]
   have hk:off+j<cs.length:=by omega
   obtain ⟨u,hu,_⟩:=hc (off+j) cs[off+j] (aav hk)
   grind
  have hl:=fun (w1:World) (hw1:∀k,w1.cell? ⟨b,k,none⟩=w.cell? ⟨b,k,none⟩)=>run_loadCells (P:=P) w1 ⟨b,base+off,none⟩ i.size (fun j=>(w.cell? ⟨b,base+(off+j),none⟩).getD undef) (fun j hj=>by
   grind [Addr.add_lit])
  refine ⟨.agg ((List.range i.size).map fun j=>(w.cell? ⟨b,base+(off+j),none⟩).getD undef).toArray,fun w1 hw1=>by unfold loadVar;simp[aaq hi,hag,eY hi,hl w1 hw1],h2 _ (by simp) fun k hk=>?_⟩
  have hk2:off+k<cs.length:=by omega
  obtain ⟨u,hu,_⟩:=hc (off+k) cs[off+k] (aav hk2)
  grind
 | false=>
  rw[hag] at hr
  simp only[dA,fT] at hr
  obtain ⟨u,hu,_,hs⟩:=hc _ _ hr
  exact ⟨u,fun w1 hw1=>by unfold loadVar;simp[aaq hi,hag,hw1,hu],hs⟩
theorem sH:∀(n:Nat) (z:List SV),(aaT n z).length=n*z.length
 | 0,z=>by simp[aaT]
 | n+1,z=>by simp[aaT,sH n z,axK];omega
theorem aeR:∀(n:Nat) (z:List SV) (k:Nat),k<n*z.length→(aaT n z)[k]?=z[k % z.length]?
 | 0,z,k,h=>by simp at h
 | n+1,z,k,h=>by
  simp only[aaT]
  by_cases hk:k<z.length
  ·rw[al7 hk,axl hk]
  ·rw[aex (by omega),aeR n z (k-z.length) (by rw[axK] at h;omega)]
   rw[show k % z.length=(k-z.length) % z.length by rw[←Nat.mod_eq_sub_mod (by omega)]]
theorem afK {α:Type}:∀(n:Nat) (l:List α),n≤l.length→takeN n l=some (l.take n)
 | 0,l,_=>by simp[takeN]
 | n+1,[],h=>by simp at h
 | n+1,x :: l,h=>by simp[takeN,afK n l (by simpa using h)]
theorem lY {sz:Nat} {l:List PV} {n:Nat} (hl:l.length=n*sz) {j:Nat} (hj:j<n):(aU sz l j).length=sz∧∀k,k<sz→(aU sz l j)[k]?=l[j*sz+k]?:=by
 have hle:j*sz+sz≤l.length:=by rw[hl,←axK];exact ajG _ hj
 unfold aU
 have h1:takeN sz (dH (j*sz) l)=some ((l.drop (j*sz)).take sz):=by
  grind [vB,afK]
 grind
theorem zq {place:Nat→Option (Nat×Nat)} {st:St}:∀{parts:List (Nat×Operand)} {cs cs':List SV},uU place st cs parts=some cs'→cs'.length=cs.length
 | [],cs,cs',h=>by grind [uU]
 | (i,x) :: rest,cs,cs',h=>by
  simp only[uU] at h
  split at h
  ·split at h
   ·split at h
    ·rename_i r hr
     rw[zq h,(sI _ _ _ _ hr).1]
    ·cases h
   ·cases h
  ·cases h
theorem vZ {P:Program} {T:Nat} {i:TI} (hi:i.Ok P T) {E:Env}:∃z,(∀w,(zeroValue T).run P w=.ok z w)∧lT E z.cells (zeros i.zero):=by
 obtain ⟨I,z,hI,hz,_,_,hA⟩:=hi.o7 E
 simp_all [zeroValue,typeInfo]
theorem lQ (w:World) (o:Obj):Grow w (w.alloc o):=⟨by simp,fun b hb=>RowKit.Below.heap_alloc w o b hb⟩
theorem dY {C:Ctx} {E:Env} {st:St} {a:Act} {w:World} (h:av C E st a w) {X:aY} (hnt:C.nt=X.nt) {d:Option Nat} (hd:bY X.nt d=true) {s:SV} {v:Value} {K:St→Prop}
  (hk:aP st d s K) (hs:aL E v s) {next:Act→World→Prop} (hn:∀st' E' a' w',K st'→av C E' st' a' w'→w'=w→next a' w'):next (a.put d v) w:=by
 rw[abb] at hk
 exact hn _ E _ _ hk (h.agt (by grind) hs) rfl
theorem aee {C:Ctx} {E:Env} {st:St} {a:Act} {w:World} (h:av C E st a w) {X:aY} (hnt:C.nt=X.nt) {o:Oper} (hd:bY X.nt o.dst=true)
  {vs:Array Value} {T:TypeId} {cs:List SV} (hA:lT E vs cs) {K:St→Prop}
  (hk:uF st (.cells T cs) fun st i=>aP st o.dst (.own i 0) K) {next:Act→World→Prop}
  (hn:∀st' E' a' w',K st'→av C E' st' a' w'→w'=w.alloc (.cells vs T)→next a' w'):next (a.put o.dst (.pointer (some ⟨w.heap.size,0,none⟩))) (w.alloc (.cells vs T)):=by
 have hle:=Env.uL (v:=.pointer (some ⟨w.heap.size,0,none⟩)) (h.heap.new st.no (abm _))
 have hh:=h.heap.afC (.cells vs T) (v:=.pointer (some ⟨w.heap.size,0,none⟩)) (o:=.cells T cs) (fun b hb=>by grind [aM])
  (.cells w.heap.size T vs cs (E.kX _ _) (World.alloc_heap_new w _) hA.size hA.one fun k u s h1 h2=>(hA.rep k u s h1 h2).mono hle)
 rw[rD] at hk
 exact dY (h.fE (st':=st.alloc (.cells T cs)) hle rfl hh ⟨rfl,rfl⟩ (jX w _)) hnt hd hk (.own _ 0 w.heap.size (E.kX _ _)) hn
theorem ag9 {C:Ctx} {E:Env} {st:St} {a:Act} {w:World} {R:World→Prop} (h:av C E st a w) {X:aY} (hTb:X.Tb.Ok X.P) (hnt:C.nt=X.nt) {o:Oper} (hR:∀w1,R w1→gX o.op=true→Grow w w1) (hd:bY X.nt o.dst=true)
  {K:St→Prop} (hk:y5 X o st K) {next:Act→World→Prop}
  (hn:∀st' E' a' w',K st'→av C E' st' a' w'→next a' w'):aV R X.P o a w next:=by
 unfold y5 at hk
 split at hk
 ·-- load
  rename_i T x ho
  split at hk
  case h_2=>exact hk.elim
  ·rename_i d size _ _ hi
   have go:∀(b base off:Nat) (cs:List SV) (s:SV),b<w.heap.size→a.eval x=.pointer (some ⟨b,base+off,none⟩)→pR E (fun k=>w.cell? ⟨b,base+k,none⟩) cs→dA d.isAgg size off cs=some s→aP st o.dst s K→aV R X.P o a w next:=by
    intro b base off cs s hlt hx hc hr hk
    obtain ⟨v,hv,hs⟩:=yN (hTb _ _ hi) hc hr
    exact aV.mk' (v:=v) (fun w1 hg=>by simp[execOp,ho,Instr.loadAt,hx,Instr.sureAddr,hv w1 (fun k=>(hR w1 hg (by simp[gX,ho])).cell hlt k)]) (aD h hnt hd hk hs hn)
   have goP:∀(b:Bool) (l:List PV) (off n:Nat) (g:Nat→PV) (b' base:Nat),su size d=some n→b'<w.heap.size→a.eval x=.pointer (some ⟨b',base+off,none⟩)→pR E (fun k=>w.cell? ⟨b',base+k,none⟩) (fG b l) →
     takeN n (dH off l)=some (iJ n g)→aP st o.dst (.p b (.arr n g)) K→aV R X.P o a w next:=by
    intro b l off n g b' base hbig hlt hx hc ht hk0
    obtain ⟨e,rfl,rfl,hbm⟩:=pX hbig
    obtain ⟨v,hv,hs⟩:=yN (hTb _ _ hi) hc (s:=oM (fG b (iJ size g))) (by show dA true _ _ _=_;unfold dA;rw[abY,abU,ht];rfl)
    exact aV.mk' (v:=v) (fun w1 hg=>by simp[execOp,ho,Instr.loadAt,hx,Instr.sureAddr,hv w1 (fun k=>(hR w1 hg (by simp[gX,ho])).cell hlt k)]) (aD h hnt hd hk0 (.p b _ _ (aey hs)) hn)
   have arrCells:∀{i b:Nat} {T':TypeId} {n:Nat} {f:Nat→PV},st.obj i=some (.arr T' n f)→E.hd i=some (.pointer (some ⟨b,0,none⟩))→b<w.heap.size∧pR E (fun k=>w.cell? ⟨b,0+k,none⟩) (fG false (iJ n f)):=by
    intro i b T' n f hob hb
    obtain ⟨b',vs,hh,hw,hs,hc⟩:=(h.heap.ob i _ hob).iD
    rw[hb] at hh;cases hh
    refine ⟨(acG.1 hw).1,fun k s hs'=>?_⟩
    rw[jW,nY] at hs'
    by_cases hk:k<n
    ·rw[if_pos hk] at hs'
     simp at hs';subst hs'
     obtain ⟨u,h1,h2,h3⟩:=hc k hk
     exact ⟨u,by grind [World.cell?],h2,.p _ _ _ h3⟩
    grind
   have ptCells:∀{b:Bool} {l:List PV} {off:Nat},st.ev x=.p b (.pt l off)→∃b' o',b'<w.heap.size∧a.eval x=.pointer (some ⟨b',o'+off,none⟩)∧pR E (fun k=>w.cell? ⟨b',o'+k,none⟩) (fG b l):=by
    intro b l off hx
    have hxv:=aI h x
    rw[hx] at hxv
    generalize hvx:a.eval x=v at hxv
    cases hxv with
    | p _ _ _ hp=>
     cases hp with
     | pt b' o' _ _ cs u hm hc he=>
      have hm':=E.fC b _ _ hm
      obtain ⟨T',fr,hw⟩:=h.heap.mem _ _ hm'
      refine ⟨b',o',(acG.1 hw).1,rfl,fun k s hs=>?_⟩
      rw[jW] at hs
      cases hl:l[k]? with
      | none=>grind
      | some d'=>
       simp[hl] at hs;subst hs
       obtain ⟨h1,h2⟩:=hc k d' hl
       exact ⟨u k,by grind [World.cell?],h2,.p _ _ _ (he k d' hl)⟩
   split at hk
   ·rename_i n hbig
    unfold aly at hk
    split at hk
    ·rename_i i off hx
     have hxv:=aI h x
     rw[hx] at hxv
     obtain ⟨b,hb,hxe⟩:=ji hxv
     split at hk
     ·rename_i T' n' f hob
      split at hk
      ·cases hnn:n'.beq n with
       | false=>grind
       | true=>
        obtain rfl:=acD hnn
        simp only[hnn] at hk
        obtain ⟨c1,c2⟩:=arrCells hob hb
        exact goP false (iJ n' f) 0 n' f b 0 hbig c1 (by rw[hxe]) c2 (afg n' f) hk
      grind
     ·rename_i T' cs hob
      split at hk
      ·rename_i s hr
       obtain ⟨b',vs,hb',hw,hA⟩:=(h.heap.ob i _ hob).l6
       rw[hb] at hb';cases hb'
       obtain ⟨e,rfl,rfl,hbm⟩:=pX hbig
       refine go b 0 off cs s (acG.1 hw).1 (by rw[hxe];simp) (fun k s hs=>?_) hr hk
       obtain ⟨u,hu,h1,h2⟩:=hA.at k s hs
       grind [World.cell?]
      grind
     grind
    ·rename_i i sz j off hx
     split at hk
     ·rename_i T' sz' n' f hob
      cases hb:sz.beq sz' with
      | false=>grind
      | true=>
       simp only[hb] at hk
       obtain rfl:=acD hb
       obtain ⟨hj,g,hg,hk⟩:=hk
       have hxv:=aI h x
       rw[hx] at hxv
       obtain ⟨b,n2,cap,hb,hxe⟩:=afH hxv
       obtain ⟨rfl,cur,u,hR⟩:=(h.heap.ob i _ hob).pG hb
       exact goP false (f j) off n g b (j*sz) hbig (acG.1 hR.heap).1 hxe (hR.cells hj) hg hk
     grind
    all_goals grind
   split at hk
   ·rename_i i off hx
    split at hk
    ·rename_i T' cs hob
     split at hk
     ·rename_i s hr
      have hxv:=aI h x
      rw[hx] at hxv
      obtain ⟨b,hb,hxe⟩:=ji hxv
      obtain ⟨b',vs,hb',hw,hA⟩:=(h.heap.ob i _ hob).l6
      rw[hb] at hb';cases hb'
      refine go b 0 off cs s (acG.1 hw).1 (by rw[hxe];simp) (fun k s hs=>?_) hr hk
      obtain ⟨u,hu,h1,h2⟩:=hA.at k s hs
      grind [World.cell?]
     grind
    ·rename_i T' n f hob
     split at hk
     ·rename_i hag _
      obtain ⟨hoff,hk⟩:=hk
      have hxv:=aI h x
      rw[hx] at hxv
      obtain ⟨b,hb,hxe⟩:=ji hxv
      obtain ⟨c1,c2⟩:=arrCells hob hb
      refine go b 0 off (fG false (iJ n f)) (.p false (f off)) c1 (by rw[hxe];simp) c2 ?_ hk
      simp_all [dA,fT,jW,nY]
     grind
    grind
   ·rename_i i sz j off hx
    split at hk
    ·rename_i T' sz' n f hob
     cases hb:sz.beq sz' with
     | false=>grind
     | true=>
      simp only[hb] at hk
      obtain rfl:=acD hb
      obtain ⟨hj,hk⟩:=hk
      split at hk
      ·rename_i s hr
       have hxv:=aI h x
       rw[hx] at hxv
       obtain ⟨b,n',cap,hb,hxe⟩:=afH hxv
       obtain ⟨rfl,cur,u,hR⟩:=(h.heap.ob i _ hob).pG hb
       exact go b (j*sz) off _ s (acG.1 hR.heap).1 hxe (hR.cells hj) hr hk
      grind
    grind
   ·rename_i b l off hx
    split at hk
    ·rename_i s hr
     have hxv:=aI h x
     rw[hx] at hxv
     generalize hvx:a.eval x=v at hxv
     cases hxv with
     | p _ _ _ hp=>
      cases hp with
      | pt b' o' _ _ cs u hm hc he=>
       have hm':=E.fC b _ _ hm
       obtain ⟨T',fr,hw⟩:=h.heap.mem _ _ hm'
       refine go b' o' off (fG b l) s (acG.1 hw).1 hvx (fun k s hs=>?_) hr hk
       rw[jW] at hs
       cases hl:l[k]? with
       | none=>grind
       | some d'=>
        simp[hl] at hs;subst hs
        obtain ⟨h1,h2⟩:=hc k d' hl
        exact ⟨u k,by grind [World.cell?],h2,.p _ _ _ (he k d' hl)⟩
    grind
   grind
 ·-- fieldAddr
  rename_i T x f ho
  split at hk
  ·rename_i fs _ _ _ hi
   split at hk
   ·rename_i off sz hsp
    obtain ⟨Fs,hu,hfs,_⟩:=(hTb _ _ hi).desc
    subst hfs
    obtain ⟨fd,hf1,hf2,hf3⟩:=aaw hTb hsp
    simp only at hf2 hf3
    have hsz:∀w,(sizeOf fd.type).run X.P w=.ok (sz+1) w:=fun w=>by
     cases hI:X.P.info? fd.type with
     | none=>grind
     | some I=>simp_all [sizeOf,typeInfo]
    have hrun:∀(b p:Nat),a.eval x=.pointer (some ⟨b,p,none⟩)→∀w1,R w1→(execOp a.eval o).run X.P w1=.ok (.value (.pointer (some ⟨b,p+off,none⟩))) w1:=by
     simp_all [execOp,Instr.fieldAt,run_underlying,Instr.sureAddr,fieldPlace,Addr.add_lit]
    split at hk
    ·rename_i i o' hx
     have hxv:=aI h x
     rw[hx] at hxv
     obtain ⟨b,hb,hxe⟩:=ji hxv
     exact aV.mk' (hrun b o' hxe) (aD h hnt hd hk (.own _ _ b hb) hn)
    ·rename_i i sz' j o' hx
     have hxv:=aI h x
     rw[hx] at hxv
     obtain ⟨b,n',cap,hb,hxe⟩:=afH hxv
     refine aV.mk' (hrun b _ hxe) (aD h hnt hd hk ?_ hn)
     rw[axt]
     exact .el _ _ _ _ b n' cap hb
    ·rename_i b l o' hx
     have hxv:=aI h x
     rw[hx] at hxv
     generalize hvx:a.eval x=v at hxv
     cases hxv with
     | p _ _ _ hp=>
      cases hp with
      | pt b' q _ _ cs u hm hc he=>
       refine aV.mk' (hrun b' _ hvx) (aD h hnt hd hk (.p _ _ _ ?_) hn)
       rw[axt]
       exact .pt b' q (o'+off) l cs u hm hc he
    grind
   grind
  grind
 ·-- indexAddr
  rename_i T x i ho
  split at hk
  ·rename_i e _ _ _ hi
   split at hk
   ·rename_i _ sz _ _ hie
    split at hk
    ·rename_i b n f _ k j hx hj
     obtain ⟨⟨h0,h1⟩,hlen,hk⟩:=hk
     have hu:X.P.underlying T=some (.slice e):=(hTb _ _ hi).desc
     have hjv:=aI h i
     rw[hj] at hjv
     have hje:=hjv.aO
     have hxv:=aI h x
     rw[hx] at hxv
     generalize hvx:a.eval x=v at hxv
     have hjn:j.toNat<n:=by omega
     cases hxv with
     | p _ _ _ hp=>
      cases hp with
      | nil=>omega
      | emp=>omega
      | seq b' q _ cap sz' _ cs u hm hcap hmax hl hc he=>
       have hsz':sz'=sz+1:=by grind
       refine aV.mk' (v:=.pointer (some ⟨b',q+j.toNat*(sz+1)+0,none⟩)) ?_ (aD h hnt hd hk (.p _ _ _ (.pt b' (q+j.toNat*(sz+1)) 0 _ cs (u j.toNat) hm (fun k s hs=>?_) (fun k s hs=>he _ _ _ hjn hs))) hn)
       ·intro w1 hg
        simp[execOp,ho,Instr.indexAt,hje,asIntOf,run_underlying hu,hvx,h0,h1,eY (hTb _ _ hie),Addr.add_lit]
       grind
    ·rename_i r _ k j hx hj
     split at hk
     ·rename_i T' sz' n f hob
      cases hb:sz'.beq (sz+1) with
      | false=>grind
      | true=>
       simp only[hb] at hk
       obtain rfl:=acD hb
       obtain ⟨⟨h0,h1⟩,hk⟩:=hk
       have hu:X.P.underlying T=some (.slice e):=(hTb _ _ hi).desc
       have hjv:=aI h i
       rw[hj] at hjv
       have hje:=hjv.aO
       have hxv:=aI h x
       rw[hx] at hxv
       obtain ⟨b,cap,hb⟩:=(h.heap.ob r _ hob).ae2 (by omega)
       have hvx:a.eval x=.slice (some ⟨b,0,none⟩) n cap:=by
        generalize a.eval x=v at hxv
        cases hxv with | row _ _ hh _=>grind
       refine aV.mk' (v:=.pointer (some ⟨b,j.toNat*(sz+1)+0,none⟩)) ?_ (aD h hnt hd hk (.el r (sz+1) j.toNat 0 b n cap hb) hn)
       intro w1 hg
       simp[execOp,ho,Instr.indexAt,hje,asIntOf,run_underlying hu,hvx,h0,h1,eY (hTb _ _ hie),Addr.add_lit]
     grind
    grind
   grind
  ·rename_i n e _ _ _ hi
   split at hk
   ·rename_i _ sz _ _ hie
    split at hk
    ·rename_i q off _ k j hx hj
     have hk:(0≤j∧j<(n:Int))∧aP st o.dst (.own q (off+j.toNat*sz)) K:=by
      grind
     obtain ⟨⟨h0,h1⟩,hk⟩:=hk
     have hu:X.P.underlying T=some (.array n e):=(hTb _ _ hi).desc
     have hjv:=aI h i
     rw[hj] at hjv
     have hje:=hjv.aO
     have hxv:=aI h x
     rw[hx] at hxv
     obtain ⟨b,hb,hxe⟩:=ji hxv
     refine aV.mk' (v:=.pointer (some ⟨b,off+j.toNat*sz,none⟩)) ?_ (aD h hnt hd hk (.own _ _ b hb) hn)
     intro w1 hg
     simp[execOp,ho,Instr.indexAt,hje,asIntOf,run_underlying hu,hxe,Instr.sureAddr,h0,h1,eY (hTb _ _ hie),Addr.add_lit]
    ·rename_i b l off _ k j hx hj
     split at hk
     ·obtain ⟨⟨h0,h1⟩,d,hd2,hk⟩:=hk
      have hu:X.P.underlying T=some (.array n e):=(hTb _ _ hi).desc
      have hjv:=aI h i
      rw[hj] at hjv
      have hje:=hjv.aO
      have hxv:=aI h x
      rw[hx] at hxv
      generalize hvx:a.eval x=v at hxv
      cases hxv with
      | p _ _ _ hp=>
       cases hp with
       | pt b' q _ _ cs u hm hc he=>
        refine aV.mk' (v:=.pointer (some ⟨b',q+off+j.toNat*1+0,none⟩)) (fun w1 hg=>?_) (aD h hnt hd hk (.p _ _ _ (.pt b' (q+off+j.toNat*1) 0 [d] cs (fun _=>u (off+j.toNat)) hm (fun k s hs=>?_) (fun k s hs=>?_))) hn)
        ·simp[execOp,ho,Instr.indexAt,hje,asIntOf,run_underlying hu,hvx,Instr.sureAddr,h0,h1,eY (hTb _ _ hie),Addr.add_lit]
        all_goals grind
     grind
    grind
   grind
  grind
 grind
theorem ac0 {C:Ctx} {E:Env} {st:St} {a:Act} {w:World} (h:av C E st a w) {X:aY} (hnt:C.nt=X.nt) {o:Oper} (hd:bY X.nt o.dst=true)
  {vs:Array Value} {T:TypeId} {n:Nat} {f:Nat→PV} (hs:vs.size=n∧n≤1000) (hA:∀k,k<n→∃u,vs[k]?=some u∧u.oneCell'=true∧aS E.mem u (f k)) {K:St→Prop}
  (hk:uF st (.arr T n f) fun st i=>aP st o.dst (.own i 0) K) {next:Act→World→Prop}
  (hn:∀st' E' a' w',K st'→av C E' st' a' w'→w'=w.alloc (.cells vs T)→next a' w'):next (a.put o.dst (.pointer (some ⟨w.heap.size,0,none⟩))) (w.alloc (.cells vs T)):=by
 have hle:=Env.uL (v:=.pointer (some ⟨w.heap.size,0,none⟩)) (h.heap.new st.no (abm _))
 have hh:=h.heap.afC (.cells vs T) (v:=.pointer (some ⟨w.heap.size,0,none⟩)) (o:=.arr T n f) (fun b hb=>by grind [aM])
  (dP.wz (E.kX _ _) (World.alloc_heap_new w _) hs fun k hk=>by obtain ⟨u,h1,h2,h3⟩:=hA k hk;exact ⟨u,h1,h2,h3.mono hle.mem⟩)
 rw[rD] at hk
 exact dY (h.fE (st':=st.alloc (.arr T n f)) hle rfl hh ⟨rfl,rfl⟩ (jX w _)) hnt hd hk (.own _ 0 w.heap.size (E.kX _ _)) hn
theorem afm {P:Program} {a:Act} {o:Oper} {T:TypeId} {x y:Operand} (ho:o.op=.store T x y) {w:World} {b off size:Nat} {T':TypeId} {vs:Array Value} (hx:a.eval x=.pointer (some ⟨b,off,none⟩))
  (hw:w.heap[b]?=some (.cells vs T' (0,0))) (hsize:(sizeOf T).run P w=.ok size w) (hcz:(a.eval y).cells.size=size) (hone:∀(k:Nat) (u:Value),(a.eval y).cells[k]?=some u→u.oneCell'=true) (hle:off+size≤vs.size) :
  ∃vs':Array Value,(execOp a.eval o).run P w=.ok .skip (w.setRow b vs')∧vs'.size=vs.size∧∀k,vs'[k]?=if off≤k∧k<off+size then (a.eval y).cells[k-off]? else vs[k]?:=by
 have hst:=run_storeCells_at P b off T' (a.eval y).cells.toList 0 vs w hw (by simp;omega) (fun v hv=>by
  obtain ⟨k,hk,rfl⟩:=apT hv
  exact hone k _ (by grind))
 simp only[axc] at hst
 have hlen:(a.eval y).cells.toList.length=size:=by omega
 generalize hcs':(vs.toList.take off++(a.eval y).cells.toList++vs.toList.drop (off+(a.eval y).cells.toList.length)).toArray=vs' at hst
 refine ⟨vs',by simp_all [execOp,Instr.storeAt,Instr.sureAddr,storeVar],?_,fun k=>?_⟩
 all_goals grind
theorem aeY {C:Ctx} {E:Env} {st:St} {a:Act} {w:World} (h:av C E st a w) {X:aY} (hnt:C.nt=X.nt) {d:Option Nat} (hd:bY X.nt d=true) {i b:Nat} {T':TypeId} {n:Nat} {f g:Nat→PV} (hob:st.obj i=some (.arr T' n f)) (hri:C.ro≤i)
  (hb:E.hd i=some (.pointer (some ⟨b,0,none⟩))) {vs vs':Array Value} (hw:w.heap[b]?=some (.cells vs T' (0,0))) (hs:vs'.size=n∧n≤1000) (hA:∀k,k<n→∃u,vs'[k]?=some u∧u.oneCell'=true∧aS E.mem u (g k))
  {s:SV} {v:Value} (hv:aL E v s) {K:St→Prop} (hk:aP (st.eX i (some (.arr T' n g))) d s K) {next:Act→World→Prop} (hn:∀st' E' a' w',K st'→av C E' st' a' w'→next a' w'):next (a.put d v) (w.setRow b vs'):=by
 have hh:=h.heap.write (o':=.arr T' n g) hob (b:=b) (by grind [Env.blk,aM]) hri (w':=w.setRow b vs')
  (dP.wz hb (setRow_heap w b vs vs' T' (0,0) hw) hs hA) rfl rfl rfl (by simp) (fun k hk=>setRow_other w b k vs' hk)
 exact aD (h.fE (st':=st.eX i (some (.arr T' n g))) (Env.Le.refl E) rfl hh ⟨rfl,rfl⟩ (ru hw fun k hk=>setRow_other w b k vs' hk)) hnt hd hk hv hn
theorem ap7 {E:Env} {zv:Array Value} {z:List Value} (hA:lT E zv (zeros z)):∀k,k<zv.size→∃u,zv[k]?=some u∧u.oneCell'=true∧aS E.mem u (nH (vals z) k):=by
 intro k hk
 have e1:zv[k]?=some zv[k]:=acC hk
 have hz:k<z.length:=by rw[←zeros_length,←hA.size];exact hk
 have e2:(zeros z)[k]?=some (.p true (.val z[k])):=by grind [aaC]
 have:=(hA.rep k _ _ e1 e2).aO
 refine ⟨_,e1,hA.one k _ e1,?_⟩
 rw[acX,aam,sZ,aav hz,this]
 exact .val _
theorem akj {C:Ctx} {E:Env} {st:St} {a:Act} {w:World} (h:av C E st a w) {kt:dU} {k:Operand} {K:MK→Prop} (hk:anz kt (st.ev k) K):∃mk,kt.ok mk∧a.eval k=kt.val mk∧K mk:=by
 have hv:=aI h k
 unfold anz at hk
 split at hk
 ·rename_i ik _ k' z hx
  rw[hx] at hv
  split at hk
  ·rename_i hs
   obtain rfl:=sj hs
   exact ⟨.int z,trivial,hv.aO,hk⟩
  grind
 ·rename_i s hx
  rw[hx] at hv
  exact ⟨.str s,trivial,hv.aO,hk⟩
 ·rename_i n b n' f hx
  rw[hx] at hv
  split at hk
  ·rename_i hb
   obtain rfl:=acD hb
   obtain ⟨l,⟨hl,hf⟩,hk⟩:=hk
   refine ⟨.bools l,hl,?_,hk⟩
   generalize a.eval k=v at hv
   cases hv with
   | p _ _ _ hp=>
    obtain ⟨vs,rfl,hs,hc⟩:=hp.iD
    show Value.agg vs=.agg (fF l)
    congr 1
    apply axe
    intro q
    rw[xV]
    rcases axd q n with hq | hq
    ·obtain ⟨u,h1,_,h3⟩:=hc q hq
     rw[hf q hq] at h3
     rw[h1,h3.aO,aav (by omega),aam,aav (by omega)];rfl
    grind
  grind
 grind
theorem akn {E:Env} {v:Value} {i:Nat} (h:aL E v (.mp i)):∃r,E.hd i=some (.map (some r))∧v=.map (some r):=by
 cases h with | mp _ r h=>grind
theorem dP.xX {E:Env} {w:World} {i:Nat} {kt:dU} {n:Nat} {get:MK→Option PV} (h:dP E w i (.map kt n get)) :
  ∃r es clock,E.hd i=some (.map (some r))∧w.heap[r]?=some (.map es clock)∧es.size=n∧(∀x∈es.toList,∃k,kt.ok k∧x.key=kt.val k)∧(es.toList.map (·.key)).Nodup∧adY E.mem es kt get:=by
 cases h with | map r es clock _ _ _ h1 h2 h3 h4 h5 h6=>grind
theorem nodup_keys {es:List MapEntry} (h:(es.map (·.key)).Nodup) {x y:MapEntry} (hx:x∈es) (hy:y∈es) (he:x.key=y.key):x=y:=by
 induction es with
 | nil=>cases hx
 | cons z es ih=>
  grind
theorem adt {C:Ctx} {E:Env} {st:St} {a:Act} {w:World} (h:av C E st a w) {X:aY} (hTb:X.Tb.Ok X.P) (hnt:C.nt=X.nt) (hro:C.ro=X.ro) {o:Oper} (hd:bY X.nt o.dst=true) {T:TypeId} {m k v:Operand}
  (hrun:∀w,(execOp a.eval o).run X.P w=(do Instr.mapUpdate T (a.eval m) (a.eval k) (a.eval v);pure Next.skip:Sem Next).run X.P w) (hnd:∀c,o.op≠.defer c)
  {F:Fence} (hF:jq F) {K:St→Prop} (hk:afw X T (st.ev m) (st.ev k) (st.ev v) o.dst st K) {next:Act→World→Prop} {Q:Exit→Act→World→Prop}
  (hn:∀st' E' a' w',K st'→av C E' st' a' w'→next a' w'):o.wpIn F 9 X.P a w next Q:=by
 unfold afw at hk
 split at hk
 case h_2=>exact hk.elim
 rename_i kT eT _ _ _ hi
 split at hk
 case h_2=>exact hk.elim
 rename_i i hm
 split at hk
 case h_2=>exact hk.elim
 rename_i kt0 n get kt hob hkt
 split at hk
 case h_2=>exact hk.elim
 rename_i b x s1 hble hvx hcv
 obtain ⟨rfl,hk⟩:=hk
 obtain ⟨mk,hok,hke,n',⟨hn1,hn2⟩,hk⟩:=akj h hk
 have hat:=ahs hTb hkt
 have hri:C.ro≤i:=by simp_all
 have hu:X.P.underlying T=some (.map kT eT):=(hTb _ _ hi).desc
 obtain ⟨r,es,clock,hh,hw,hsz,hkeys,hndp,hget⟩:=(h.heap.ob i _ hob).xX
 have hmv:=aI h m
 rw[hm] at hmv
 obtain ⟨r',hh',hme⟩:=akn hmv
 rw[hh] at hh';cases hh'
 -- the value
 have hvv:=aI h v
 obtain ⟨g1,g2,g3⟩:=nU hvv hcv
 rw[hvx] at hvv
 have hve:=hvv.aO
 have hone:x.oneCell'=true:=by
  rw[hvx] at hcv
  cases x<;>first | rfl | grind [cellsOf]
 have fin:∀(es':Array MapEntry) (clock':Nat),(Instr.mapUpdate T (.map (some r)) (kt0.val mk) x).run X.P w=.ok () { w with heap:=w.heap.setIfInBounds r (.map es' clock') }→es'.size=n'→(∀y∈es'.toList,∃k,kt0.ok k∧y.key=kt0.val k)→(es'.toList.map (·.key)).Nodup→adY E.mem es' kt0 (uR get mk (.val x))→o.wpIn F 9 X.P a w next Q:=by
  intro es' clock' hr h1 h2 h3 h4
  obtain ⟨q1,q2⟩:=MapKept.heap_set (o':=.map es' clock') hw
  have hh2:=h.heap.write (o':=.map kt0 n' (uR get mk (.val x))) hob (b:=r) (by grind [Env.blk,aM]) hri (w':={ w with heap:=w.heap.setIfInBounds r (.map es' clock') })
   (.map r es' clock' kt0 n' _ hh q1 h1 h2 h3 h4) rfl rfl rfl (by simp) (fun k hk=>q2 k hk)
  refine wM hF hnd (w':={ w with heap:=w.heap.setIfInBounds r (.map es' clock') }) ?_ (aD (h.fE (st':=st.eX i (some (.map kt0 n' (uR get mk (.val x))))) (Env.Le.refl E) rfl hh2 ⟨rfl,rfl⟩ (amS hw fun k hk=>q2 k hk)) hnt hd hk (.any _) hn)
  simp_all
 have hgo:=MapKept.run_getObj_map (P:=X.P) hw
 have hchk:=ahv hat hok false w
 rcases ajb hat hok w es.toList hkeys with ⟨f1,f2⟩ | ⟨j,e,f1,f2,f3⟩
 ·refine fin (es.push { key:=kt0.val mk,val:=x,born:=clock }) (clock+1) ?_ ?_ ?_ ?_ ?_
  ·simp[Instr.mapUpdate,run_underlying hu,hgo,hchk,f1,MapKept.run_setObj_map _ hw,Result.andThen]
  ·have:get mk=none:=by
    cases hg:get mk with
    | none=>rfl
    | some d=>obtain ⟨y,y1,y2,_⟩:=(hget mk hok).1 d hg;grind
   grind
  ·grind
  ·grind
  ·intro k' hk'
   unfold uR
   simp only[Array.toList_push,acE,acN]
   by_cases e:k'=mk
   ·subst e
    rw[if_pos rfl]
    refine ⟨fun d hd=>?_,fun hx=>by cases hx⟩
    cases hd
    exact ⟨_,.inr rfl,rfl,hone,.val x⟩
   ·rw[if_neg e]
    obtain ⟨p1,p2⟩:=hget k' hk'
    grind [dU.val_inj]
 ·have hj:es[j]?=some e:=by simpa using f2
  have hjl:j<es.size:=(acG.1 hj).1
  have hem:e∈es.toList:=aa0 f2
  have hkey:∀e',es[j]?=some e'→({ e' with key:=kt0.val mk,val:=x }:MapEntry).key=e'.key:=fun e' he'=>by grind
  have hmem:∀y,y∈(es.modify j fun e=>{ e with key:=kt0.val mk,val:=x }).toList↔(y∈es.toList∧y.key≠kt0.val mk)∨y={ e with key:=kt0.val mk,val:=x }:=by
   intro y
   constructor
   ·intro hy
    obtain ⟨q,hq⟩:=auF hy
    rw[aer,Array.getElem?_modify] at hq
    by_cases e1:j=q
    ·grind
    ·rw[if_neg e1] at hq
     have hym:y∈es.toList:=aa0 (by rw[aer];exact hq)
     refine .inl ⟨hym,fun hyk=>e1 ?_⟩
     have:=nodup_keys hndp hem hym (by rw[f3,hyk])
     subst this
     have h1:(es.toList.map (·.key))[j]?=some e.key:=by grind
     have h2:(es.toList.map (·.key))[q]?=some e.key:=by grind
     grind [List.getElem?_inj]
   ·rintro (⟨hy,hne⟩ | rfl)
    ·obtain ⟨q,hq⟩:=auF hy
     refine aa0 (i:=q) ?_
     grind
    ·refine aa0 (i:=j) ?_
     grind
  refine fin (es.modify j fun e=>{ e with key:=kt0.val mk,val:=x }) clock ?_ ?_ ?_ ?_ ?_
  ·have hks:=ao5 (P:=X.P) hok w
   simp[Instr.mapUpdate,run_underlying hu,hgo,hchk,f1,hj,f3,hks,MapKept.run_setObj_map _ hw,Result.andThen]
  ·have:∃d,get mk=some d:=by
    cases hg:get mk with
    | none=>exact absurd f3 ((hget mk hok).2 hg e hem)
    | some d=>grind
   grind
  ·grind
  ·grind [MapKept.modify_keys]
  ·intro k' hk'
   unfold uR
   by_cases e1:k'=mk
   ·subst e1
    rw[if_pos rfl]
    refine ⟨fun d hd=>?_,fun hx=>by cases hx⟩
    cases hd
    exact ⟨_,(hmem _).2 (.inr rfl),rfl,hone,.val x⟩
   ·rw[if_neg e1]
    obtain ⟨p1,p2⟩:=hget k' hk'
    grind [dU.val_inj]
theorem aiO {C:Ctx} {E:Env} {st:St} {a:Act} {w:World} (h:av C E st a w) {X:aY} (hTb:X.Tb.Ok X.P) (hnt:C.nt=X.nt) {o:Oper} (hd:bY X.nt o.dst=true) {T:TypeId} {m k:Operand} {ok:Bool} (ho:o.op=.lookup T m k ok)
  {F:Fence} (hF:jq F) {K:St→Prop} (hk:ajX X T (st.ev m) (st.ev k) ok o.dst st K) {next:Act→World→Prop} {Q:Exit→Act→World→Prop}
  (hn:∀st' E' a' w',K st'→av C E' st' a' w'→w'=w→next a' w'):o.wpIn F 9 X.P a w next Q:=by
 unfold ajX at hk
 split at hk
 case h_2=>exact hk.elim
 rename_i kT eT _ _ _ hi
 split at hk
 case h_2=>exact hk.elim
 rename_i i dT _ _ z hm hie
 split at hk
 case h_2=>exact hk.elim
 rename_i kt0 n get kt hob hkt
 obtain ⟨⟨rfl,hna⟩,hk⟩:=hk
 obtain ⟨mk,hok,hke,d,b,⟨hg1,hg2⟩,hk⟩:=akj h hk
 have hat:=ahs hTb hkt
 have hu:X.P.underlying T=some (.map kT eT):=(hTb _ _ hi).desc
 obtain ⟨r,es,clock,hh,hw,hsz,hkeys,hndp,hget⟩:=(h.heap.ob i _ hob).xX
 have hmv:=aI h m
 rw[hm] at hmv
 obtain ⟨r',hh',hme⟩:=akn hmv
 rw[hh] at hh';cases hh'
 have hgo:=MapKept.run_getObj_map (P:=X.P) hw
 have hchk:=ahv hat hok es.isEmpty w
 have fin:∀(v:Value),aS E.mem v d→(execOp a.eval o).run X.P w=.ok (.value (if ok then .tuple #[v,.bool b] else v)) w→o.wpIn F 9 X.P a w next Q:=by
  intro v hv hr
  cases ok with
  | false=>exact eG hF (by simp[ho]) hr (dY h hnt hd hk (.p false _ _ hv) hn)
  | true=>
   refine eG hF (by simp[ho]) hr (dY h hnt hd hk (.p false _ _ (.tup #[v,.bool b] [d,.val (.bool b)] rfl fun q u s hu hs=>?_)) hn)
   match q with
   | 0=>simp at hu hs;subst hu;subst hs;exact hv
   | 1=>simp at hu hs;subst hu;subst hs;exact .val _
   | q+2=>simp at hu
 rcases ajb hat hok w es.toList hkeys with ⟨f1,f2⟩ | ⟨j,e,f1,f2,f3⟩
 ·have hgn:get mk=none:=by
   cases hg:get mk with
   | none=>rfl
   | some d=>obtain ⟨y,y1,y2,_⟩:=(hget mk hok).1 d hg;grind
  obtain ⟨rfl,rfl⟩:=hg2 hgn
  obtain ⟨zv,hz,hZ⟩:=vZ (hTb _ _ hie) (E:=E)
  obtain ⟨I,z',hI,hIz,hzc⟩:=(hTb _ _ hie).flat hna
  have hzz:zv=z':=by
   simp_all [zeroValue,typeInfo]
  subst hzz
  have hv:aS E.mem zv (.val z):=by
   have:=hZ.rep 0 zv _ (by rw[hzc];rfl) (by rw[aaC];rfl)
   rw[this.aO];exact .val z
  refine fin zv hv ?_
  simp_all [execOp,Instr.lookup,run_underlying]
 ·have hem:e∈es.toList:=aa0 f2
  cases hg:get mk with
  | none=>exact absurd f3 ((hget mk hok).2 hg e hem)
  | some d'=>
   obtain ⟨rfl,rfl⟩:=hg1 d' hg
   obtain ⟨y,y1,y2,y3,y4⟩:=(hget mk hok).1 d' hg
   obtain rfl:=nodup_keys hndp y1 hem (y2.trans f3.symm)
   refine fin y.val y4 ?_
   simp_all [execOp,Instr.lookup,run_underlying]
theorem aif {C:Ctx} {E:Env} {st:St} {a:Act} {w:World} (h:av C E st a w) {X:aY} (hTb:X.Tb.Ok X.P) (hnt:C.nt=X.nt) (hro:C.ro=X.ro) {o:Oper} (hd:bY X.nt o.dst=true)
  {F:Fence} (hF:jq F) {K:St→Prop} (hk:agB X o st K) {next:Act→World→Prop} {Q:Exit→Act→World→Prop}
  (hn:∀st' E' a' w',K st'→av C E' st' a' w'→(jL o.op=true→Grow w w')→next a' w'):o.wpIn F 9 X.P a w next Q:=by
 unfold agB at hk
 split at hk
 ·-- alloc
  rename_i T ho
  split at hk
  ·rename_i d size _ z hi
   obtain ⟨zv,hz,hA⟩:=vZ (hTb _ _ hi) (E:=E)
   have hrun:(execOp a.eval o).run X.P w=.ok (.value (.pointer (some ⟨w.heap.size,0,none⟩))) (w.alloc (.cells zv.cells T)):=by simp_all [execOp,Instr.alloc,newVar,newRow]
   split at hk
   ·rename_i n hbig
    obtain ⟨e,rfl,rfl,hbm⟩:=pX hbig
    have hsz:zv.cells.size=size:=by
     obtain ⟨I,zz,hI,hIz,_,hs,_⟩:=(hTb _ _ hi).o7 E
     simp_all [zeroValue,typeInfo]
    exact eG hF (by simp[ho]) hrun (ac0 h hnt hd ⟨hsz,hbm⟩ (fun k hk=>ap7 hA k (by omega)) hk fun st' E' a' w' hk' h' hw'=>hn st' E' a' w' hk' h' fun _=>hw'▸lQ w _)
   ·exact eG hF (by simp[ho]) hrun (aee h hnt hd hA hk fun st' E' a' w' hk' h' hw'=>hn st' E' a' w' hk' h' fun _=>hw'▸lQ w _)
  grind
 ·-- box
  rename_i T x ho
  have hrun:(execOp a.eval o).run X.P w=.ok (.value (.pointer (some ⟨w.heap.size,0,none⟩))) (w.alloc (.cells (a.eval x).cells T)):=by simp[execOp,ho,Instr.box,newVar,newRow]
  split at hk
  ·rename_i n g hb
   obtain ⟨b,hao,hbm⟩:∃b,adV n (st.ev x)=some (b,g)∧n≤1000:=by
    unfold aoo at hb
    split at hb
    ·split at hb
     ·rename_i hbig
      obtain ⟨_,_,_,hbm⟩:=pX hbig
      grind
     ·cases hb
    ·cases hb
   have hp:=adx hao (aI h x)
   generalize hvx:a.eval x=v at hp hrun
   obtain ⟨vs,rfl,hs,hc⟩:=hp.iD
   exact eG hF (by simp[ho]) hrun (ac0 h hnt hd ⟨hs,hbm⟩ (fun k hk=>by obtain ⟨u,h1,h2,h3⟩:=hc k hk;exact ⟨u,h1,h2,h3.mono (E.fC b)⟩) hk fun st' E' a' w' hk' h' hw'=>hn st' E' a' w' hk' h' fun _=>hw'▸lQ w _)
  ·split at hk
   ·rename_i cs hc
    obtain ⟨g1,g2,g3⟩:=nU (aI h x) hc
    exact eG hF (by simp[ho]) hrun (aee h hnt hd ⟨g1,g2,g3⟩ hk fun st' E' a' w' hk' h' hw'=>hn st' E' a' w' hk' h' fun _=>hw'▸lQ w _)
   grind
 ·-- makeMap
  rename_i T ho
  split at hk
  ·rename_i kT eT _ _ _ hi
   split at hk
   ·rename_i kt hkt
    have hh:=h.heap.afC (.map #[] 0) (v:=.map (some w.heap.size)) (o:=.map kt 0 (fun _=>none)) (fun b hb=>by grind [aM])
     (.map w.heap.size #[] 0 kt 0 _ (E.kX _ _) (World.alloc_heap_new w _) rfl (by simp) (by simp) (fun k hk=>⟨fun d hd=>(by cases hd),fun _=>by simp⟩))
    have hle:=Env.uL (v:=.map (some w.heap.size)) (h.heap.new st.no (abm _))
    rw[rD] at hk
    refine eG hF (by simp[ho]) (v:=.map (some w.heap.size)) (w':=w.alloc (.map #[] 0)) ?_
     (dY (h.fE (st':=st.alloc _) hle rfl hh ⟨rfl,rfl⟩ (jX w _)) hnt hd hk (.mp _ _ (E.kX _ _)) fun st' E' a' w' hk' h' hw'=>hn st' E' a' w' hk' h' fun _=>hw'▸lQ w _)
    simp[execOp,ho,Instr.makeMap,Result.andThen]
   grind
  grind
 ·grind [adt,execOp,jL]
 ·grind [adt,execOp,jL]
 ·grind [aiO,Grow.refl]
 ·-- store
  rename_i T x y ho
  split at hk
  ·-- a whole array
   rename_i i o' hst
   unfold ajd at hst
   split at hst
   case h_2=>cases hst
   rename_i d size _ _ hi
   split at hst
   case h_2=>cases hst
   rename_i n hbig
   obtain ⟨e,rfl,rfl,hbm⟩:=pX hbig
   split at hst
   case h_2=>cases hst
   rename_i i0 hx
   split at hst
   case h_2=>cases hst
   rename_i T' n' f hob hble
   split at hst
   case h_2=>cases hst
   rename_i b g hnn hao
   obtain rfl:=acD hnn
   cases hst
   have hri:C.ro≤i:=by simp_all
   have hxv:=aI h x
   rw[hx] at hxv
   obtain ⟨b',hb',hxe⟩:=ji hxv
   obtain ⟨b2,vs,hb2,hw,hs,hc⟩:=(h.heap.ob i _ hob).iD
   rw[hb'] at hb2;cases hb2
   have hp:=adx hao (aI h y)
   obtain ⟨us,hye,hus,huc⟩:=hp.iD
   have hyc:(a.eval y).cells=us:=by rw[hye];rfl
   obtain ⟨vs',hr,hs',hv'⟩:=afm (P:=X.P) ho hxe hw (eY (hTb _ _ hi) w) (by grind) (fun k u hu=>by
    grind) (by grind)
   refine wM hF (by simp[ho]) hr (aeY h hnt hd hob hri hb' hw ⟨by omega,hs.2⟩ (fun k hk=>?_) (.any _) hk fun st' E' a' w' hk' h'=>hn st' E' a' w' hk' h' (by simp[jL,ho]))
   obtain ⟨u,h1,h2,h3⟩:=huc k hk
   refine ⟨u,?_,h2,h3.mono (E.fC b)⟩
   grind
  split at hk
  ·rename_i d size _ _ hi
   split at hk
   ·rename_i i off new hx hc
    cases hb:new.length.beq size with
    | false=>grind
    | true=>
     simp only[hb] at hk
     have hnew:=acD hb
     split at hk
     ·rename_i T' cs hob
      split at hk
      ·rename_i r hble hs
       have hri:C.ro≤i:=by simp_all
       obtain ⟨g1,g2,g3⟩:=nU (aI h y) hc
       obtain ⟨r1,r2,r3⟩:=sI cs off new r hs
       have hxv:=aI h x
       rw[hx] at hxv
       obtain ⟨b,hb,hxe⟩:=ji hxv
       obtain ⟨b',vs,hb',hw,hA⟩:=(h.heap.ob i _ hob).l6
       rw[hb] at hb';cases hb'
       have hsize:(sizeOf T).run X.P w=.ok size w:=eY (hTb _ _ hi) w
       have hst:=run_storeCells_at X.P b off T' (a.eval y).cells.toList 0 vs w hw (by have:=hA.size;simp;omega) (fun v hv=>by
        obtain ⟨k,hk,rfl⟩:=apT hv
        exact g2 k _ (by grind))
       simp only[axc] at hst
       generalize hcs':(vs.toList.take off++(a.eval y).cells.toList++vs.toList.drop (off+(a.eval y).cells.toList.length)).toArray=vs' at hst
       have hA':lT E vs' r:=by
        have hlen:(a.eval y).cells.toList.length=new.length:=by simpa using g1
        have hvl:vs.toList.length=cs.length:=by simpa using hA.size
        have hl1:(vs.toList.take off).length=off:=by grind
        refine lT.of (by grind) fun k hk=>?_
        have hk':k<cs.length:=by
         grind
        rw[←hcs',r3 k]
        simp only[axg]
        by_cases hin:off≤k∧k<off+new.length
        ·grind
        ·rw[if_neg hin]
         have e2:cs[k]?=some cs[k]:=aav hk'
         have e1:vs[k]?=some (vs[k]'(by grind)):=acC (by grind)
         refine ⟨_,_,?_,e2,hA.one _ _ e1,hA.rep _ _ _ e1 e2⟩
         by_cases hlt:k<off
         ·grind
         ·rw[aex (by grind),aas,hl1,hlen,axf,show off+new.length+(k-(off+new.length))=k by omega,aer];exact e1
       have hh:=h.heap.write (o':=.cells T' r) hob (b:=b) (by grind [Env.blk,aM]) hri (w':=w.setRow b vs')
        (.cells b T' vs' r hb (setRow_heap w b vs vs' T' (0,0) hw) hA'.size hA'.one hA'.rep) rfl rfl rfl (by simp) (fun k hk=>setRow_other w b k vs' hk)
       refine wM hF (by simp[ho]) (w':=w.setRow b vs') ?_ (aD (h.fE (st':=st.eX i (some (.cells T' r))) (Env.Le.refl E) rfl hh ⟨rfl,rfl⟩ (ru hw fun k hk=>setRow_other w b k vs' hk)) hnt hd hk (.any _) fun st' E' a' w' hk' h'=>hn st' E' a' w' hk' h' (by simp[jL,ho]))
       simp_all [execOp,Instr.storeAt,Instr.sureAddr,storeVar]
      grind
     ·-- an element of an array
      rename_i T' n f hob
      split at hk
      ·rename_i _ d' hble hag
       obtain ⟨hoff,hk⟩:=hk
       have hri:C.ro≤i:=by simp_all
       obtain ⟨g1,g2,g3⟩:=nU (aI h y) hc
       have hxv:=aI h x
       rw[hx] at hxv
       obtain ⟨b,hb,hxe⟩:=ji hxv
       obtain ⟨b',vs,hb',hw,hs,hvc⟩:=(h.heap.ob i _ hob).iD
       rw[hb] at hb';cases hb'
       obtain ⟨vs',hr,hs',hv'⟩:=afm (P:=X.P) ho hxe hw (eY (hTb _ _ hi) w) (by rw[g1];rfl) g2 (by grind)
       refine wM hF (by simp[ho]) hr (aeY h hnt hd hob hri hb hw ⟨by omega,hs.2⟩ (fun k hk=>?_) (.any _) hk fun st' E' a' w' hk' h'=>hn st' E' a' w' hk' h' (by simp[jL,ho]))
       rw[hv' k]
       unfold vO
       by_cases e:k=off
       ·subst e
        rw[if_pos ⟨abm _,by grind⟩,if_pos rfl,avc]
        obtain ⟨u0,e1⟩:∃u0,(a.eval y).cells[0]?=some u0:=⟨_,acC (by rw[g1];simp)⟩
        refine ⟨_,e1,g2 _ _ e1,?_⟩
        have:=g3 _ _ _ e1 rfl
        cases this with | p _ _ _ hp=>exact hp.mono (E.fC _)
       grind
      grind
     grind
   ·-- an element of a row
    rename_i i sz j off new hx hc
    cases hb:new.length.beq size with
    | false=>grind
    | true=>
     simp only[hb] at hk
     have hnew:=acD hb
     split at hk
     ·rename_i bb ds hb1 hall
      split at hk
      ·rename_i T' sz' n f hob
       cases hble:X.ro.ble i with
       | false=>grind
       | true=>
        cases hbq:sz.beq sz' with
        | false=>grind
        | true=>
         simp only[hble,hbq] at hk
         obtain rfl:=acD hbq
         obtain ⟨⟨hj,hoff⟩,hk⟩:=hk
         have hri:C.ro≤i:=by simp_all
         obtain ⟨g1,g2,g3⟩:=nU (aI h y) hc
         obtain ⟨hdl,hdr⟩:=vH (E:=E) new bb ds hall
         have hxv:=aI h x
         rw[hx] at hxv
         obtain ⟨b,n',cap,hb,hxe⟩:=afH hxv
         obtain ⟨rfl,vs,u,hR⟩:=(h.heap.ob i _ hob).pG hb
         have hlen:(a.eval y).cells.toList.length=ds.length:=by grind
         have hjsz:j*sz+sz≤n'*sz:=by rw[←axK];exact ajG _ hj
         have hncap:n'*sz≤cap*sz:=ajG _ hR.hn
         have hfit:j*sz+off+ds.length≤vs.size:=by rw[hR.size];omega
         have hsize:(sizeOf T).run X.P w=.ok size w:=eY (hTb _ _ hi) w
         have hst:=run_storeCells_at X.P b (j*sz+off) T' (a.eval y).cells.toList 0 vs w hR.heap (by omega) (fun v hv=>by
          obtain ⟨k,hk,rfl⟩:=apT hv
          exact g2 k _ (by grind))
         simp only[axc] at hst
         generalize hcs':(vs.toList.take (j*sz+off)++(a.eval y).cells.toList++vs.toList.drop (j*sz+off+(a.eval y).cells.toList.length)).toArray=vs' at hst
         have hvs':vs'.size=vs.size:=by
          grind
         have hat:∀q,vs'[q]?=if j*sz+off≤q∧q<j*sz+off+ds.length then (a.eval y).cells[q-(j*sz+off)]? else vs[q]?:=by
          intro q
          have hl1:(vs.toList.take (j*sz+off)).length=j*sz+off:=by grind
          rw[←hcs']
          simp only[axg]
          by_cases hin:j*sz+off≤q∧q<j*sz+off+ds.length
          ·grind
          ·rw[if_neg hin]
           by_cases hlt:q<j*sz+off
           ·grind
           ·rw[aex (by grind),aas,hl1,hlen,axf,show j*sz+off+ds.length+(q-(j*sz+off+ds.length))=q by omega,aer]
         have cellOf:∀j' k s,j'<n'→(gZ f j off ds j')[k]?=some s→∃v,vs'[j'*sz+k]?=some v∧v.oneCell'=true∧aS E.mem v s:=by
          intro j' k s hj' hs
          have hfl:=hR.hl j' hj'
          have hks:k<sz:=by grind [zx]
          rw[an1 hfl hoff] at hs
          rw[hat]
          by_cases hin:j'=j∧off≤k∧k<off+ds.length
          ·rw[if_pos hin] at hs
           obtain ⟨rfl,hk1,hk2⟩:=hin
           rw[if_pos (by omega),show j'*sz+k-(j'*sz+off)=k-off by omega]
           have hcl:(a.eval y).cells.size=ds.length:=by omega
           have e1:(a.eval y).cells[k-off]?=some ((a.eval y).cells[k-off]'(by omega)):=acC _
           have e2:new[k-off]?=some (new[k-off]'(by omega)):=aav _
           exact ⟨_,e1,g2 _ _ e1,(hdr _ _ _ _ e2 hs (g3 _ _ _ e1 e2)).mono fun B cs hB=>E.fC bb _ _ hB⟩
          ·rw[if_neg hin] at hs
           rw[if_neg (aqa hks hoff hin)]
           obtain ⟨h1,h2⟩:=hR.hc j' k s hj' hs
           exact ⟨_,h1,h2,hR.he j' k s hj' hs⟩
         have hh:=h.heap.write (o':=.row T' sz n' (gZ f j off ds)) hob (b:=b) (by grind [Env.blk,aM]) hri (w':=w.setRow b vs')
          (.row T' sz n' _ _ (vs'.toList.take (n'*sz)) (fun j' k=>vs'.getD (j'*sz+k) undef) hb
           ⟨by rw[arI,Array.length_toList,hvs',hR.size];omega,.inr ⟨b,cap,vs',rfl,akx _,setRow_heap w b vs vs' T' (0,0) hR.heap,hR.hn,hR.hcap,by rw[hvs'];exact hR.size,rfl⟩⟩ hR.hmax
           (fun j' hj'=>zx (hR.hl j' hj') hoff)
           (fun j' k s hj' hs=>by
            obtain ⟨v,h1,h2,h3⟩:=cellOf j' k s hj' hs
            have hks:k<sz:=by rw[←zx (f:=f) (j:=j) (off:=off) (ds:=ds) (hR.hl j' hj') hoff];grind
            have hlt:j'*sz+k<n'*sz:=by
             have:=ajG sz (show j'+1≤n' from hj');grind
            simp_all)
           (fun j' k s hj' hs=>by
            obtain ⟨v,h1,h2,h3⟩:=cellOf j' k s hj' hs
            simp_all)) rfl rfl rfl (by simp) (fun k hk=>setRow_other w b k vs' hk)
         refine wM hF (by simp[ho]) (w':=w.setRow b vs') ?_ (aD (h.fE (st':=st.eX i (some (.row T' sz n' (gZ f j off ds)))) (Env.Le.refl E) rfl hh ⟨rfl,rfl⟩ (ru hR.heap fun k hk=>setRow_other w b k vs' hk)) hnt hd hk (.any _) fun st' E' a' w' hk' h'=>hn st' E' a' w' hk' h' (by simp[jL,ho]))
         simp_all [execOp,Instr.storeAt,Instr.sureAddr,storeVar]
      grind
     grind
   grind
  grind
 ·-- makeSlice
  rename_i T l c ho
  split at hk
  ·rename_i e _ _ _ hi
   split at hk
   ·rename_i _ sz by_ z hie
    split at hk
    ·rename_i _ k1 n _ k2 m hl hc
     obtain ⟨⟨h0,h1,h2,h3⟩,hk⟩:=hk
     have hlv:=aI h l
     rw[hl] at hlv
     have hle1:=hlv.aO
     have hcv:=aI h c
     rw[hc] at hcv
     have hce:=hcv.aO
     have hu:X.P.underlying T=some (.slice e):=(hTb _ _ hi).desc
     obtain ⟨I,hI,hIs,hIb,zv,hz,hzz,hone,hzc⟩:=(hTb _ _ hie).info
     simp only at hIs hIb hzz hzc
     have hbyt:(I.bytes:Int)*m≤281474976710656:=by
      grind
     have hrun:=run_make (P:=X.P) w T e I zv hu hI hz k1 k2 n m h0 h1 hbyt (by omega)
     rw[hIs] at hrun
     have hzl:z.length=sz+1:=by grind
     have hmc:=size_madeCells zv.cells (m.toNat*(sz+1))
     have hnm:n.toNat≤m.toNat:=by omega
     have hmx:m.toNat≤maxLen:=by grind [maxLen]
     have hzc:zv.cells.size=sz+1:=hzc
     have hle:=Env.uL (v:=.slice (some ⟨w.heap.size,0,none⟩) n.toNat m.toNat) (h.heap.new st.no (abm _))
     have hnsz:n.toNat*(sz+1)≤m.toNat*(sz+1):=ajG _ hnm
     have hcell:∀j k,j<n.toNat→k<sz+1→(madeCells zv.cells (m.toNat*(sz+1)))[j*(sz+1)+k]?=zv.cells[k]?:=by
      intro j k hj hk
      have hlt:j*(sz+1)+k<m.toNat*(sz+1):=by
       have:=ajG (sz+1) (show j+1≤m.toNat by omega);grind
      simp_all [axl,madeCells]
     have hh:=h.heap.afC (.cells (madeCells zv.cells (m.toNat*(sz+1))) e) (v:=.slice (some ⟨w.heap.size,0,none⟩) n.toNat m.toNat) (o:=.row e (sz+1) n.toNat fun _=>vals z) (fun b hb=>by grind [aM])
      (.row e (sz+1) n.toNat _ _ ((madeCells zv.cells (m.toNat*(sz+1))).toList.take (n.toNat*(sz+1))) (fun j k=>zv.cells.getD k undef) (E.kX _ _)
       ⟨by grind,.inr ⟨w.heap.size,m.toNat,_,rfl,akx _,World.alloc_heap_new w _,hnm,hmx,hmc,rfl⟩⟩ (aiT hnm hmx)
       (fun j hj=>by grind [wB])
       (fun j k s hj hs=>by
        rw[sZ,←hzz,aer] at hs
        have hks:k<sz+1:=by
         grind
        have hlt:j*(sz+1)+k<n.toNat*(sz+1):=by
         have:=ajG (sz+1) (show j+1≤n.toNat from hj);grind
        rw[auL,if_pos hlt,aer,hcell j k hj hks]
        have e1:zv.cells[k]?=some (zv.cells[k]'(by omega)):=acC _
        rw[ac9,e1]
        grind)
       (fun j k s hj hs=>by
        rw[sZ,←hzz,aer] at hs
        cases hq:zv.cells[k]? with
        | none=>grind
        | some q=>
         rw[hq] at hs;simp only[apr,Option.some.injEq] at hs;subst hs
         rw[ac9,hq];exact .val q))
     rw[rD] at hk
     refine eG hF (by simp[ho]) (v:=.slice (some ⟨w.heap.size,0,none⟩) n.toNat m.toNat) (w':=w.alloc (.cells (madeCells zv.cells (m.toNat*(sz+1))) e)) ?_
      (dY (h.fE (st':=st.alloc _) hle rfl hh ⟨rfl,rfl⟩ (jX w _)) hnt hd hk (.row _ _ (E.kX _ _) rfl) fun st' E' a' w' hk' h' hw'=>hn st' E' a' w' hk' h' fun _=>hw'▸lQ w _)
     simp_all [execOp]
    grind
   grind
  grind
 ·-- buildSlice
  rename_i T len parts ho
  split at hk
  ·rename_i e _ _ _ hi
   split at hk
   ·rename_i _ sz _ z hie
    split at hk
    ·rename_i cs hf
     split at hk
     ·rename_i b ds hall
      cases hbl:(len*(sz+1)).blt 1000 with
      | false=>grind
      | true=>
       simp only[hbl] at hk
       have hlt:len*(sz+1)<1000:=by simp_all
       obtain ⟨zv,hz,hZ⟩:=vZ (hTb _ _ hie) (E:=E)
       have hu:X.P.underlying T=some (.slice e):=(hTb _ _ hi).desc
       have hzl:(zeros z).length=sz+1:=by
        obtain ⟨I,zz,_,_,_,hs,hA⟩:=(hTb _ _ hie).o7 E
        have:=hA.size;grind
       have hzs:zv.cells.size=sz+1:=by rw[hZ.size];exact hzl
       have hZ0:lT E ((Array.range (len*(sz+1))).map (zv.cells[· % zv.cells.size]!)) (aaT len (zeros z)):=by
        refine lT.of (by grind [sH]) fun k hk=>?_
        have hk2:k<len*(sz+1):=by simpa using hk
        have hm:k % (sz+1)<sz+1:=Nat.mod_lt _ (by omega)
        have e1:zv.cells[k % (sz+1)]?=some (zv.cells[k % (sz+1)]'(by omega)):=acC (by omega)
        have e2:(zeros z)[k % (sz+1)]?=some ((zeros z)[k % (sz+1)]'(by omega)):=aav (by omega)
        have hm2:k % (zeros z).length=k % (sz+1):=by rw[hzl]
        refine ⟨_,_,?_,by grind [aeR],hZ.one _ _ e1,hZ.rep _ _ _ e1 e2⟩
        grind
       obtain ⟨vs',hfill,hA⟩:=zy h _ (fun i=>some (i*(sz+1),sz+1)) (fun i p hp=>by
        grind) parts.toList _ _ _ hZ0 hf
       obtain ⟨hdl,hdr⟩:=vH (E:=E) cs b ds hall
       have hvl:vs'.size=len*(sz+1):=by
        have:=(zq hf);rw[hA.size,this,sH,hzl]
       have hle:=Env.uL (v:=.slice (some ⟨w.heap.size,0,none⟩) len len) (h.heap.new st.no (abm _))
       have hdn:ds.length=len*(sz+1):=by rw[←hdl,←hA.size,hvl]
       have hmx:len≤maxLen:=by grind [maxLen]
       have hh:=h.heap.afC (.cells vs' e) (v:=.slice (some ⟨w.heap.size,0,none⟩) len len) (o:=.row e (sz+1) len (aU (sz+1) ds)) (fun b hb=>by grind [aM])
        (.row e (sz+1) len _ _ vs'.toList (fun j k=>vs'.getD (j*(sz+1)+k) undef) (E.kX _ _)
         ⟨by simp[hvl],.inr ⟨w.heap.size,len,vs',rfl,akx _,World.alloc_heap_new w _,abm _,hmx,hvl,by rw[avr];simp[hvl]⟩⟩ hmx
         (fun j hj=>(lY hdn hj).1)
         (fun j k s hj hs=>?_) (fun j k s hj hs=>?_))
       ·rw[rD] at hk
        refine eG hF (by simp[ho]) (v:=.slice (some ⟨w.heap.size,0,none⟩) len len) (w':=w.alloc (.cells vs' e)) ?_
         (dY (h.fE (st':=st.alloc _) hle rfl hh ⟨rfl,rfl⟩ (jX w _)) hnt hd hk (.row _ _ (E.kX _ _) rfl) fun st' E' a' w' hk' h' hw'=>hn st' E' a' w' hk' h' fun _=>hw'▸lQ w _)
        have h24:¬(len*(sz+1)>2 ^ 24):=by omega
        have hfill':Instr.fill (fun i=>some (i*(sz+1),sz+1)) ((Array.range (len*(sz+1))).map (zv.cells[· % zv.cells.size]!)) (parts.map fun p=>(p.1,a.eval p.2)).toList=some vs':=by simp_all
        by_cases h0:len*(sz+1)=0
        ·have hz0:∀g:Nat→Value,(Array.range (len*(sz+1))).map g=#[]:=fun g=>by rw[h0];simp
         rw[hz0] at hfill'
         simp only[execOp,ho,Instr.buildSlice,Sem.run_bind,run_underlying hu,Result.andThen_ok,eY (hTb _ _ hie),h0,show ¬((0:Nat)>2 ^ 24) by omega,if_false,if_true,Sem.run_pure]
         simp_all [Array.range,newRow]
        ·simp only[execOp,ho,Instr.buildSlice,Sem.run_bind,run_underlying hu,Result.andThen_ok,eY (hTb _ _ hie),h24,if_false,h0,hz,Sem.run_pure]
         simp_all [newRow]
       ·have hk1:k<sz+1:=by grind [lY]
        have hin:j*(sz+1)+k<vs'.size:=by
         rw[hvl];have:=ajG (sz+1) (show j+1≤len from hj);grind
        have e1:vs'[j*(sz+1)+k]?=some vs'[j*(sz+1)+k]:=acC hin
        rw[aer,ac9,e1]
        exact ⟨rfl,hA.one _ _ e1⟩
       ·have hk1:k<sz+1:=by grind [lY]
        have hin:j*(sz+1)+k<vs'.size:=by
         rw[hvl];have:=ajG (sz+1) (show j+1≤len from hj);grind
        have e1:vs'[j*(sz+1)+k]?=some vs'[j*(sz+1)+k]:=acC hin
        have e2:cs[j*(sz+1)+k]?=some (cs[j*(sz+1)+k]'(by omega)):=aav _
        rw[(lY hdn hj).2 k hk1] at hs
        rw[ac9,e1]
        exact (hdr _ _ _ _ e2 hs (hA.rep _ _ _ e1 e2)).mono fun B cs hB=>E.fC b _ _ hB
     grind
    grind
   grind
  grind
 grind
theorem tu (v:Value) (h:vT v=true):aM v=v.ownBlock:=by
 cases v<;>simp[vT] at h
 rename_i a _ _
 cases a<;>rfl
theorem amG {P:Program} {w:World} (t ty e:TypeId) (i:TypeInfo) (z:Value) (size bytes:Nat) (ht:P.underlying t=some (.slice e)) (hi:P.info? e=some i) (hz:i.zero=some z)
  (hsize:i.size=size) (hby:i.bytes=bytes) (hzs:z.cells.size=size) (hsz:0<size)
  (v:Value) (n:Nat) (xs:List Value) (hown:w.ownsRow 0 e size v n xs)
  (a:Addr) (m c:Nat) (news:List Value) (hl:news.length=m*size) (hnews:∀(j:Nat) (u:Value),news[j]?=some u→w.cell? (a.add j)=some u) (h1:∀u∈news,u.oneCell'=true)
  (h63:n+m≤maxLen) (hbytes:(n+m)*bytes≤140737488355328) :
  ∃v' w',(Builtin.append_ #[t,t] ty #[v,.slice (some a) m c]).run P w=.ok v' w'∧w'.ownsRow 0 e size v' (n+m) (xs++news)∧w.grownBy w' v.ownBlock∧vT v'=true ∧
   (∀b,aM v'=some b→w.heap.size≤b∨v.ownBlock=some b):=by
 obtain ⟨v',w',hr,ho,hg,_⟩:=run_append_own (P:=P) w 0 t ty e i z size bytes ht hi hz hsize hby hzs hsz v n xs hown a m c news hl hnews h1 h63 hbytes (akx _)
 have hsl:vT v'=true:=by
  rcases ho.2 with ⟨rfl,_⟩ | ⟨g,cap,cur,rfl,_⟩<;>rfl
 refine ⟨v',w',hr,ho,hg,hsl,?_⟩
 subst hsize;subst hby
 have hsmall:n+m≤9223372036854775807:=by grind [maxLen]
 rcases hown.2 with ⟨rfl,rfl⟩ | ⟨g,cap,cur,rfl,_,hgg,hnc,hcm,hcs,htake⟩
 ·have hx:xs=[]:=axp (by simpa using hown.1)
  subst hx
  by_cases hm:m=0
  ·grind [aM]
  ·have hr2:=run_append_nil (P:=P) w t ty e i z ht hi hz a m c news hl hnews (by omega) (by omega) (by grind)
   grind [aM]
 ·by_cases hroom:n+m≤cap
  ·have hfit:n*i.size+news.length≤cur.size:=by rw[hl,hcs,←axv];exact ajG _ hroom
   grind [run_append_room,aM,Value.ownBlock]
  ·have holds:∀j u,xs[j]?=some u→w.cell? ((⟨g,0,none⟩:Addr).add j)=some u:=hown.cells (g:=g) rfl
   have hr2:=run_append_grow (P:=P) w t ty e i z ht hi hz ⟨g,0,none⟩ n cap xs hown.1 holds a m c news hl hnews (by omega) (by omega) (growslice_fits (by omega) hbytes)
   grind [aM]
theorem vS {n k:Nat} (f g:Nat→List PV) (h:k<n):bD n f g k=f k:=by simp[bD,h]
theorem vW {n k:Nat} (f g:Nat→List PV) (h:n≤k):bD n f g k=g (k-n):=by grind [bD]
def Src (E:Env) (w:World) (v:Value) (sz m:Nat) (g:Nat→List PV):Prop:=
 (v=.slice none 0 0∧m=0)∨∃(a:Addr) (c:Nat) (news:List Value) (u:Nat→Nat→Value),v=.slice (some a) m c∧news.length=m*sz∧(∀(j:Nat) (x:Value),news[j]?=some x→w.cell? (a.add j)=some x) ∧
  (∀x∈news,x.oneCell'=true)∧(∀j k s,j<m→(g j)[k]?=some s→news[j*sz+k]?=some (u j k)∧(u j k).oneCell'=true)∧(∀j k s,j<m→(g j)[k]?=some s→aS E.mem (u j k) s)
theorem l7 {E:Env} {w:World} {i:Nat} {T:TypeId} {sz n:Nat} {f:Nat→List PV} (h:dP E w i (.row T sz n f)) :
  ∃(v:Value) (xs:List Value) (u:Nat→Nat→Value),E.hd i=some v∧w.ownsRow 0 T sz v n xs∧n≤maxLen∧(∀j,j<n→(f j).length=sz) ∧
   (∀j k s,j<n→(f j)[k]?=some s→xs[j*sz+k]?=some (u j k)∧(u j k).oneCell'=true)∧(∀j k s,j<n→(f j)[k]?=some s→aS E.mem (u j k) s):=by
 cases h with | row _ _ _ _ v xs u hh hw hmax hl hc he=>exact ⟨v,xs,u,hh,hw,hmax,hl,hc,he⟩
theorem rE {j k n sz:Nat} (hj:j<n) (hk:k<sz):j*sz+k<n*sz:=by
 have:=ajG sz (show j+1≤n from hj)
 grind
theorem abH {x n sz:Nat} (h:x<n*sz):x / sz<n∧x % sz<sz∧x / sz*sz+x % sz=x:=by
 have hs:0<sz:=by grind
 simp_all [Nat.div_lt_iff_lt_mul,Nat.mod_lt,axL,Nat.div_add_mod]
theorem agk {C:Ctx} {E:Env} {st:St} {w:World} (h:bg C E st w) {e sz:Nat} {x:SV} {m:Nat} {g:Nat→List PV} {j:Option Nat} (hs:anb st e sz x=some (m,g,j)) {v:Value} (hv:aL E v x)
  (hg:∀k,k<m→(g k).length=sz):Src E w v sz m g:=by
 unfold anb at hs
 split at hs
 ·rename_i j0
  split at hs
  ·rename_i e' sz' m' g' hob
   split at hs
   ·rename_i hb
    cases hs
    simp only[abj] at hb
    obtain rfl:=acD hb.1
    obtain rfl:=acD hb.2
    obtain ⟨v0,xs,u,hh,hw,hmax,hl,hc,he⟩:=l7 (h.ob _ _ hob)
    cases hv with
    | row _ _ hh2 hsl=>
     rw[hh] at hh2;cases hh2
     rcases hw.2 with ⟨rfl,h0⟩ | ⟨gg,cap,cur,rfl,_,hgg,hnc,hcm,hcs,htake⟩
     ·exact .inl ⟨rfl,h0⟩
     ·refine .inr ⟨⟨gg,0,none⟩,cap,xs,u,rfl,hw.1,hw.cells (g:=gg) rfl,fun x hx=>?_,hc,he⟩
      obtain ⟨q,hq,rfl⟩:=apT hx
      rw[hw.1] at hq
      obtain ⟨d1,d2,d3⟩:=abH hq
      have hlen:=hl _ d1
      obtain ⟨c1,c2⟩:=hc _ _ _ d1 (aav (by rw[hlen];exact d2))
      grind
   ·cases hs
  ·cases hs
 ·rename_i b _ _
  cases hs
  cases hv with
  | p _ _ _ hp=>
   cases hp with
   | nil=>exact .inl ⟨rfl,rfl⟩
   | emp a c=>exact .inr ⟨a,c,[],fun _ _=>undef,rfl,by simp,by simp,by simp,by omega,by omega⟩
   | seq b' o _ cap sz' _ cs u hm hcap hmax hl hc he=>
    have hsz:∀j,j<m→sz'=sz:=fun j hj=>by grind
    obtain ⟨T,fr,hw⟩:=h.mem _ _ (E.fC _ _ _ hm)
    have hcell:∀x,x<m*sz→∃s:PV,(g (x / sz))[x % sz]?=some s∧cs[o+x]?=some (u (x / sz) (x % sz))∧(u (x / sz) (x % sz)).oneCell'=true:=by
     intro x hx
     obtain ⟨d1,d2,d3⟩:=abH hx
     have:=hsz _ d1;subst this
     have e1:(g (x / sz'))[x % sz']?=some ((g (x / sz'))[x % sz']'(by grind)):=aav _
     grind
    refine .inr ⟨⟨b',o,none⟩,cap,(List.range (m*sz)).map fun x=>u (x / sz) (x % sz),u,rfl,by simp,fun j x hx=>?_,fun x hx=>?_,fun j k s hj hs=>?_,fun j k s hj hs=>(he j k s hj hs).mono (E.fC _)⟩
    ·grind [Addr.add_lit,World.cell?]
    all_goals grind [rE]
 ·cases hs
  exact .inl ⟨hv.aO,rfl⟩
 ·cases hs
def sQ (e:Nat) (w w':World):Prop:=w.heap.size≤w'.heap.size∧∀b,b<w.heap.size→(∀cs fr,w.heap[b]?≠some (.cells cs e fr))→w'.heap[b]?=w.heap[b]?
def elemOf (Tb:Tab) (t:Nat):Option Nat:=match look Tb t with
 | some ⟨.slice e,_,_,_⟩=>some e
 | _=>none
theorem ab1 {C:Ctx} {E:Env} {st:St} {a:Act} {w:World} (h:av C E st a w) {X:aY} (hnt:C.nt=X.nt) {d:Option Nat} (hd:bY X.nt d=true)
  {e sz:Nat}
  {m:Nat} {g:Nat→List PV} {vs:Value}
  {n:Nat} {f:Nat→List PV} {xs:List Value} {u:Nat→Nat→Value} (hown:w.ownsRow 0 e (sz+1) vs n xs)
  (hl:∀j,j<n→(f j).length=sz+1) (hc:∀j k s,j<n→(f j)[k]?=some s→xs[j*(sz+1)+k]?=some (u j k)∧(u j k).oneCell'=true) (he:∀j k s,j<n→(f j)[k]?=some s→aS E.mem (u j k) s)
  (hgl:∀k,k<m→(g k).length=sz+1) (hmax:n+m≤maxLen)
  {st1:St} (hfr:st1.fr=st.fr) (hno:st1.no=st.no) (hkk:st1.k=st.k) (hold:∀k o,st1.obj k=some o→st.obj k=some o)
  (hgone:∀b,vs.ownBlock=some b→∃j o',C.m≤j∧st.obj j=some o'∧st1.obj j=none∧E.blk j=some b)
  {K:St→Prop} (hk:aP (st1.alloc (.row e (sz+1) (n+m) (bD n f g))) d (.row st1.no) K) {next:Act→World→Prop}
  (hn:∀st' E' a' w',K st'→av C E' st' a' w'→sQ e w w'→next a' w')
  {v':Value} {w':World} {news:List Value} {u':Nat→Nat→Value} (hown':w'.ownsRow 0 e (sz+1) v' (n+m) (xs++news)) (hgrow:w.grownBy w' vs.ownBlock) (hsl:vT v'=true)
  (hblk:∀b,aM v'=some b→w.heap.size≤b∨vs.ownBlock=some b) (hnl:news.length=m*(sz+1)) (hnc:∀j k s,j<m→(g j)[k]?=some s→news[j*(sz+1)+k]?=some (u' j k)∧(u' j k).oneCell'=true) (hne:∀j k s,j<m→(g j)[k]?=some s→aS E.mem (u' j k) s) :
  next (a.put d v') w':=by
 have hle:=Env.uL (v:=v') (h.heap.new st.no (abm _))
 have get:∀k,(st1.alloc (.row e (sz+1) (n+m) (bD n f g))).obj k=if st1.no=k then some (.row e (sz+1) (n+m) (bD n f g)) else st1.obj k:=fun k=>mq st1.fr st1.ob st1.no _ _ _ _
 have hnone:∀j o,st.obj j=some o→j≠st.no:=fun j o ho e=>by have:=h.heap.lt ho;omega
 have hkeep:∀k,k<w.heap.size→w'.heap[k]?=w.heap[k]?∨(∃j o',C.m≤j∧st.obj j=some o'∧(st1.alloc (.row e (sz+1) (n+m) (bD n f g))).obj j=none∧E.blk j=some k):=by
  intro k hk
  by_cases hv:vs.ownBlock=some k
  ·grind
  ·exact .inl (hgrow.block k hk (fun e=>hv e.symm))
 have hh:bg C (E.add st.no v') (st1.alloc (.row e (sz+1) (n+m) (bD n f g))) w':=by
  refine h.heap.step (o:=.row e (sz+1) (n+m) (bD n f g)) (abm _) (by grind [St.alloc]) hkk (by grind) (fun k o' hk ho=>?_) ?_ hgrow.os hgrow.tape hgrow.output hgrow.size hkeep (fun b hb=>?_)
  ·grind
  ·refine .row e (sz+1) (n+m) _ v' (xs++news) (fun j k=>if j<n then u j k else u' (j-n) k) (E.kX _ _) hown' hmax (fun j hj=>?_) (fun j k s hj hs=>?_) (fun j k s hj hs=>?_)
   ·grind [vS,vW]
   ·by_cases hjn:j<n
    ·rw[vS f g hjn] at hs
     grind
    ·rw[vW f g (by omega)] at hs
     rw[if_neg hjn]
     have:=hnc (j-n) k s (by omega) hs
     refine ⟨?_,this.2⟩
     have hmul:n*(sz+1)+(j-n)*(sz+1)=j*(sz+1):=by rw[←axv];congr 1;omega
     rw[aex (by rw[hown.1];omega),hown.1,show j*(sz+1)+k-n*(sz+1)=(j-n)*(sz+1)+k by omega]
     exact this.1
   ·by_cases hjn:j<n
    ·rw[vS f g hjn] at hs
     simp only[if_pos hjn]
     exact (he j k s hjn hs).mono hle.mem
    ·rw[vW f g (by omega)] at hs
     simp only[if_neg hjn]
     exact (hne (j-n) k s (by omega) hs).mono hle.mem
  grind
 have hnc:jm w w':=by
  intro D o ho hc
  have hD:=(acG.1 ho).1
  rw[hgrow.block D hD (fun e=>?_)];exact ho
  rcases hown.2 with ⟨rfl,_⟩ | ⟨g,cap,cur,rfl,_,hg,_⟩
  ·grind [Value.ownBlock]
  ·simp[Value.ownBlock] at e;subst e;rw[hg] at ho;cases ho;cases hc
 have hge:sQ e w w':=by
  refine ⟨hgrow.size,fun b hb hne=>hgrow.block b hb fun eb=>?_⟩
  rcases hown.2 with ⟨rfl,_⟩ | ⟨g,cap,cur,rfl,_,hg,_⟩
  all_goals grind [Value.ownBlock]
 exact dY (next:=fun a2 w2=>next a2 w2) (h.fE (st':=st1.alloc _) hle (by grind [St.alloc]) hh ⟨rfl,rfl⟩ hnc) hnt hd hk (.row _ _ (by rw[hno];exact E.kX _ _) hsl) fun st2 E2 a2 w2 hk2 h2 hw2=>hn st2 E2 a2 w2 hk2 h2 (hw2▸hge)
theorem afz {C:Ctx} {E:Env} {st:St} {a:Act} {w:World} (h:av C E st a w) {X:aY} (hTb:X.Tb.Ok X.P) (hnt:C.nt=X.nt) {d:Option Nat} (hd:bY X.nt d=true)
  {t e sz:Nat} {d1:Nat} {b1:Nat} {z1:List Value} {d2:TD} {by_:Nat} {z2:List Value} (ht:look X.Tb t=some ⟨.slice e,d1,b1,z1⟩) (hie:look X.Tb e=some ⟨d2,sz+1,by_,z2⟩)
  {m:Nat} {g:Nat→List PV} {vs vx:Value} (hsrc:Src E w vx (sz+1) m g)
  {n:Nat} {f:Nat→List PV} {xs:List Value} {u:Nat→Nat→Value} (hown:w.ownsRow 0 e (sz+1) vs n xs)
  (hl:∀j,j<n→(f j).length=sz+1) (hc:∀j k s,j<n→(f j)[k]?=some s→xs[j*(sz+1)+k]?=some (u j k)∧(u j k).oneCell'=true) (he:∀j k s,j<n→(f j)[k]?=some s→aS E.mem (u j k) s)
  (hgl:∀k,k<m→(g k).length=sz+1) (hmax:n+m≤maxLen) (hby:(n+m)*by_≤140737488355328)
  {st1:St} (hfr:st1.fr=st.fr) (hno:st1.no=st.no) (hkk:st1.k=st.k) (hold:∀k o,st1.obj k=some o→st.obj k=some o)
  (hgone:∀b,vs.ownBlock=some b→∃j o',C.m≤j∧st.obj j=some o'∧st1.obj j=none∧E.blk j=some b)
  {K:St→Prop} (hk:aP (st1.alloc (.row e (sz+1) (n+m) (bD n f g))) d (.row st1.no) K) {next:Act→World→Prop}
  (hn:∀st' E' a' w',K st'→av C E' st' a' w'→sQ e w w'→next a' w') (ty:Nat) :
  ∃v' w',(Builtin.append_ #[t,t] ty #[vs,vx]).run X.P w=.ok v' w'∧next (a.put d v') w':=by
 have hu:X.P.underlying t=some (.slice e):=(hTb _ _ ht).desc
 obtain ⟨I,zz,hI,hz,hs,hzs,_⟩:=(hTb _ _ hie).o7 E
 obtain ⟨I',hI',_,hb',_⟩:=(hTb _ _ hie).info
 rw[hI] at hI';cases hI'
 simp only at hs hzs hb'
 -- the run
 obtain ⟨v',w',news,u',hrun,hown',hgrow,hsl,hblk,hnl,hnc,hne⟩:∃(v':Value) (w':World) (news:List Value) (u':Nat→Nat→Value),(Builtin.append_ #[t,t] ty #[vs,vx]).run X.P w=.ok v' w'∧w'.ownsRow 0 e (sz+1) v' (n+m) (xs++news)∧w.grownBy w' vs.ownBlock∧vT v'=true ∧
   (∀b,aM v'=some b→w.heap.size≤b∨vs.ownBlock=some b)∧news.length=m*(sz+1)∧(∀j k s,j<m→(g j)[k]?=some s→news[j*(sz+1)+k]?=some (u' j k)∧(u' j k).oneCell'=true)∧(∀j k s,j<m→(g j)[k]?=some s→aS E.mem (u' j k) s):=by
  rcases hsrc with ⟨rfl,rfl⟩ | ⟨ad,c,news,u',rfl,hnl,hnews,h1,hnc,hne⟩
  ·have hr:=run_append_owned_none (P:=X.P) w 0 t ty e I (sz+1) hu hI vs n xs hown
   have hsl:vT vs=true:=by rcases hown.2 with ⟨rfl,_⟩ | ⟨g,cap,cur,rfl,_⟩<;>rfl
   exact ⟨vs,w,[],fun _ _=>undef,hr,by grind,⟨rfl,rfl,rfl,abm _,fun _ _ _=>rfl⟩,hsl,fun b hb=>.inr (by grind [tu]),by simp,by omega,by omega⟩
  ·obtain ⟨v',w',h2,h3,h4,h5,h6⟩:=amG (P:=X.P) (w:=w) t ty e I zz (sz+1) by_ hu hI hz hs hb' hzs (by omega) vs n xs hown ad m c news hnl hnews h1 hmax hby
   exact ⟨v',w',news,u',h2,h3,h4,h5,h6,hnl,hnc,hne⟩
 exact ⟨v',w',hrun,ab1 h hnt hd hown hl hc he hgl hmax hfr hno hkk hold hgone hk hn hown' hgrow hsl hblk hnl hnc hne⟩
theorem abk {P:Program} {w:World} (t u ty e:TypeId) (i:TypeInfo) (ht:P.underlying t=some (.slice e)) (hu:P.underlying u=some .string) (hi:P.info? e=some i) (hz:i.zero=some (.int .u8 0))
  (hsize:i.size=1) (hby:i.bytes=1) (v:Value) (n:Nat) (xs:List Value) (hown:w.ownsRow 0 e 1 v n xs) (s:ByteArray) (h63:n+s.size≤maxLen) (hbytes:n+s.size≤140737488355328) :
  ∃v' w',(Builtin.append_ #[t,u] ty #[v,.string s]).run P w=.ok v' w'∧w'.ownsRow 0 e 1 v' (n+s.size) (xs++Lib.strCells s)∧w.grownBy w' v.ownBlock∧vT v'=true ∧
   (∀b,aM v'=some b→w.heap.size≤b∨v.ownBlock=some b):=by
 obtain ⟨v',w',hr,ho,hg,_⟩:=Lib.run_append_own_string (P:=P) w 0 t u ty e i ht hu hi hz hsize hby v n xs hown s h63 hbytes (akx _)
 have hsl:vT v'=true:=by
  rcases ho.2 with ⟨rfl,_⟩ | ⟨g,cap,cur,rfl,_⟩<;>rfl
 refine ⟨v',w',hr,ho,hg,hsl,?_⟩
 rcases hown.2 with ⟨rfl,rfl⟩ | ⟨g,cap,cur,rfl,_,hgg,hnc,hcm,hcs,htake⟩
 ·obtain ⟨v2,w2,hr2,ho2,_,_⟩:=Lib.run_append_own_string (P:=P) w w.heap.size t u ty e i ht hu hi hz hsize hby (.slice none 0 0) 0 [] (World.ownsRow_nil w w.heap.size e 1) s h63 hbytes (abm _)
  rw[hr2] at hr;cases hr
  intro b hb
  rcases ho2.2 with ⟨rfl,_⟩ | ⟨g,cap,cur,rfl,hge,_⟩
  all_goals grind [aM]
 ·by_cases hroom:n+s.size≤cap
  ·grind [Lib.run_append_room_string,aM,Value.ownBlock]
  ·have holds:∀j x,xs[j]?=some x→w.cell? ((⟨g,0,none⟩:Addr).add j)=some x:=hown.cells (g:=g) rfl
   have hr2:=Lib.run_append_grow_string (P:=P) w t u ty e i _ ht hu hi hz ⟨g,0,none⟩ n cap xs (by grind) holds s (by omega) (by omega) (growslice_fits (by omega) (by grind))
   grind [aM]
def Env.ig (E:Env) (b:Nat) (cs:Array Value):Env:={ E with mem:=fun k=>if k=b then some cs else E.mem k }
theorem bg.aft {C:Ctx} {E:Env} {st:St} {w w':World} (h:bg C E st w) {cs:Array Value} {T:TypeId} {fr:Nat×Nat} (hb:w'.heap[w.heap.size]?=some (.cells cs T fr))
  (hos:w'.os=w.os) (htape:w'.tape=w.tape) (hout:w'.output=w.output) (hsz:w.heap.size≤w'.heap.size) (hkeep:∀k,k<w.heap.size→w'.heap[k]?=w.heap[k]?) :
  bg C (E.ig w.heap.size cs) st w'∧E.Le (E.ig w.heap.size cs):=by
 have hle:E.Le (E.ig w.heap.size cs):=⟨fun _ _ x=>x,fun b c hc=>by
  have:=h.sM hc
  simp only[Env.ig]
  grind,rfl⟩
 have blk:∀i,(E.ig w.heap.size cs).blk i=E.blk i:=fun _=>rfl
 have new:∀{b c},(E.ig w.heap.size cs).mem b=some c→(b=w.heap.size∧c=cs)∨E.mem b=some c:=by
  intro b c hc
  simp only[Env.ig] at hc
  grind
 refine ⟨⟨fun i o ho=>((h.ob i o ho).mono hle).world fun b hbk=>hkeep b ((h.ob i o ho).iZ hbk),h.sep,fun i o b ho hbk=>?_,fun b c hc=>?_,fun b c hc=>hle.mem b c (h.mem0 b c hc),fun b c hc=>?_,h.new,h.base,?_,h.hd0,h.mno,h.mkh,h.kk⟩,hle⟩
 ·obtain ⟨g1,g2⟩:=h.own i o b ho hbk
  refine ⟨?_,g2⟩
  have hlt:=(h.ob i o ho).iZ hbk
  simp only[Env.ig]
  grind
 ·rcases new hc with ⟨rfl,rfl⟩ | h1
  ·grind
  ·obtain ⟨T',fr',hw⟩:=h.mem b c h1
   grind
 ·rcases new hc with ⟨rfl,rfl⟩ | h1
  ·exact .inr ⟨aiT h.fr.bsz h.fr.wsz,.inl h.fr.wsz⟩
  ·exact h.memnew b c h1
 ·exact ⟨hos.trans h.fr.os,htape.trans h.fr.tape,hout.trans h.fr.output,h.fr.bsz,aiT h.fr.wsz hsz,h.fr.wos,h.fr.isz,fun k hk hI=>by rw[hkeep k (alk hk h.fr.wsz)];exact h.fr.block k hk hI,h.fr.sync⟩
end Go.Sx
