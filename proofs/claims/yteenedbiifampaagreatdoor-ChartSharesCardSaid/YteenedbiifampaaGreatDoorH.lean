/- The card of ChartShares: for every input the law answers true, and its arguments read as they did. -/
import Derived.Test.YteenedbiifampaaGreatDoorH6
set_option maxHeartbeats 1000000
set_option maxRecDepth 4000
set_option linter.unusedSimpArgs false
set_option linter.unusedVariables false
set_option linter.unusedSectionVars false
namespace Go.Sx.Pe
open Go Go.Proofs Go.Sx.Pn Go.ChangeShapes Go.WideShapes Go.ChangeAt Go.RowKit Go.Deep Go.Lib
theorem an9 {n:Nat} {l:List PV} (h:Shape Tryz.prog n 72 l):∃L:List Bool,bN l [kJ L]:=nu false (g:=fun x=>[bP x]) Tryz.underlying72 (fun _ _ _ h=>aiR h) h
theorem ao5 {n:Nat} {l:List PV} (h:Shape Tryz.prog n 22 l):∃L:List (List UInt8),bN l [ssP L]:=nu [] (g:=fun x=>[sP x]) Tryz.underlying22 (fun _ _ _ h=>arj h) h
theorem ar3 {n:Nat} {l:List PV} (h:Shape Tryz.prog n 94 l):∃x:Sk,bN l (skK x):=by
 obtain ⟨n',ls,rfl,rfl,h2⟩:=l7 (ts:=[3,4]) Tryz.underlying94 (by decide) h
 match ls,h2 with
 | [a,b],⟨ha,hb,_⟩=>
  obtain ⟨x,hx⟩:=wJ ha
  obtain ⟨y,hy⟩:=aiR hb
  exact ⟨(x,y),afg hx hy⟩
theorem aqO {n:Nat} {l:List PV} (h:Shape Tryz.prog n 87 l):∃L:List Sk,bN l [za L]:=nu bJ (g:=skK) Tryz.underlying87 (fun _ _ _ h=>ar3 h) h
theorem ark {n:Nat} {l:List PV} (h:Shape Tryz.prog n 108 l):∃x:Stp,bN l (stK x):=by
 obtain ⟨n',ls,rfl,rfl,h2⟩:=l7 (ts:=[87,3]) Tryz.underlying108 (by decide) h
 match ls,h2 with
 | [a,b],⟨ha,hb,_⟩=>
  obtain ⟨x,hx⟩:=aqO ha
  obtain ⟨y,hy⟩:=wJ hb
  exact ⟨⟨x,y⟩,afg hx hy⟩
theorem aqk {n:Nat} {l:List PV} (h:Shape Tryz.prog n 23 l):∃L:List Stp,bN l [akj L]:=nu st0 (g:=stK) Tryz.underlying23 (fun _ _ _ h=>ark h) h
theorem afn {d:PV} {n:Nat} {f g:Nat→List PV} (h:gW d (.seq n f)) (e:∀k,k<n→f k=g k):gW d (.seq n g):=by
 cases h with
 | refl=>exact gK fun k hk=>bN.of (e k hk)
 | nil=>exact .nil _
 | seq _ f0 _ hl he=>exact .seq n f0 g (fun j hj=>by rw[←e j hj];exact hl j hj) fun j k s s' hj hs hs'=>he j k s s' hj hs (by rw[e j hj];exact hs')
theorem anU {L:List Ex} {j:Nat} {x:List PV} (h:bN x (vk (L.getD j dF))):bN x (exF L j):=by
 match x,h with
 | [p,q,r],⟨hl,h⟩=>
  refine bG (h 0 _ _ rfl rfl) (bG (h 1 _ _ rfl rfl) (abM ?_))
  exact afn (h 2 _ _ rfl rfl) fun k hk=>akv _ k hk
 | [],⟨hl,_⟩=>simp[vk] at hl
 | [_],⟨hl,_⟩=>simp[vk] at hl
 | [_,_],⟨hl,_⟩=>simp[vk] at hl
 | _ :: _ :: _ :: _ :: _,⟨hl,_⟩=>simp[vk] at hl
theorem asx:∀(n:Nat) (l:List PV),Shape Tryz.prog n 79 l→∃x:Ex,bN l (vk x):=by
 intro n
 induction n using Nat.strongRecOn with
 | _ n ih=>
  intro l h
  obtain ⟨n',ls,rfl,rfl,h2⟩:=l7 (ts:=[3,3,77]) Tryz.underlying79 (by decide) h
  match ls,h2 with
  | [a,b,c],⟨ha,hb,hc,_⟩=>
   obtain ⟨x,hx⟩:=wJ ha
   obtain ⟨y,hy⟩:=wJ hb
   obtain ⟨n2,m,f,rfl,rfl,hf⟩:=aaw Tryz.underlying77 hc
   obtain ⟨L,rfl,hL⟩:=ae9 dF fun j hj=>ih n2 (by omega) (f j) (hf j hj)
   refine ⟨.node x y L,aeV hx hy (abM (gK fun j hj=>?_))⟩
   exact anU (hL j hj)
theorem arC {n:Nat} {l:List PV} (h:Shape Tryz.prog n 81 l):∃x:jP,bN l (trK x):=by
 obtain ⟨n',ls,rfl,rfl,h2⟩:=l7 (ts:=[29,29,79]) Tryz.underlying81 (by decide) h
 match ls,h2 with
 | [a,b,c],⟨ha,hb,hc,_⟩=>
  obtain ⟨x,hx⟩:=ai9 ha
  obtain ⟨y,hy⟩:=ai9 hb
  obtain ⟨z,hz⟩:=asx _ _ hc
  exact ⟨⟨x,y,z⟩,aeV hx hy hz⟩
theorem aoY {n:Nat} {l:List PV} (h:Shape Tryz.prog n 24 l):∃L:List jP,bN l [an3 L]:=nu aF (g:=trK) Tryz.underlying24 (fun _ _ _ h=>arC h) h
def adk:List TypeId:=[3,4,9,29,72,22,94,87,95,41,43,108,23,79,77,81,24,26]
theorem oq:Closed Tryz.prog adk:=by
 intro t ht
 simp only[adk,ai0,List.mem_nil_iff,or_false] at ht
 rcases ht with rfl | rfl | rfl | rfl | rfl | rfl | rfl | rfl | rfl | rfl | rfl | rfl | rfl | rfl | rfl | rfl | rfl | rfl<;>kernel_rfl
section
variable {w : World} {r : Reach} {b : Nat} {v : Value} {n : Nat} {l : List PV}
theorem amH (hv:Value.okWide Tryz.prog w r b 26 v) (hs:Shape Tryz.prog n 26 l) (hr:Rel (fD w) v.cells.toList l):∃c:aJ,aM (E0 w) v (jJ c):=by
 obtain ⟨cs,hc⟩:=al3 Tryz.underlying26 hv
 have hS:=aqU hc hr
 obtain ⟨n',ls,rfl,rfl,h2⟩:=l7 (ts:=[3,22,23,24]) Tryz.underlying26 (by decide) hs
 match ls,h2 with
 | [a,b,c,d],⟨ha,hb,hc,hd,_⟩=>
  obtain ⟨x,hx⟩:=wJ ha
  obtain ⟨y,hy⟩:=ao5 hb
  obtain ⟨z,hz⟩:=aqk hc
  obtain ⟨u,hu⟩:=aoY hd
  exact ⟨⟨x,y,z,u⟩,aiA hS (vX (alj hx hy hz hu))⟩
theorem afh (hv:Value.okWide Tryz.prog w r b 72 v) (hs:Shape Tryz.prog n 72 l) (hr:Rel (fD w) v.cells.toList l):∃L:List Bool,aM (E0 w) v (ql L):=by
 obtain ⟨m,f,n',hm,rfl,hf⟩:=aip Tryz.underlying72 hs
 have hS:=aqp (ok_slice Tryz.underlying72 hv) hr
 obtain ⟨L,hL⟩:=an9 hs
 exact ⟨L,aiA hS (hL.2 0 _ _ rfl rfl)⟩
end
end Go.Sx.Pe
namespace Go.Proofs.YteenedbiifampaaGreatDoor.chartShares
open Go.ChangeShapes Go.WideShapes Go.ChangeAt Go.RowKit Go.Joins Go.Deep Go.Sx Go.Sx.Pn Go.Sx.Pe
set_option maxRecDepth 100000 in
theorem contract (H:Type) (enc:TypeId×Value→H) (W:World) (base:Nat) (args:Array Value) (ds gs:List (DataW H)) (before:List MemPlace)
  (hval:∀(j:Nat) t v,Tryz.f9.params[j]?=some t→args[j]?=some v→Value.okWide Tryz.prog W .any base t v)
  (hW:DataW.Whole enc Tryz.prog Tryz.f9.params.toList Rows.chartSharesSpec.vars false W args.toList ds gs before) (hL:laidMetH Tryz.prog Rows.chartSharesRow.laid W) :
  Calls Tryz.prog 9 args W fun e W'=>∃v,e=.returned v∧Rows.chartSharesSpec.post enc Tryz.prog Tryz.f9 false true false false W args v W':=by
 have hW':=hW
 obtain ⟨p,q,hA0,hV,rfl,hfz,hnd⟩:=hW
 obtain ⟨rfl,rfl⟩:=trodVars_none hV
 have hA:DataW.TrodAll enc Tryz.prog W 0 (fun _=>true) true Tryz.f9.params.toList args.toList ds p:=hA0
 have hA1:=hA
 rw[Tryz.params9] at hA hval
 clear hA0
 obtain ⟨v0,vs0,d0,ds0,p0,q0,hargs0,rfl,rfl,⟨fu0,h0⟩,r0⟩:=trodAll_cons hA
 obtain ⟨v1,vs1,d1,ds1,p1,q1,hargs1,rfl,rfl,⟨fu1,h1⟩,r1⟩:=trodAll_cons r0
 obtain ⟨v2,vs2,d2,ds2,p2,q2,hargs2,rfl,rfl,⟨fu2,h2⟩,r2⟩:=trodAll_cons r1
 obtain ⟨rfl,rfl,rfl⟩:=trodAll_nil r2
 obtain rfl:args=#[v0,v1,v2]:=by cases args;simp_all
 obtain ⟨l0,s0,e0⟩:=wR oq fu0 26 _ _ (by decide) h0
 obtain ⟨a0,S0⟩:=amH (hval 0 _ v0 rfl rfl) s0 e0
 obtain ⟨l1,s1,e1⟩:=wR oq fu1 72 _ _ (by decide) h1
 obtain ⟨a1,S1⟩:=afh (hval 1 _ v1 rfl rfl) s1 e1
 obtain ⟨l2,s2,e2⟩:=wR oq fu2 72 _ _ (by decide) h2
 obtain ⟨a2,S2⟩:=afh (hval 2 _ v2 rfl rfl) s2 e2
 simp only[arD] at hW' hA1
 refine (ag1 ajV (a0,a1,a2) trivial W (apW hL) _ (akC (vs:=[v0,v1,v2]) (ai S0 (ai S1 (ai S2 trivial))))).mono fun e W' ⟨he,hg⟩=>?_
 subst he
 exact ⟨_,rfl,ald oq Tryz.underlying4 (by kernel_rfl) hW' rfl hA1 (by rw[Tryz.params9];decide) rfl hg⟩
theorem laid_met (os:Os):laidMet Tryz.prog Rows.chartSharesRow.laid ((aaA os).forCall (fun _ _=>0) ⟨#[],#[.agg #[.int .i64 0,.slice none 0 0,.slice none 0 0,.slice none 0 0],.slice none 0 0,.slice none 0 0],[]⟩).memory:=
 laidMet_of_run' 8 (by kernel_rfl) (by kernel_rfl)
theorem reads (os:Os) {H:Type} (enc:TypeId×Value→H):∃places,DataW.whole enc Tryz.prog ((aaA os).forCall (fun _ _=>0) ⟨#[],#[.agg #[.int .i64 0,.slice none 0 0,.slice none 0 0,.slice none 0 0],.slice none 0 0,.slice none 0 0],[]⟩).memory Tryz.f9.params.toList Rows.chartSharesSpec.vars false (Array.toList (α:=Value) #[.agg #[.int .i64 0,.slice none 0 0,.slice none 0 0,.slice none 0 0],.slice none 0 0,.slice none 0 0]) 8=some ([.agg [.lit (.int .i64 0),.nil,.nil,.nil],.nil,.nil],[],places):=
 ⟨[],by kernel_rfl⟩
set_option maxRecDepth 100000 in
theorem lifted (os:Os) (started:os.Started) (H:Type) (enc:TypeId×Value→H) (F:Stop.Interp) :
  ReturnsInHanded {} Tryz.checked os 9 .any ((OpenSpec.ofChange Rows.chartSharesSpec).preRow enc Tryz.prog Tryz.f9 Rows.chartSharesRow.domain false Rows.chartSharesRow.laid) (((OpenSpec.ofChange Rows.chartSharesSpec).at F).post enc Tryz.prog Tryz.f9 false true false false):=by
 obtain ⟨places,hx⟩:=reads os enc
 refine returnsInHanded_of_row (C:=Tryz.checked) (s:=OpenSpec.ofChange Rows.chartSharesSpec) ao9 started (by kernel_rfl) Tryz.func9
  (witness_row_at (enc:=enc) (C:=Tryz.checked) false (aaA os) #[.agg #[.int .i64 0,.slice none 0 0,.slice none 0 0,.slice none 0 0],.slice none 0 0,.slice none 0 0] rfl (by kernel_rfl) (by kernel_rfl) (by kernel_rfl)
   (OpenSpec.preRow_of_cond 8 hx (by kernel_rfl) (fun k hk=>by cases hk) (by kernel_rfl) (laid_met os))) ?_
 intro W base args ds gs before hval hW _ _ _ hL _ _
 exact contract H enc W base args ds gs before hval hW hL
theorem facts:joinedFacts Tryz.pinned.checked.prog 9 Tryz.f9 (OpenSpec.ofChange Rows.chartSharesSpec).bare Rows.chartSharesRow=true:=by kernel_rfl
theorem named:Tryz.pinned.checked.prog.funcNamed Rows.chartSharesRow.func=some 9:=by kernel_rfl
theorem inst:Tryz.f9.isInstance Tryz.pinned.checked.prog Rows.chartSharesRow.origin Rows.chartSharesRow.targs:=of_decide_eq_true (by kernel_rfl)
theorem wrap:Tryz.f9.isWrapper Tryz.pinned.checked.prog Rows.chartSharesRow.wrapper Rows.chartSharesRow.mainSum:=by unfold Func.isWrapper;first | (rw[if_pos (by decide +kernel)];kernel_rfl) | (rw[if_neg (by decide +kernel)];exact ⟨rfl,rfl⟩)
theorem said:Rows.ChartSharesSaid:=
 OpenClaim.holds_of_cond 9 Tryz.f9 rfl rfl rfl rfl rfl rfl rfl ⟨rfl,rfl,rfl,rfl,rfl⟩ rfl rfl rfl rfl rfl named Tryz.func9 facts inst wrap
  (fun os started H enc _ F=>by rw[OpenClaim.pre_eq_preRow];exact lifted os started H enc F)
theorem plain (f:FuncId) (fn:Func) (hf:Tryz.pinned.checked.prog.funcNamed "pneumatic/pneumaticlaw35.ChartShares"=some f) (hfn:Tryz.pinned.checked.prog.funcs[f]?=some fn) :
  false=Tryz.pinned.checked.prog.looks []∧∀(j:Nat) t,fn.params[j]?=some t→Tryz.pinned.checked.prog.wantsStandIn t=false:=by
 obtain rfl:f=9:=Option.some.inj ((show Tryz.prog.funcNamed "pneumatic/pneumaticlaw35.ChartShares"=some 9 by kernel_rfl).symm.trans hf) |>.symm
 obtain rfl:fn=Tryz.f9:=(Option.some.inj (Tryz.func9.symm.trans hfn)).symm
 refine ⟨by kernel_rfl,fun j t ht=>?_⟩
 rw[Tryz.params9] at ht
 have hm:∀t∈#[26,72,72],Tryz.prog.wantsStandIn t=false:=by decide +kernel
 exact hm t (atO ht)
theorem card:Rows.ChartSharesCardSaid:=
 Claim7.holds_tied_plain_at .later [] _ _ _ _ said (fun _ h=>by cases h) (by kernel_rfl) (fun _ h=>by cases h) chartShares_row_tie rfl ⟨rfl,rfl⟩ (by kernel_rfl) rfl plain (by kernel_rfl)
end Go.Proofs.YteenedbiifampaaGreatDoor.chartShares
