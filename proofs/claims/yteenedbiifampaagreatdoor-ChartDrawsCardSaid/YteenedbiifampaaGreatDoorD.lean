/- The card of ChartDraws: for every input the law answers true, and its arguments read as they did. -/
import Derived.Test.YteenedbiifampaaGreatDoorD5
set_option maxHeartbeats 1000000
set_option maxRecDepth 4000
set_option linter.unusedSimpArgs false
set_option linter.unusedVariables false
set_option linter.unusedSectionVars false
namespace Go.Sx.Pe
open Go Go.Proofs Go.Sx.Pn
theorem agS {α:Type} {p:List α→Prop} (h0:p []) (hs:∀l x,p l→p (l++[x])) (l:List α):p l:=by
 rw[←List.reverse_reverse l]
 induction l.reverse with
 | nil=>exact h0
 | cons x l ih=>rw[List.reverse_cons];exact hs _ _ ih
theorem aeC (l:List (List Bool)):(mJ l).Perm l:=by
 refine agS (p:=fun l=>(mJ l).Perm l) .nil (fun l x ih=>?_) l
 rw[aeb]
 refine (ai0 _ _ _).trans ?_
 refine (ih.cons x).trans ?_
 exact (List.perm_append_singleton x l).symm
def y9 (l:List (List Bool)):Prop:=l.Pairwise fun a b=>¬nS b a
theorem ahP (A:List (List Bool)) (x:List Bool):∀k,posR A x k≤k
 | 0=>afi _
 | k+1=>by
  rw[posR];split
  ·have:=ahP A x k;omega
  ·exact afi _
theorem aib (A:List (List Bool)) (x:List Bool):∀k j,posR A x k≤j→j<k→nS x (A.getD j [])
 | 0,j,_,h=>by omega
 | k+1,j,h1,h2=>by
  rw[posR] at h1
  split at h1
  ·rename_i h
   by_cases e:j=k
   ·subst e;exact (agE _ _).1 h
   ·exact aib A x k j h1 (by omega)
  ·omega
theorem aip (A:List (List Bool)) (x:List Bool):∀k,0<posR A x k→¬nS x (A.getD (posR A x k-1) [])
 | 0,h=>by simp[posR] at h
 | k+1,h=>by
  rw[posR] at h ⊢
  split
  ·rename_i hb;rw[if_pos hb] at h;exact aip A x k h
  ·rename_i hb
   exact fun hl=>hb ((agE _ _).2 hl)
theorem alJ {n:Nat} {A:List (List Bool)} {x:List Bool} (hx:x.length=n) (hA:∀y∈A,y.length=n) (h:y9 A):y9 (aiR A x):=by
 have hp:=ahP A x A.length
 have hlo:=aip A x A.length
 have hhi:=aib A x A.length
 unfold aiR rowAt
 generalize posR A x A.length=p at *
 have hs:y9 (A.take p++A.drop p):=by rw[aqY];exact h
 obtain ⟨s1,s2,s3⟩:=List.pairwise_append.1 hs
 have hd:∀y∈A.drop p,nS x y:=fun y hy=>by
  obtain ⟨i,hi,rfl⟩:=aop hy
  rw[aoP] at hi
  have:=hhi (p+i) (by omega) (by omega)
  rw[List.getElem_drop]
  rwa [aaM,aa8 (by omega)] at this
 have ht:∀y∈A.take p,¬nS x y:=fun y hy=>by
  obtain ⟨i,hi,rfl⟩:=aop hy
  rw[ahR] at hi
  rw[List.getElem_take]
  have h0:=hlo (by omega)
  rw[aaM,aa8 (by omega)] at h0
  by_cases e:i=p-1
  ·subst e;exact h0
  ·have h1:=arJ.1 h i (p-1) (by omega) (by omega) (by omega)
   exact ach hx (hA _ (aro _)) (hA _ (aro _)) h0 h1
 refine List.pairwise_append.2 ⟨s1,ar4.2 ⟨fun y hy=>akB (hd y hy),s2⟩,fun a ha b hb=>?_⟩
 rcases ahF.1 hb with rfl | hb
 ·exact ht a ha
 ·exact s3 a ha b hb
theorem alP {n:Nat} {l:List (List Bool)} (hl:∀y∈l,y.length=n):y9 (mJ l):=by
 refine agS (p:=fun l=>(∀y∈l,y.length=n)→y9 (mJ l)) (fun _=>List.Pairwise.nil) (fun l x ih hl=>?_) l hl
 rw[aeb]
 refine alJ (n:=n) (hl x (by simp)) (fun y hy=>hl y ?_) (ih fun y hy=>hl y (by simp[hy]))
 have:=(aeC l).mem_iff.1 hy
 simp[this]
theorem ac2 {n:Nat}:∀{a b:List (List Bool)},a.Perm b→(∀y∈a,y.length=n)→y9 a→y9 b→a=b
 | [],b,h,_,_,_=>by rw[List.nil_perm.1 h]
 | x :: a,[],h,_,_,_=>by have:=h.length_eq;simp at this
 | x :: a,y :: b,h,hn,ha,hb=>by
  obtain ⟨a1,a2⟩:=ar4.1 ha
  obtain ⟨b1,b2⟩:=ar4.1 hb
  have e:x=y:=by
   rcases ahF.1 (h.mem_iff.1 (amO ..)) with e | hx
   ·exact e
   ·rcases ahF.1 (h.mem_iff.2 (amO ..)) with e | hy
    ·exact e.symm
    ·have h1:=b1 x hx
     have h2:=a1 y hy
     rcases aiq (n:=n) (hn x (amO ..)) (hn y (aou _ hy)) h1 with h3 | h3
     ·exact absurd h3 h2
     ·exact h3
  subst e
  rw[ac2 ((List.perm_cons x).1 h) (fun y hy=>hn y (aou _ hy)) a2 b2]
end Go.Sx.Pe
namespace Go.Sx.Pe
open Go Go.Proofs Go.Sx.Pn Go.RowKit Go.Sort
theorem amK {E:Env} {W:World} (hm:acD E.mem W) {v:Value} {l:List Bool} (h:aO E.mem v (mI l)):BS W v l:=by
 unfold mI at h
 cases hl:l with
 | nil=>
  subst hl
  cases h with
  | nil=>exact ⟨none,0,rfl,fun k hk=>absurd hk (akb _)⟩
  | emp a cap=>exact ⟨_,_,rfl,fun k hk=>absurd hk (akb _)⟩
  | seq b o n cap sz f cs u hm' hcap hmax hl' hc he=>exact ⟨_,_,rfl,fun k hk=>absurd hk (akb _)⟩
 | cons x t=>
  rw[←hl]
  have hpos:0<l.length:=by rw[hl];simp
  generalize hn:l.length=n at h hpos
  cases h with
  | nil=>exact absurd hpos (Nat.lt_irrefl _)
  | emp a cap=>exact absurd hpos (Nat.lt_irrefl _)
  | seq b o _ cap sz f cs u hm' hcap hmax hl' hc he=>
   refine ⟨some ⟨b,o,none⟩,cap,by rw[hn],fun k hk=>⟨b,o,rfl,?_⟩⟩
   have hk:k<n:=by omega
   obtain ⟨T,fr,hw⟩:=hm _ _ hm'
   have hs:sz=1:=(hl' k hk).symm
   subst hs
   have h1:=hc k 0 _ hk rfl
   have h2:=he k 0 _ hk rfl
   rw[h2.aL,amR,aqo] at h1
   simp only[World.cell?,hw]
   exact h1.1
def qU (l:List (List Bool)):Ob:=.row 72 1 l.length (fun k=>[mI (l.getD k [])])
def apC (n:Nat) (l:List (List Bool)):Prop:=l.length≤1000000000∧∀x∈l,x.length=n
def am5 (n:Nat):Spec:={ A:=List (List Bool),args:=fun _=>[.row 0,.fn 100 []],objs:=fun l=>[qU l],pre:=apC n,res:=fun _=>.tup [],objs':=fun l=>[qU (mJ l)],fresh:=true,ro:=0 }
theorem akV (n : Nat) (hn : n ≤ 1000000) : aM Tryz.prog 99 (am5 n) := by
  refine ⟨⟨Tryz.f99, Tryz.func99, rfl, rfl⟩, fun (l : List (List Bool)) hpre E vs w _ hh hA => ?_⟩
  obtain ⟨hbig, hlen⟩ := hpre
  have hbig : l.length ≤ 1000000000 := hbig
  have hob : (gW [qU l]).obj 0 = some (.row 72 1 l.length (fun k => [mI (l.getD k [])])) := rfl
  obtain ⟨hs1, hs2⟩ := hA
  obtain ⟨v, fv, rfl⟩ : ∃ v fv, vs = #[v, fv] := by
    have h1 : vs.size = 2 := hs1
    exact ⟨vs[0]'(by omega), vs[1]'(by omega), by
      apply Array.ext
      · simp [h1]
      · intro i hi hi2
        match i, hi2 with
        | 0, _ => rfl
        | 1, _ => rfl⟩
  have hv := hs2 0 v (.row 0) rfl rfl
  have hf := hs2 1 fv (.fn 100 []) rfl rfl
  obtain rfl : fv = .func (.func 100) #[] #[] := by
    cases hf with
    | fn _ us _ hl he => 
      have : us = #[] := Array.eq_empty_of_size_eq_zero (by simpa using hl)
      rw [this]
  have hR := hh.ob 0 _ hob
  have hrep := hR
  cases hv with
  | row _ _ hd0 hsl =>
  cases hR with
  | row _ _ _ _ v' xs u hhd hw hmax hl hc he =>
  rw [hd0] at hhd
  obtain rfl := Option.some.inj hhd
  have hnone : ∀ (p : Option Addr) (cap : Nat), Calls Tryz.prog 99 #[.slice p 0 cap, .func (.func 100) #[] #[]] w fun e w' => e = .returned (.tuple #[]) ∧ w' = w := fun p cap =>
    AnyF.slices_SortFunc_none (P := Tryz.prog) (ρ := Tryz.vT) { Tryz.ake with } p cap _ w
  by_cases h0 : l = []
  · subst h0
    have hw2 := hw.2
    obtain ⟨p, cap, rfl⟩ : ∃ p cap, v = .slice p 0 cap := by
      rcases hw2 with ⟨rfl, _⟩ | ⟨g, cap, cur, rfl, _⟩
      · exact ⟨_, _, rfl⟩
      · exact ⟨_, _, rfl⟩
    refine (hnone p cap).mono ?_
    rintro e w' ⟨rfl, rfl⟩
    exact ⟨.tuple #[], E, rfl, .tup _ _ rfl (fun k u s hu => by simp at hu), hh⟩
  have hpos : 0 < l.length := arY.2 h0
  rcases hw.2 with ⟨rfl, hn0⟩ | ⟨g, cap, cur, rfl, _⟩
  · exact absurd hn0 (by omega)
  obtain ⟨_, cur, u', hA⟩ := hrep.jv hd0
  -- the elements, with what they stand for
  let α : Type := { p : Value × List Bool // p.2.length = n ∧ p.1.oneCell' = true ∧ aO E.mem p.1 (mI p.2) }
  have hel : ∀ j, j < l.length → cur[j]? = some (u' j 0) ∧ (u' j 0).oneCell' = true ∧ aO E.mem (u' j 0) (mI (l.getD j [])) := fun j hj => by
    have c1 := hA.hc j 0 (mI (l.getD j [])) hj rfl
    have c2 := hA.he j 0 (mI (l.getD j [])) hj rfl
    rw [amR, aqo] at c1
    exact ⟨c1.1, c1.2, c2⟩
  have mem : ∀ j, j < l.length → (l.getD j []).length = n := fun j hj => hlen _ (aee (bT [] hj))
  let el : Fin l.length → α := fun j => ⟨(u' j 0, l.getD j []), mem j j.2, (hel j j.2).2.1, (hel j j.2).2.2⟩
  haveI : Inhabited α := ⟨el ⟨0, hpos⟩⟩
  let enc : α → Value := fun x => x.1.1
  have h1 : ∀ a, (enc a).oneCell' = true := fun a => a.2.2.1
  let d : Array α := Array.ofFn el
  have hds : d.size = l.length := Array.size_ofFn
  have hdat : ∀ j (hj : j < l.length), d[j]! = el ⟨j, hj⟩ := fun j hj => by
    rw [getElem!_pos d j (by rw [hds]; exact hj)]
    simp [d]
  let cf : α → α → Int := fun x y => gH x.1.2 y.1.2
  have hlt : ∀ x y : α, ltOf cf x y = true ↔ nS x.1.2 y.1.2 := fun x y => by
    show decide (gH x.1.2 y.1.2 < 0) = true ↔ _
    rw [decide_eq_true_iff]; rfl
  have hltf : ∀ x y : α, ltOf cf x y = false ↔ ¬ nS x.1.2 y.1.2 := fun x y => by rw [← hlt, arU]
  have hO : SWO (ltOf cf) := {
    irrefl := fun x => (hltf x x).2 (ai9 _)
    trans := fun x y z h k => (hlt x z).2 (wu (x.2.1.trans y.2.1.symm) (y.2.1.trans z.2.1.symm) ((hlt x y).1 h) ((hlt y z).1 k))
    ntrans := fun x y z h k => (hltf x z).2 (ach x.2.1 y.2.1 z.2.1 ((hltf x y).1 h) ((hltf y z).1 k)) }
  have hg : g < w.heap.size := (ab9.1 hA.heap).1
  have hnc := hA.hn
  have hsz := hA.size
  -- the world with another order
  have hW : ∀ (m : Nat) (os : Array Obj) (dk : Array α), dk.size = l.length → bq (jL w E [qU l] 0) E ((gW [qU l]).bX 0 (some (qU (dk.toList.map fun x => x.1.2)))) (sortWorld enc w g 0 m dk os) := by
    intro m os dk hdk
    have hw1 : (putRow enc (Sort.ahead w m) g 0 dk).heap[g]? = some (.cells (putCells enc 0 dk cur) 72 (0, 0)) := by
      show (w.heap.modify g (onCells _))[g]? = _
      rw [apr, if_pos rfl, hA.heap]; rfl
    have hw2 : ∀ k, k ≠ g → (putRow enc (Sort.ahead w m) g 0 dk).heap[k]? = w.heap[k]? := fun k hk => by
      show (w.heap.modify g (onCells _))[k]? = _
      rw [apr, if_neg fun e => hk e.symm]
    have hbang : ∀ k, k < l.length → (dk.toList.map fun x : α => x.1.2).getD k [] = (dk[k]!).1.2 := fun k hk => by
      rw [aaM, ahO, ad3, acI (by omega), getElem!_pos dk k (by omega)]; rfl
    have hlm : (dk.toList.map fun x : α => x.1.2).length = l.length := by rw [akn, aic, hdk]
    have hat : ∀ j, j < l.length → (putCells enc 0 dk cur)[j]? = some (enc dk[j]!) := fun j hj => by
      rw [ahb, if_pos (by omega), if_pos (by omega)]
    have hh2 : bq (jL w E [qU l] 0) E ((gW [qU l]).bX 0 (some (qU (dk.toList.map fun x => x.1.2)))) (putRow enc (Sort.ahead w m) g 0 dk) := by
      refine hh.write (i := 0) (b := g) hob (by simp [Env.blk, hd0, aH]) (afi _)
        (.row 72 1 _ _ _ ((putCells enc 0 dk cur).toList.take (l.length * 1)) (fun j _ => enc dk[j]!) hd0 ?_ (by rw [hlm]; exact hA.hmax) (fun j _ => rfl) ?_ ?_) rfl rfl rfl (by simp) hw2
      · rw [hlm]
        refine ⟨?_, .inr ⟨g, cap, _, rfl, aef _, hw1, hA.hn, hA.hcap, by rw [xE]; exact hA.size, rfl⟩⟩
        have h3 : (putCells enc 0 dk cur).toList.length = cap * 1 := by rw [aic, xE]; exact hA.size
        rw [ahR, h3]
        omega
      · intro j k s hj hs
        rw [hlm] at hj
        have hk : k = 0 := by
          have := (abZ.1 hs).1
          simpa using this
        subst hk
        rw [ah7, if_pos (by omega), ad3, amR, aqo]
        exact ⟨hat j hj, h1 _⟩
      · intro j k s hj hs
        rw [hlm] at hj
        have hk : k = 0 := by
          have := (abZ.1 hs).1
          simpa using this
        subst hk
        simp only [arL, Option.some.injEq] at hs
        subst hs
        rw [hbang j hj]
        exact (dk[j]!).2.2.2
    exact hh2.below (w' := sortWorld enc w g 0 m dk os) ⟨rfl, rfl, rfl, by simp [sortWorld], fun k hk => by
      show (_ ++ os)[k]? = _
      rw [akJ hk]⟩
  have hcmp : CmpLays1 Tryz.prog 100 #[] enc cf g 0 d.size w := CmpReads.lays fun m os dk hdk x y => by
    have hm := (hW m os dk (by rw [hdk, hds])).mem
    refine (ahg x.1.2 y.1.2 x.1.1 y.1.1 _ (x.2.1.trans y.2.1.symm) (by rw [x.2.1]; exact hn) (amK hm x.2.2.2) (amK hm y.2.2.2)).mono ?_
    rintro e w' ⟨rfl, rfl⟩
    exact ⟨rfl, 0, rfl⟩
  have hH : Holds enc w g 0 d := fun j hj => by
    have hj : j < l.length := by omega
    refine ⟨?_, ?_⟩
    · simp only [World.cell?, hA.heap, afY]
      rw [hdat j hj]; exact (hel j hj).1
    · simp [World.frozen?, hA.heap]
  have hsort := Any.slices_SortFunc (P := Tryz.prog) (ρ := Tryz.vT) Tryz.ake enc h1 cf hO 100 #[] g 0 cap d w (enters_of Tryz.func100 (by kernel_rfl) rfl) hcmp hH hg (by omega)
  rw [hds] at hsort
  refine Calls.mono hsort ?_
  rintro e w' ⟨rfl, d', m, os, hp, hs, rfl⟩
  have hd's : d'.size = l.length := hp.1.trans hds
  have hl' : (d'.toList.map fun x : α => x.1.2) = mJ l := by
    have hpd : d'.toList.Perm d.toList := by
      have := hp.2.2
      rwa [show d'.extract 0 l.length = d' by rw [← hd's]; simp, show d.extract 0 l.length = d by rw [← hds]; simp] at this
    have hdl : (d.toList.map fun x : α => x.1.2) = l := by
      apply List.ext_getElem?
      intro k
      rw [ahO, ad3]
      by_cases hk : k < l.length
      · rw [acI (by omega), aa8 hk]
        simp only [d, Array.getElem_ofFn, akO, Option.some.injEq]
        show l.getD k [] = _
        rw [aaM, aa8 hk]; rfl
      · rw [akD (by omega), aqj (by omega)]; rfl
    have hperm : (d'.toList.map fun x : α => x.1.2).Perm l := by
      have := hpd.map fun x : α => x.1.2
      rwa [hdl] at this
    refine ac2 (n := n) (hperm.trans (aeC l).symm) (fun y hy => hlen y (hperm.mem_iff.1 hy)) ?_ (alP hlen)
    unfold y9
    rw [List.pairwise_map, arJ]
    intro i j hi hj hij
    have hi : i < d'.size := by simpa using hi
    have hj : j < d'.size := by simpa using hj
    have := hs i j (aef _) hij (by omega)
    rw [hltf, getElem!_pos d' i hi, getElem!_pos d' j hj] at this
    exact this
  have hfin := hW m os d' hd's
  rw [hl'] at hfin
  refine ⟨.tuple #[], E, rfl, .tup _ _ rfl (fun k u s hu => by simp at hu), ?_⟩
  have key : ∀ (st : St), (∀ i o, st.obj i = some o → ((gW [qU l]).bX 0 (some (qU (mJ l)))).obj i = some o) → st.no = 1 → st.k = none → bq (jL w E [qU l] 0) E st (sortWorld enc w g 0 m d' os) := fun st ho hno hk => by
    have hkk := hfin.kk
    exact ⟨fun i o h => hfin.ob i o (ho i o h), fun i j o o' b h1 h2 => hfin.sep i j o o' b (ho i o h1) (ho j o' h2), fun i o b h => hfin.own i o b (ho i o h), hfin.mem, hfin.mem0, hfin.memnew, fun i hi => hfin.new i (by rw [hno] at hi; exact hi), hfin.base, hfin.fr, hfin.hd0, by rw [hno]; exact hfin.mno, hfin.mkh, by rw [hk]; exact hkk⟩
  refine key _ (fun i o ho => ?_) rfl rfl
  have e1 : St.obj ⟨[], [(0, some (qU (mJ l)))], 1, none⟩ i = some o := ho
  rw [jX (no := 1) (c := none)] at e1
  have e2 := jX (gW [qU l]).fr (gW [qU l]).ob 1 1 (c := none) (c' := none) 0 (some (qU (mJ l))) i
  refine Eq.trans e2 ?_
  by_cases hi : 0 = i
  · rw [if_pos hi] at e1 ⊢; exact e1
  · rw [if_neg hi] at e1
    simp [St.obj, look] at e1
end Go.Sx.Pe
namespace Go.Sx.Pe
open Go Go.Proofs Go.Sx.Pn
def bbP (l:List (List Bool)):PV:=.seq l.length (fun k=>[mI (l.getD k [])])
def bbR (l:List (List Bool)):LV:=.rw 72 1 l.length (fun k=>[mI (l.getD k [])])
def lU (c:bC):List (List Bool):=(kX c).map (·.1)
def pU (c:bC):PV:=.tup [bbP (mJ (lU c)),iP (rQ c)]
theorem aof (a:List (List Bool)) (x:List Bool):∀k,k<a.length+1→bJ a.length (fun k=>[mI (a.getD k [])]) (bf 1 [mI x]) k=[mI ((a++[x]).getD k [])]:=by
 intro k hk
 unfold bJ
 by_cases h:k<a.length
 ·rw[if_pos h]
  show [mI (a.getD k [])]=_
  rw[aaM,aaM,aed h]
 ·obtain rfl:k=a.length:=by omega
  rw[if_neg h,aoU,aaM,ae5 (afi _),aoU];rfl
theorem alF:aM Tryz.prog 98 (bM (fun a:bC×List Bool=>[kE a.1,uf a.2]) (fun a=>a.1.sts.length≤24∧a.2.length=a.1.sts.length) (fun a=>mI a.2)):=by
 refine ⟨ahX.1,fun ⟨c,m⟩ hp E vs w hg hh hA=>?_⟩
 obtain ⟨h1,h2⟩:=hp
 have h1:c.sts.length≤24:=h1
 have h2:m.length=c.sts.length:=h2
 have e1:uf (cu m)=uf m:=by unfold uf uy;rw[aaH]
 have key:=ahX.2 (c,cu m) ⟨h1,nN (by omega)⟩ E vs w hg hh (by
  show jG E vs [kE c,uf (cu m)]
  rw[e1];exact hA)
 refine key.mono fun e w' ⟨v,E',h3,h4,h5⟩=>⟨v,E',h3,?_,h5⟩
 have e2:(cu m).take c.sts.length=m:=by unfold cu;rw[←h2,List.take_left'];rfl
 show aO _ v (mI m)
 rw[←e2];exact h4
theorem aaO:aM Tryz.prog 29 (iq (fun c:bC=>[kE c]) lF pU):=by
 refine aW (Tb:=tab) mixed aB Tryz.func29 rfl rfl ?_
 rintro (c:bC) hpre
 refine ai (ai rfl (ai rfl rfl)) ?_
 have ho:lF c:=hpre
 refine ei _ (ai (aaT) (ei (c) (ei [] (ai (a4 (ai (fun _=>Or.inl rfl) (ai nof (Or.inl rfl)))) (ai (by exact (ai rfl (ai (ai rfl (fun _ _=>rfl)) (ai (ai rfl (fun _ _=>rfl)) (ai rfl (fun _ _=>rfl)))))) (ai trivial (ai (ho) ?_)))))))
 refine aF (p:=rQ c=0) (bZ (by omega)) (fun h1=>?_) (fun h1=>?_)
 ·have e:lU c=[]:=by
   unfold lU kX
   unfold rQ at h1
   split
   ·rename_i h
    rw[if_pos h] at h1
    cases ee:sW c with
    | none=>rfl
    | some l=>rw[ee] at h1;exact absurd rfl h1
   ·rfl
  refine ai (ai (fun h=>absurd (show false=true from h) (by decide)) ?_) trivial
  show aC _ (pU c)
  rw[pU,e]
  exact (ai rfl rfl)
 obtain ⟨hc,hx⟩:=ae7 h1
 obtain ⟨hg,hl,hw⟩:=agF h1
 have h24:=(kG hc).2.2.1.2
 have hA:pU c=.tup [bbP (mJ (lU c)),iP 0]:=by unfold pU;rw[h1]
 have hml:(lU c).length=(kX c).length:=akn _
 have htk:∀k,k<(kX c).length→(lU c).take (k+1)=(lU c).take k++[((kX c).getD k ay).1]:=fun k hk=>by
  rw[aX [] (by omega)]
  congr 2
  unfold lU
  rw[aaM,aaM,ahO,aa8 hk];rfl
 refine ei (bI.inv { X:=Nat,up:=fun k=>[(21,.s (iA k)),(7,bbR ((lU c).take k))],uo:=fun k=>[],inv:=fun k=>k≤(kX c).length∧(True),meas:=fun k=>(kX c).length-k,x0:=0 }) ?_
 refine ai (ai (ai (by exact (a4 (ai rfl rfl))) (ai (by exact (ai (ai (ai (fun _=>rfl) (iE (by simp only[zz,reduceCtorEq];rfl))) rfl) rfl)) (by exact trivial))) rfl) (ai (ai (aef _) ?_) ?_)
 ·trivial
 intro (k:Nat) ⟨hk,_⟩
 have hkl:((lU c).take k).length=k:=by rw[ahR];omega
 refine ah (p:=k<(kX c).length) (av (by omega)) (fun h2=>?_) (fun h2=>?_)
 ·refine ai (ai (abJ _) (iN (n:=(kX c).length) (by omega))) (ai rfl ?_)
  refine ei (fM ((kX c).getD k ay).1) (ai (afV _) ?_)
  have hgk:=hg _ (aee (bT ay h2))
  refine ei _ (ai (alF) (ei ((c,((kX c).getD k ay).1)) (ei [] (ai (a4 (ai (fun _=>Or.inl rfl) (ai nof (Or.inl rfl)))) (ai (by exact (ai (ai rfl (ai (ai rfl (fun _ _=>rfl)) (ai (ai rfl (fun _ _=>rfl)) (ai rfl (fun _ _=>rfl))))) (ai rfl (fun _ _=>rfl)))) (ai trivial (ai (⟨h24,hgk.1⟩) ?_)))))))
  refine ai (mxL (n:=((lU c).take k).length+1) (by omega) (by decide)) (ai (aJ 1 rfl) ?_)
  refine ei (k+1) (ai (ai rfl rfl) (ai (ai (ai rfl (ai (ai rfl rfl) (ai (ai rfl rfl) (ai (ai (ai (ai (fun _=>rfl) (aN (by omega))) rfl) (ai rfl (ai rfl (ai ?_ ?_)))) trivial)))) rfl) (ai (ai (iL (by omega)) trivial) (iM (by omega)))))
  ·rw[htk k h2,aac];rfl
  ·rw[htk k h2];exact aof _ _
 ·obtain rfl:k=(kX c).length:=by omega
  rw[show (lU c).take (kX c).length=lU c from aq3 (by omega)]
  refine ei _ (ai (akV c.sts.length (by omega)) (ei (lU c) (ei [1] (ai (ai rfl (ai rfl (ai rfl (ai rfl (ai nof (ai nof (Or.inl rfl))))))) (ai (by exact (ai rfl (ai rfl trivial))) (ai (by exact (ai rfl (ai rfl (ai rfl (fun _ _=>rfl))))) (ai (⟨by show (lU c).length≤1000000000;omega,fun x hx=>by obtain ⟨y,hy,rfl⟩:=aqs.1 hx;exact (hg y hy).1⟩) ?_)))))))
  refine ai (ai (fun h=>absurd (show false=true from h) (by decide)) ?_) trivial
  show aC _ (pU c)
  rw[hA]
  exact (ai (ai rfl (fun _ _=>rfl)) rfl)
def aqg:Spec:=bM (fun a:List (Int)×List (Int)=>[isA a.1,isA a.2]) (fun a=>a.1.length≤1000000) (fun a=>bP (decide (a.1=a.2)))
theorem anM:aM Tryz.prog 59 aqg:=by
 refine aW (Tb:=tab) mixed aB Tryz.func59 rfl rfl ?_
 rintro (a:List (Int)×List (Int)) hpre
 refine ai (ai rfl (ai rfl rfl)) ?_
 have hl:a.1.length≤1000000:=hpre
 refine aF (p:=a.1.length=a.2.length) (bZ (by omega)) (fun h1=>?_) (fun h1=>?_)
 ·refine ai (ai (fun _=>trivial) ?_) trivial
  show aC _ (bP (decide (a.1=a.2)))
  rw[decide_eq_false (fun h=>h1 (congrArg List.length h))]
  exact rfl
 refine ei (bI.inv { X:=Nat,up:=fun k=>[(13,.s (iA k))],uo:=fun k=>[],inv:=fun k=>k≤a.1.length∧(a.1.take k=a.2.take k),meas:=fun k=>a.1.length-k,x0:=0 }) ?_
 refine ai (ai (ai (by exact (a4 (ai rfl rfl))) (ai (by exact (ai (ai (fun _=>rfl) (iE (by simp only[zz,reduceCtorEq];rfl))) rfl)) (by exact trivial))) rfl) (ai (ai (aef _) ?_) ?_)
 ·rfl
 intro (k:Nat) ⟨hk,hall⟩
 refine ah (p:=k<a.1.length) (av (by omega)) (fun h4=>?_) (fun h4=>?_)
 ·refine ei (.seq [0,1,2,3,4,5,6,7,8]) (ai (by kernel_rfl) ?_)
  refine ai (ai (abJ _) (iN (n:=a.1.length) (by omega))) (ai rfl ?_)
  refine ai (ai (abJ _) (iN (n:=a.2.length) (by omega))) (ai rfl ?_)
  refine aF (p:=a.1.getD k 0=a.2.getD k 0) (by exact bne_iff_ne) (fun h5=>?_) (fun h5=>?_)
  ·refine ai (ai (fun _=>trivial) ?_) trivial
   show aC _ (bP (decide (a.1=a.2)))
   rw[decide_eq_false (fun h=>h5 (by rw[h]))]
   exact rfl
  refine ei (k+1) (ai (ai rfl rfl) (ai (ai (ai rfl (ai (ai rfl rfl) (ai (ai rfl rfl) (ai (ai (ai (fun _=>rfl) (aN (by omega))) rfl) trivial)))) rfl) (ai (ai (iL (by omega)) ?_) (iM (by omega)))))
  exact wz 0 h4 (by omega) hall h5
 ·obtain rfl:k=a.1.length:=by omega
  rw[afz,h1,afz] at hall
  refine ai (ai (fun _=>trivial) ?_) trivial
  show aC _ (bP (decide (a.1=a.2)))
  rw[decide_eq_true hall]
  exact rfl
theorem vX (f:Nat→List PV) (k:Nat) {g:Nat→List PV} (hg:g 0=f k):∀j,j<k+1→bJ k f g j=f j:=by
 intro j hj
 unfold bJ
 by_cases h:j<k
 ·rw[if_pos h]
 ·obtain rfl:j=k:=by omega
  rw[if_neg h,aoU,hg]
def ajp (c:bC):Prop:=c.sts.length≤1000000∧c.trs.length≤1000000
def stF (c:bC) (k:Nat):List PV:=uX (c.sts.getD k st0)
def trF (c:bC) (k:Nat):List PV:=trK (c.trs.getD k ak)
theorem ahG:aM Tryz.prog 14 (iq (fun c:bC=>[kE c]) ajp (fun c=>nU c)):=by
 refine aW (Tb:=tab) mixed aB Tryz.func14 rfl rfl ?_
 rintro (c:bC) hpre
 refine ai (ai rfl (ai rfl rfl)) ?_
 obtain ⟨hs,ht⟩:=hpre
 have hs:c.sts.length≤1000000:=hs
 have ht:c.trs.length≤1000000:=ht
 refine ei (bI.inv { X:=Nat,up:=fun k=>[(16,.s (iA k))],uo:=fun k=>[⟨2,36,[.s (iA c.act),.s (.p false (xM c.ins)),.rw 89 2 k (stF c),.s vW]⟩],inv:=fun k=>k≤c.sts.length∧(True),meas:=fun k=>c.sts.length-k,x0:=0 }) ?_
 refine ai (ai (ai (by exact (a4 (ai rfl rfl))) (ai ?_ ?_)) rfl) (ai (ai (aef _) ?_) ?_)
 ·exact (ai (ai (fun _=>rfl) (iE (by simp only[zz,reduceCtorEq];rfl))) rfl)
 ·exact (ai (ai (ai (ai nof rfl) rfl) (ai (ai (ai nof (ai rfl (fun _ _=>rfl))) rfl) (ai rfl (ai (ai nof rfl) rfl)))) trivial)
 ·trivial
 intro (k:Nat) ⟨hk,_⟩
 refine ah (p:=k<c.sts.length) (av (by omega)) (fun h1=>?_) (fun h1=>?_)
 ·refine ai (ai (abJ _) (iN (n:=c.sts.length) (by omega))) (ai rfl ?_)
  refine ai (mxL (n:=k+1) (by omega) (by decide)) (ai (lt1 rfl) ?_)
  refine ei (k+1) (ai (ai rfl rfl) (ai (ai (ai rfl (ai (ai rfl rfl) (ai (ai rfl rfl) (ai (ai (ai (fun _=>rfl) (aN (by omega))) rfl) (ai (ai (ai (ai nof rfl) rfl) (ai (ai (ai nof (ai rfl (fun _ _=>rfl))) rfl) (ai (ai rfl (ai rfl (ai rfl ?_))) (ai (ai nof rfl) rfl)))) trivial))))) rfl) (ai (ai (iL (by omega)) trivial) (iM (by omega)))))
  exact vX (stF c) k rfl
 obtain rfl:k=c.sts.length:=by omega
 refine ei (bI.inv { X:=Nat,up:=fun k=>[(34,.s (iA k))],uo:=fun k=>[⟨2,36,[.s (iA c.act),.s (.p false (xM c.ins)),.rw 89 2 c.sts.length (stF c),.rw 123 5 k (trF c)]⟩],inv:=fun k=>k≤c.trs.length∧(True),meas:=fun k=>c.trs.length-k,x0:=0 }) ?_
 refine ai (ai (ai (by exact (a4 (ai rfl rfl))) (ai ?_ ?_)) rfl) (ai (ai (aef _) ?_) ?_)
 ·exact (ai (ai (fun _=>rfl) (iE (by simp only[zz,reduceCtorEq];rfl))) rfl)
 ·exact (ai (ai (ai (ai nof rfl) rfl) (ai (ai (ai nof (ai rfl (fun _ _=>rfl))) rfl) (ai (ai rfl (ai rfl (ai rfl (fun _ _=>rfl)))) rfl))) trivial)
 ·trivial
 intro (k:Nat) ⟨hk,_⟩
 refine ah (p:=k<c.trs.length) (av (by omega)) (fun h1=>?_) (fun h1=>?_)
 ·refine ai (ai (abJ _) (iN (n:=c.trs.length) (by omega))) (ai rfl ?_)
  refine ai (mxL (n:=k+1) (by omega) (by decide)) (ai (lt1 rfl) ?_)
  refine ei (k+1) (ai (ai rfl rfl) (ai (ai (ai rfl (ai (ai rfl rfl) (ai (ai rfl rfl) (ai (ai (ai (fun _=>rfl) (aN (by omega))) rfl) (ai (ai (ai (ai nof rfl) rfl) (ai (ai (ai nof (ai rfl (fun _ _=>rfl))) rfl) (ai (ai rfl (ai rfl (ai rfl (fun _ _=>rfl)))) (ai rfl (ai rfl (ai rfl ?_)))))) trivial))))) rfl) (ai (ai (iL (by omega)) trivial) (iM (by omega)))))
  exact vX (trF c) k rfl
 obtain rfl:k=c.trs.length:=by omega
 refine ai (ai (fun h=>absurd (show false=true from h) (by decide)) ?_) trivial
 show aC _ (nU c)
 rw[show nU c=.agg [iP c.act,xM c.ins,.seq c.sts.length (stF c),.seq c.trs.length (trF c)] from rfl]
 exact (ai rfl (ai (ai rfl (fun _ _=>rfl)) (ai (ai rfl (fun _ _=>rfl)) (ai rfl (fun _ _=>rfl)))))
theorem aoa:aM Tryz.prog 21 (iq (fun c:bC=>[kE c]) ajp (fun c=>nU c)):=by
 refine aW (Tb:=tab) mixed aB Tryz.func21 rfl rfl ?_
 rintro (c:bC) hpre
 refine ai (ai rfl (ai rfl rfl)) ?_
 obtain ⟨hs,ht⟩:=hpre
 have hs:c.sts.length≤1000000:=hs
 have ht:c.trs.length≤1000000:=ht
 refine ei (bI.inv { X:=Nat,up:=fun k=>[(16,.s (iA k))],uo:=fun k=>[⟨2,26,[.s (iA c.act),.s (.p false (xM c.ins)),.rw 108 2 k (stF c),.s vW]⟩],inv:=fun k=>k≤c.sts.length∧(True),meas:=fun k=>c.sts.length-k,x0:=0 }) ?_
 refine ai (ai (ai (by exact (a4 (ai rfl rfl))) (ai ?_ ?_)) rfl) (ai (ai (aef _) ?_) ?_)
 ·exact (ai (ai (fun _=>rfl) (iE (by simp only[zz,reduceCtorEq];rfl))) rfl)
 ·exact (ai (ai (ai (ai nof rfl) rfl) (ai (ai (ai nof (ai rfl (fun _ _=>rfl))) rfl) (ai rfl (ai (ai nof rfl) rfl)))) trivial)
 ·trivial
 intro (k:Nat) ⟨hk,_⟩
 refine ah (p:=k<c.sts.length) (av (by omega)) (fun h1=>?_) (fun h1=>?_)
 ·refine ai (ai (abJ _) (iN (n:=c.sts.length) (by omega))) (ai rfl ?_)
  refine ai (mxL (n:=k+1) (by omega) (by decide)) (ai (lt1 rfl) ?_)
  refine ei (k+1) (ai (ai rfl rfl) (ai (ai (ai rfl (ai (ai rfl rfl) (ai (ai rfl rfl) (ai (ai (ai (fun _=>rfl) (aN (by omega))) rfl) (ai (ai (ai (ai nof rfl) rfl) (ai (ai (ai nof (ai rfl (fun _ _=>rfl))) rfl) (ai (ai rfl (ai rfl (ai rfl ?_))) (ai (ai nof rfl) rfl)))) trivial))))) rfl) (ai (ai (iL (by omega)) trivial) (iM (by omega)))))
  exact vX (stF c) k rfl
 obtain rfl:k=c.sts.length:=by omega
 refine ei (bI.inv { X:=Nat,up:=fun k=>[(34,.s (iA k))],uo:=fun k=>[⟨2,26,[.s (iA c.act),.s (.p false (xM c.ins)),.rw 108 2 c.sts.length (stF c),.rw 81 5 k (trF c)]⟩],inv:=fun k=>k≤c.trs.length∧(True),meas:=fun k=>c.trs.length-k,x0:=0 }) ?_
 refine ai (ai (ai (by exact (a4 (ai rfl rfl))) (ai ?_ ?_)) rfl) (ai (ai (aef _) ?_) ?_)
 ·exact (ai (ai (fun _=>rfl) (iE (by simp only[zz,reduceCtorEq];rfl))) rfl)
 ·exact (ai (ai (ai (ai nof rfl) rfl) (ai (ai (ai nof (ai rfl (fun _ _=>rfl))) rfl) (ai (ai rfl (ai rfl (ai rfl (fun _ _=>rfl)))) rfl))) trivial)
 ·trivial
 intro (k:Nat) ⟨hk,_⟩
 refine ah (p:=k<c.trs.length) (av (by omega)) (fun h1=>?_) (fun h1=>?_)
 ·refine ai (ai (abJ _) (iN (n:=c.trs.length) (by omega))) (ai rfl ?_)
  refine ai (mxL (n:=k+1) (by omega) (by decide)) (ai (lt1 rfl) ?_)
  refine ei (k+1) (ai (ai rfl rfl) (ai (ai (ai rfl (ai (ai rfl rfl) (ai (ai rfl rfl) (ai (ai (ai (fun _=>rfl) (aN (by omega))) rfl) (ai (ai (ai (ai nof rfl) rfl) (ai (ai (ai nof (ai rfl (fun _ _=>rfl))) rfl) (ai (ai rfl (ai rfl (ai rfl (fun _ _=>rfl)))) (ai rfl (ai rfl (ai rfl ?_)))))) trivial))))) rfl) (ai (ai (iL (by omega)) trivial) (iM (by omega)))))
  exact vX (trF c) k rfl
 obtain rfl:k=c.trs.length:=by omega
 refine ai (ai (fun h=>absurd (show false=true from h) (by decide)) ?_) trivial
 show aC _ (nU c)
 rw[show nU c=.agg [iP c.act,xM c.ins,.seq c.sts.length (stF c),.seq c.trs.length (trF c)] from rfl]
 exact (ai rfl (ai (ai rfl (fun _ _=>rfl)) (ai (ai rfl (fun _ _=>rfl)) (ai rfl (fun _ _=>rfl)))))
def bbA (l:List (List Bool)):SV:=.p false (bbP l)
def ajD (l:List (List Bool)):Prop:=l.length≤1000000∧∀m∈l,m.length≤1000000
theorem ajj:aM Tryz.prog 33 (bM (fun a:List (List Bool)×List (List Bool)=>[bbA a.1,bbA a.2]) (fun a=>ajD a.1) (fun a=>bP (decide (a.1=a.2)))):=by
 refine aW (Tb:=tab) mixed aB Tryz.func33 rfl rfl ?_
 rintro (a:List (List Bool)×List (List Bool)) hpre
 refine ai (ai rfl (ai rfl rfl)) ?_
 obtain ⟨hl,hm⟩:=hpre
 have hl:a.1.length≤1000000:=hl
 refine aF (p:=a.1.length=a.2.length) (bZ (by omega)) (fun h1=>?_) (fun h1=>?_)
 ·refine ai (ai (fun _=>trivial) ?_) trivial
  show aC _ (bP (decide (a.1=a.2)))
  rw[decide_eq_false (fun h=>h1 (congrArg List.length h))]
  exact rfl
 refine ei (bI.inv { X:=Nat,up:=fun k=>[(5,.s (iA k))],uo:=fun k=>[],inv:=fun k=>k≤a.1.length∧(a.1.take k=a.2.take k),meas:=fun k=>a.1.length-k,x0:=0 }) ?_
 refine ai (ai (ai (by exact (a4 (ai rfl rfl))) (ai (by exact (ai (ai (fun _=>rfl) (iE (by simp only[zz,reduceCtorEq];rfl))) rfl)) (by exact trivial))) rfl) (ai (ai (aef _) ?_) ?_)
 ·rfl
 intro (k:Nat) ⟨hk,hall⟩
 refine ah (p:=k<a.1.length) (av (by omega)) (fun h4=>?_) (fun h4=>?_)
 ·refine ei (.seq [0,1,2,3,4,5,6,7,8,9]) (ai (by kernel_rfl) ?_)
  refine ai (ai (abJ _) (iN (n:=a.1.length) (by omega))) (ai rfl ?_)
  refine ai (ai (abJ _) (iN (n:=a.2.length) (by omega))) (ai rfl ?_)
  refine ei _ (ai (al6) (ei ((a.1.getD k [],a.2.getD k [])) (ei [] (ai (a4 (ai (fun _=>Or.inl rfl) (ai nof (Or.inl rfl)))) (ai (by exact (ai (ai rfl (fun _ _=>rfl)) (ai rfl (fun _ _=>rfl)))) (ai trivial (ai (hm _ (aee (bT [] h4))) ?_)))))))
  refine aF (p:=a.1.getD k []=a.2.getD k []) (by (show (!decide (a.1.getD k []=a.2.getD k []))=true↔_;simp)) (fun h5=>?_) (fun h5=>?_)
  ·refine ai (ai (fun _=>trivial) ?_) trivial
   show aC _ (bP (decide (a.1=a.2)))
   rw[decide_eq_false (fun h=>h5 (by rw[h]))]
   exact rfl
  refine ei (k+1) (ai (ai rfl rfl) (ai (ai (ai rfl (ai (ai rfl rfl) (ai (ai rfl rfl) (ai (ai (ai (fun _=>rfl) (aN (by omega))) rfl) trivial)))) rfl) (ai (ai (iL (by omega)) ?_) (iM (by omega)))))
  exact wz [] h4 (by omega) hall h5
 ·obtain rfl:k=a.1.length:=by omega
  rw[afz,h1,afz] at hall
  refine ai (ai (fun _=>trivial) ?_) trivial
  show aC _ (bP (decide (a.1=a.2)))
  rw[decide_eq_true hall]
  exact rfl
def oI (s:gy):Bool:=decide (s.sts.length≤128)&&s.sts.all fun x=>decide (x.st.length≤40)
theorem alb:aM Tryz.prog 17 (bM (fun s:gy=>[uW s]) (fun _=>True) (fun s=>bP (oI s))):=by
 refine aW (Tb:=tab) mixed aB Tryz.func17 rfl rfl ?_
 rintro (s:gy) hpre
 refine ai (ai rfl (ai rfl rfl)) ?_
 refine ah (p:=128<s.sts.length) (av (by omega)) (fun h1=>?_) (fun h1=>?_)
 ·refine ai (ai (fun _=>trivial) ?_) trivial
  show aC _ (bP (oI s))
  rw[show oI s=false by unfold oI;rw[decide_eq_false (by omega)];rfl]
  exact rfl
 refine ei (bI.inv { X:=Nat,up:=fun k=>[(3,.s (iA k))],uo:=fun k=>[],inv:=fun k=>k≤s.sts.length∧(∀y∈s.sts.take k,y.st.length≤40),meas:=fun k=>s.sts.length-k,x0:=0 }) ?_
 refine ai (ai (ai (by exact (a4 (ai rfl rfl))) (ai (by exact (ai (ai (fun _=>rfl) (iE (by simp only[zz,reduceCtorEq];rfl))) rfl)) (by exact trivial))) rfl) (ai (ai (aef _) ?_) ?_)
 ·exact fun y hy=>absurd hy (by simp)
 intro (k:Nat) ⟨hk,hall⟩
 refine ah (p:=k<s.sts.length) (av (by omega)) (fun h4=>?_) (fun h4=>?_)
 ·refine ai (ai (abJ _) (iN (n:=s.sts.length) (by omega))) (ai rfl ?_)
  refine ah (p:=40<(s.sts.getD k st0).st.length) (by simp only[zz,reduceCtorEq];omega) (fun h2=>?_) (fun h2=>?_)
  ·refine ai (ai (fun _=>trivial) ?_) trivial
   show aC _ (bP (oI s))
   rw[show oI s=false by unfold oI;rw[Bool.and_eq_false_iff];right;rw[ar8];exact ⟨_,aee (bT st0 h4),fun h=>absurd (of_decide_eq_true h) (by omega)⟩]
   exact rfl
  refine ei (k+1) (ai (ai rfl rfl) (ai (ai (ai rfl (ai (ai rfl rfl) (ai (ai rfl rfl) (ai (ai (ai (fun _=>rfl) (aN (by omega))) rfl) trivial)))) rfl) (ai (ai (iL (by omega)) ?_) (iM (by omega)))))
  intro y hy
  rw[aX st0 h4] at hy
  rcases ahq.1 hy with hy | hy
  ·exact hall y hy
  ·simp only[agL] at hy;subst hy;omega
 ·obtain rfl:k=s.sts.length:=by omega
  rw[afz] at hall
  refine ai (ai (fun _=>trivial) ?_) trivial
  show aC _ (bP (oI s))
  rw[show oI s=true by unfold oI;rw[decide_eq_true (by omega),aql,amN];exact fun y hy=>decide_eq_true (hall y hy)]
  exact rfl
def ako (c:bC):Prop:=ajp c∧c.ins.length≤1000000∧(∀x∈c.sts,x.st.length≤1000000)∧∀t∈c.trs,t.fr.length≤1000000∧t.to.length≤1000000∧iF t.wh=true
set_option maxHeartbeats 4000000 in
theorem alv:aM Tryz.prog 20 (bM (fun c:bC=>[kE c,kE c]) ako (fun _=>bP true)):=by
 refine aW (Tb:=tab) mixed aB Tryz.func20 rfl rfl ?_
 rintro (c:bC) hpre
 refine ai (ai rfl (ai rfl rfl)) ?_
 obtain ⟨⟨hs,ht⟩,hi,hst,htr⟩:=hpre
 have hi:c.ins.length≤1000000:=hi
 have hs:c.sts.length≤1000000:=hs
 have ht:c.trs.length≤1000000:=ht
 refine aF (p:=c.act=c.act) (bZ (by omega)) (fun h1=>?_) (fun h1=>?_)
 ·exact absurd rfl h1
 refine aF (p:=c.ins.length=c.ins.length) (bZ (by omega)) (fun h2=>?_) (fun h2=>?_)
 ·exact absurd rfl h2
 refine aF (p:=c.sts.length=c.sts.length) (bZ (by omega)) (fun h3=>?_) (fun h3=>?_)
 ·exact absurd rfl h3
 refine aF (p:=c.trs.length=c.trs.length) (bZ (by omega)) (fun h4=>?_) (fun h4=>?_)
 ·exact absurd rfl h4
 refine ei (bI.inv { X:=Nat,up:=fun k=>[(5,.s (iA k))],uo:=fun k=>[],inv:=fun k=>k≤c.ins.length∧(True),meas:=fun k=>c.ins.length-k,x0:=0 }) ?_
 refine ai (ai (ai (by exact (a4 (ai rfl rfl))) (ai (by exact (ai (ai (fun _=>rfl) (iE (by simp only[zz,reduceCtorEq];rfl))) rfl)) (by exact trivial))) rfl) (ai (ai (aef _) ?_) ?_)
 ·trivial
 intro (k:Nat) ⟨hk,_⟩
 refine ah (p:=k<c.ins.length) (av (by omega)) (fun h5=>?_) (fun h5=>?_)
 ·refine ei (.seq [0,1,2,3,4,5,6,7,8,9,10]) (ai (by kernel_rfl) ?_)
  refine ai (ai (abJ _) (iN (n:=c.ins.length) (by omega))) (ai rfl ?_)
  refine ai (ai (abJ _) (iN (n:=c.ins.length) (by omega))) (ai rfl ?_)
  refine aF (p:=c.ins.getD k []=c.ins.getD k []) (by (show (!(c.ins.getD k []==c.ins.getD k []))=true↔_;simp)) (fun h6=>?_) (fun h6=>?_)
  ·exact absurd rfl h6
  refine ei (k+1) (ai (ai rfl rfl) (ai (ai (ai rfl (ai (ai rfl rfl) (ai (ai rfl rfl) (ai (ai (ai (fun _=>rfl) (aN (by omega))) rfl) trivial)))) rfl) (ai (ai (iL (by omega)) trivial) (iM (by omega)))))
 obtain rfl:k=c.ins.length:=by omega
 refine ei (bI.inv { X:=Nat,up:=fun k=>[(6,.s (iA k))],uo:=fun k=>[],inv:=fun k=>k≤c.sts.length∧(True),meas:=fun k=>c.sts.length-k,x0:=0 }) ?_
 refine ai (ai (ai (by exact (a4 (ai rfl rfl))) (ai (by exact (ai (ai (fun _=>rfl) (iE (by simp only[zz,reduceCtorEq];rfl))) rfl)) (by exact trivial))) rfl) (ai (ai (aef _) ?_) ?_)
 ·trivial
 intro (k:Nat) ⟨hk,_⟩
 refine ah (p:=k<c.sts.length) (av (by omega)) (fun h7=>?_) (fun h7=>?_)
 ·refine ei (.seq [0,1,2,3,4,5,6,7,8,9,10,11,12,13,14,15,16,17,18,19,20,21,22,23,24,25,26,27,28]) (ai (by kernel_rfl) ?_)
  refine ai (ai (abJ _) (iN (n:=c.sts.length) (by omega))) (ai rfl ?_)
  refine ai (ai (abJ _) (iN (n:=c.sts.length) (by omega))) (ai rfl ?_)
  refine aF (p:=(c.sts.getD k st0).wt=(c.sts.getD k st0).wt) (bZ (by omega)) (fun h8=>?_) (fun h8=>?_)
  ·exact absurd rfl h8
  refine ai (ai (abJ _) (iN (n:=c.sts.length) (by omega))) (ai rfl ?_)
  refine ai (ai (abJ _) (iN (n:=c.sts.length) (by omega))) (ai rfl ?_)
  refine ei _ (ai (alB) (ei (((c.sts.getD k st0).st,(c.sts.getD k st0).st)) (ei [] (ai (a4 (ai (fun _=>Or.inl rfl) (ai nof (Or.inl rfl)))) (ai (by exact (ai (ai rfl (fun _ _=>rfl)) (ai rfl (fun _ _=>rfl)))) (ai trivial (ai (hst _ (aee (bT st0 h7))) ?_)))))))
  refine aF (p:=(c.sts.getD k st0).st=(c.sts.getD k st0).st) (by (show (!decide ((c.sts.getD k st0).st=(c.sts.getD k st0).st))=true↔_;simp)) (fun h9=>?_) (fun h9=>?_)
  ·exact absurd rfl h9
  refine ei (k+1) (ai (ai rfl rfl) (ai (ai (ai rfl (ai (ai rfl rfl) (ai (ai rfl rfl) (ai (ai (ai (fun _=>rfl) (aN (by omega))) rfl) trivial)))) rfl) (ai (ai (iL (by omega)) trivial) (iM (by omega)))))
 obtain rfl:k=c.sts.length:=by omega
 refine ei (bI.inv { X:=Nat,up:=fun k=>[(7,.s (iA k))],uo:=fun k=>[],inv:=fun k=>k≤c.trs.length∧(True),meas:=fun k=>c.trs.length-k,x0:=0 }) ?_
 refine ai (ai (ai (by exact (a4 (ai rfl rfl))) (ai (by exact (ai (ai (fun _=>rfl) (iE (by simp only[zz,reduceCtorEq];rfl))) rfl)) (by exact trivial))) rfl) (ai (ai (aef _) ?_) ?_)
 ·trivial
 intro (k:Nat) ⟨hk,_⟩
 refine ah (p:=k<c.trs.length) (av (by omega)) (fun h7=>?_) (fun h7=>?_)
 ·have hm:=htr _ (aee (bT ak h7))
  have he:bO (c.trs.getD k ak).wh (c.trs.getD k ak).wh=true:=by unfold bO;rw[hm.2.2,aar.2 rfl];rfl
  refine ei (.one 0 (.one 1 (.one 2 (.one 3 (.one 4 (.one 5 (.one 7 (.alt 6 (.one 8 (.alt 9 (.alt 10 (.one 11 (.one 12 (.one 13 .done))) (.alt 11 (.one 10 (.one 12 (.one 13 .done))) .stop)) (.alt 10 (.alt 9 (.one 11 (.one 12 (.one 13 .done))) (.alt 11 (.alt 9 (.one 12 (.one 13 .done)) (.alt 12 (.one 9 (.one 13 .done)) .stop)) .stop)) (.alt 11 (.alt 9 (.one 10 (.one 12 (.one 13 .done))) (.alt 10 (.alt 9 (.one 12 (.one 13 .done)) (.alt 12 (.one 9 (.one 13 .done)) .stop)) .stop)) .stop)))) (.alt 10 (.alt 6 (.one 8 (.alt 9 (.one 11 (.one 12 (.one 13 .done))) (.alt 11 (.alt 9 (.one 12 (.one 13 .done)) (.alt 12 (.one 9 (.one 13 .done)) .stop)) .stop))) (.alt 11 (.alt 6 (.one 8 (.alt 9 (.one 12 (.one 13 .done)) (.alt 12 (.one 9 (.one 13 .done)) .stop))) (.alt 12 (.one 6 (.one 8 (.one 9 (.one 13 .done)))) .stop)) .stop)) (.alt 11 (.alt 6 (.one 8 (.alt 9 (.one 10 (.one 12 (.one 13 .done))) (.alt 10 (.alt 9 (.one 12 (.one 13 .done)) (.alt 12 (.one 9 (.one 13 .done)) .stop)) .stop))) (.alt 10 (.alt 6 (.one 8 (.alt 9 (.one 12 (.one 13 .done)) (.alt 12 (.one 9 (.one 13 .done)) .stop))) (.alt 12 (.one 6 (.one 8 (.one 9 (.one 13 .done)))) .stop)) .stop)) .stop)))))))))) (ai (by kernel_rfl) ?_)
  refine ai (ai (abJ _) (iN (n:=c.trs.length) (by omega))) (ai rfl ?_)
  refine ai ?_ ?_
  ·refine ai (ai (abJ _) (iN (n:=c.trs.length) (by omega))) (ai rfl ?_)
   refine ai ?_ ?_
   ·refine ai ?_ ?_
    ·refine ei _ (ai (bF) (ei (((c.trs.getD k ak).fr,(c.trs.getD k ak).fr)) (ei [] (ai (a4 (ai (fun _=>Or.inl rfl) (ai nof (Or.inl rfl)))) (ai (by exact (ai (ai rfl (fun _ _=>rfl)) (ai rfl (fun _ _=>rfl)))) (ai trivial (ai (hm.1) ?_)))))))
     refine aF (p:=(c.trs.getD k ak).fr=(c.trs.getD k ak).fr) (by (show (!decide ((c.trs.getD k ak).fr=(c.trs.getD k ak).fr))=true↔_;simp)) (fun h9=>?_) (fun h9=>?_)
     ·exact absurd rfl h9
     refine ei _ (ai (bF) (ei (((c.trs.getD k ak).to,(c.trs.getD k ak).to)) (ei [] (ai (a4 (ai (fun _=>Or.inl rfl) (ai nof (Or.inl rfl)))) (ai (by exact (ai (ai rfl (fun _ _=>rfl)) (ai rfl (fun _ _=>rfl)))) (ai trivial (ai (hm.2.1) ?_)))))))
     refine aF (p:=(c.trs.getD k ak).to=(c.trs.getD k ak).to) (by (show (!decide ((c.trs.getD k ak).to=(c.trs.getD k ak).to))=true↔_;simp)) (fun h9=>?_) (fun h9=>?_)
     ·exact absurd rfl h9
     refine ei _ (ai (fD) (ei (((c.trs.getD k ak).wh,(c.trs.getD k ak).wh)) (ei [] (ai (a4 (ai (fun _=>Or.inl rfl) (ai nof (Or.inl rfl)))) (ai (by exact (ai (ai (iE (by simp only[zz,reduceCtorEq])) (ai (iE (by simp only[zz,reduceCtorEq])) (ai rfl (fun _ _=>rfl)))) (ai (iE (by simp only[zz,reduceCtorEq])) (ai (iE (by simp only[zz,reduceCtorEq])) (ai rfl (fun _ _=>rfl)))))) (ai trivial (ai (trivial) ?_)))))))
     refine aF (p:=bO (c.trs.getD k ak).wh (c.trs.getD k ak).wh=true) (by (show (!bO (c.trs.getD k ak).wh (c.trs.getD k ak).wh)=true↔_;simp)) (fun h9=>?_) (fun h9=>?_)
     ·exact absurd he h9
     refine ei (k+1) (ai (ai rfl rfl) (ai (ai (ai rfl (ai (ai rfl rfl) (ai (ai rfl rfl) (ai (ai (ai (fun _=>rfl) (aN (by omega))) rfl) trivial)))) rfl) (ai (ai (iL (by omega)) trivial) (iM (by omega)))))
    refine ai ?_ ?_
    ·refine ei _ (ai (bF) (ei (((c.trs.getD k ak).fr,(c.trs.getD k ak).fr)) (ei [] (ai (a4 (ai (fun _=>Or.inl rfl) (ai nof (Or.inl rfl)))) (ai (by exact (ai (ai rfl (fun _ _=>rfl)) (ai rfl (fun _ _=>rfl)))) (ai trivial (ai (hm.1) ?_)))))))
     refine aF (p:=(c.trs.getD k ak).fr=(c.trs.getD k ak).fr) (by (show (!decide ((c.trs.getD k ak).fr=(c.trs.getD k ak).fr))=true↔_;simp)) (fun h9=>?_) (fun h9=>?_)
     ·exact absurd rfl h9
     refine ei _ (ai (bF) (ei (((c.trs.getD k ak).to,(c.trs.getD k ak).to)) (ei [] (ai (a4 (ai (fun _=>Or.inl rfl) (ai nof (Or.inl rfl)))) (ai (by exact (ai (ai rfl (fun _ _=>rfl)) (ai rfl (fun _ _=>rfl)))) (ai trivial (ai (hm.2.1) ?_)))))))
     refine aF (p:=(c.trs.getD k ak).to=(c.trs.getD k ak).to) (by (show (!decide ((c.trs.getD k ak).to=(c.trs.getD k ak).to))=true↔_;simp)) (fun h9=>?_) (fun h9=>?_)
     ·exact absurd rfl h9
     refine ei _ (ai (fD) (ei (((c.trs.getD k ak).wh,(c.trs.getD k ak).wh)) (ei [] (ai (a4 (ai (fun _=>Or.inl rfl) (ai nof (Or.inl rfl)))) (ai (by exact (ai (ai (iE (by simp only[zz,reduceCtorEq])) (ai (iE (by simp only[zz,reduceCtorEq])) (ai rfl (fun _ _=>rfl)))) (ai (iE (by simp only[zz,reduceCtorEq])) (ai (iE (by simp only[zz,reduceCtorEq])) (ai rfl (fun _ _=>rfl)))))) (ai trivial (ai (trivial) ?_)))))))
     refine aF (p:=bO (c.trs.getD k ak).wh (c.trs.getD k ak).wh=true) (by (show (!bO (c.trs.getD k ak).wh (c.trs.getD k ak).wh)=true↔_;simp)) (fun h9=>?_) (fun h9=>?_)
     ·exact absurd he h9
     refine ei (k+1) (ai (ai rfl rfl) (ai (ai (ai rfl (ai (ai rfl rfl) (ai (ai rfl rfl) (ai (ai (ai (fun _=>rfl) (aN (by omega))) rfl) trivial)))) rfl) (ai (ai (iL (by omega)) trivial) (iM (by omega)))))
    exact trivial
   refine ai ?_ ?_
   ·refine ai ?_ ?_
    ·refine ei _ (ai (bF) (ei (((c.trs.getD k ak).fr,(c.trs.getD k ak).fr)) (ei [] (ai (a4 (ai (fun _=>Or.inl rfl) (ai nof (Or.inl rfl)))) (ai (by exact (ai (ai rfl (fun _ _=>rfl)) (ai rfl (fun _ _=>rfl)))) (ai trivial (ai (hm.1) ?_)))))))
     refine aF (p:=(c.trs.getD k ak).fr=(c.trs.getD k ak).fr) (by (show (!decide ((c.trs.getD k ak).fr=(c.trs.getD k ak).fr))=true↔_;simp)) (fun h9=>?_) (fun h9=>?_)
     ·exact absurd rfl h9
     refine ei _ (ai (bF) (ei (((c.trs.getD k ak).to,(c.trs.getD k ak).to)) (ei [] (ai (a4 (ai (fun _=>Or.inl rfl) (ai nof (Or.inl rfl)))) (ai (by exact (ai (ai rfl (fun _ _=>rfl)) (ai rfl (fun _ _=>rfl)))) (ai trivial (ai (hm.2.1) ?_)))))))
     refine aF (p:=(c.trs.getD k ak).to=(c.trs.getD k ak).to) (by (show (!decide ((c.trs.getD k ak).to=(c.trs.getD k ak).to))=true↔_;simp)) (fun h9=>?_) (fun h9=>?_)
     ·exact absurd rfl h9
     refine ei _ (ai (fD) (ei (((c.trs.getD k ak).wh,(c.trs.getD k ak).wh)) (ei [] (ai (a4 (ai (fun _=>Or.inl rfl) (ai nof (Or.inl rfl)))) (ai (by exact (ai (ai (iE (by simp only[zz,reduceCtorEq])) (ai (iE (by simp only[zz,reduceCtorEq])) (ai rfl (fun _ _=>rfl)))) (ai (iE (by simp only[zz,reduceCtorEq])) (ai (iE (by simp only[zz,reduceCtorEq])) (ai rfl (fun _ _=>rfl)))))) (ai trivial (ai (trivial) ?_)))))))
     refine aF (p:=bO (c.trs.getD k ak).wh (c.trs.getD k ak).wh=true) (by (show (!bO (c.trs.getD k ak).wh (c.trs.getD k ak).wh)=true↔_;simp)) (fun h9=>?_) (fun h9=>?_)
     ·exact absurd he h9
     refine ei (k+1) (ai (ai rfl rfl) (ai (ai (ai rfl (ai (ai rfl rfl) (ai (ai rfl rfl) (ai (ai (ai (fun _=>rfl) (aN (by omega))) rfl) trivial)))) rfl) (ai (ai (iL (by omega)) trivial) (iM (by omega)))))
    refine ai ?_ ?_
    ·refine ai ?_ ?_
     ·refine ei _ (ai (bF) (ei (((c.trs.getD k ak).fr,(c.trs.getD k ak).fr)) (ei [] (ai (a4 (ai (fun _=>Or.inl rfl) (ai nof (Or.inl rfl)))) (ai (by exact (ai (ai rfl (fun _ _=>rfl)) (ai rfl (fun _ _=>rfl)))) (ai trivial (ai (hm.1) ?_)))))))
      refine aF (p:=(c.trs.getD k ak).fr=(c.trs.getD k ak).fr) (by (show (!decide ((c.trs.getD k ak).fr=(c.trs.getD k ak).fr))=true↔_;simp)) (fun h9=>?_) (fun h9=>?_)
      ·exact absurd rfl h9
      refine ei _ (ai (bF) (ei (((c.trs.getD k ak).to,(c.trs.getD k ak).to)) (ei [] (ai (a4 (ai (fun _=>Or.inl rfl) (ai nof (Or.inl rfl)))) (ai (by exact (ai (ai rfl (fun _ _=>rfl)) (ai rfl (fun _ _=>rfl)))) (ai trivial (ai (hm.2.1) ?_)))))))
      refine aF (p:=(c.trs.getD k ak).to=(c.trs.getD k ak).to) (by (show (!decide ((c.trs.getD k ak).to=(c.trs.getD k ak).to))=true↔_;simp)) (fun h9=>?_) (fun h9=>?_)
      ·exact absurd rfl h9
      refine ei _ (ai (fD) (ei (((c.trs.getD k ak).wh,(c.trs.getD k ak).wh)) (ei [] (ai (a4 (ai (fun _=>Or.inl rfl) (ai nof (Or.inl rfl)))) (ai (by exact (ai (ai (iE (by simp only[zz,reduceCtorEq])) (ai (iE (by simp only[zz,reduceCtorEq])) (ai rfl (fun _ _=>rfl)))) (ai (iE (by simp only[zz,reduceCtorEq])) (ai (iE (by simp only[zz,reduceCtorEq])) (ai rfl (fun _ _=>rfl)))))) (ai trivial (ai (trivial) ?_)))))))
      refine aF (p:=bO (c.trs.getD k ak).wh (c.trs.getD k ak).wh=true) (by (show (!bO (c.trs.getD k ak).wh (c.trs.getD k ak).wh)=true↔_;simp)) (fun h9=>?_) (fun h9=>?_)
      ·exact absurd he h9
      refine ei (k+1) (ai (ai rfl rfl) (ai (ai (ai rfl (ai (ai rfl rfl) (ai (ai rfl rfl) (ai (ai (ai (fun _=>rfl) (aN (by omega))) rfl) trivial)))) rfl) (ai (ai (iL (by omega)) trivial) (iM (by omega)))))
     refine ai ?_ ?_
     ·refine ei _ (ai (bF) (ei (((c.trs.getD k ak).fr,(c.trs.getD k ak).fr)) (ei [] (ai (a4 (ai (fun _=>Or.inl rfl) (ai nof (Or.inl rfl)))) (ai (by exact (ai (ai rfl (fun _ _=>rfl)) (ai rfl (fun _ _=>rfl)))) (ai trivial (ai (hm.1) ?_)))))))
      refine aF (p:=(c.trs.getD k ak).fr=(c.trs.getD k ak).fr) (by (show (!decide ((c.trs.getD k ak).fr=(c.trs.getD k ak).fr))=true↔_;simp)) (fun h9=>?_) (fun h9=>?_)
      ·exact absurd rfl h9
      refine ei _ (ai (bF) (ei (((c.trs.getD k ak).to,(c.trs.getD k ak).to)) (ei [] (ai (a4 (ai (fun _=>Or.inl rfl) (ai nof (Or.inl rfl)))) (ai (by exact (ai (ai rfl (fun _ _=>rfl)) (ai rfl (fun _ _=>rfl)))) (ai trivial (ai (hm.2.1) ?_)))))))
      refine aF (p:=(c.trs.getD k ak).to=(c.trs.getD k ak).to) (by (show (!decide ((c.trs.getD k ak).to=(c.trs.getD k ak).to))=true↔_;simp)) (fun h9=>?_) (fun h9=>?_)
      ·exact absurd rfl h9
      refine ei _ (ai (fD) (ei (((c.trs.getD k ak).wh,(c.trs.getD k ak).wh)) (ei [] (ai (a4 (ai (fun _=>Or.inl rfl) (ai nof (Or.inl rfl)))) (ai (by exact (ai (ai (iE (by simp only[zz,reduceCtorEq])) (ai (iE (by simp only[zz,reduceCtorEq])) (ai rfl (fun _ _=>rfl)))) (ai (iE (by simp only[zz,reduceCtorEq])) (ai (iE (by simp only[zz,reduceCtorEq])) (ai rfl (fun _ _=>rfl)))))) (ai trivial (ai (trivial) ?_)))))))
      refine aF (p:=bO (c.trs.getD k ak).wh (c.trs.getD k ak).wh=true) (by (show (!bO (c.trs.getD k ak).wh (c.trs.getD k ak).wh)=true↔_;simp)) (fun h9=>?_) (fun h9=>?_)
      ·exact absurd he h9
      refine ei (k+1) (ai (ai rfl rfl) (ai (ai (ai rfl (ai (ai rfl rfl) (ai (ai rfl rfl) (ai (ai (ai (fun _=>rfl) (aN (by omega))) rfl) trivial)))) rfl) (ai (ai (iL (by omega)) trivial) (iM (by omega)))))
     exact trivial
    exact trivial
   refine ai ?_ ?_
   ·refine ai ?_ ?_
    ·refine ei _ (ai (bF) (ei (((c.trs.getD k ak).fr,(c.trs.getD k ak).fr)) (ei [] (ai (a4 (ai (fun _=>Or.inl rfl) (ai nof (Or.inl rfl)))) (ai (by exact (ai (ai rfl (fun _ _=>rfl)) (ai rfl (fun _ _=>rfl)))) (ai trivial (ai (hm.1) ?_)))))))
     refine aF (p:=(c.trs.getD k ak).fr=(c.trs.getD k ak).fr) (by (show (!decide ((c.trs.getD k ak).fr=(c.trs.getD k ak).fr))=true↔_;simp)) (fun h9=>?_) (fun h9=>?_)
     ·exact absurd rfl h9
     refine ei _ (ai (bF) (ei (((c.trs.getD k ak).to,(c.trs.getD k ak).to)) (ei [] (ai (a4 (ai (fun _=>Or.inl rfl) (ai nof (Or.inl rfl)))) (ai (by exact (ai (ai rfl (fun _ _=>rfl)) (ai rfl (fun _ _=>rfl)))) (ai trivial (ai (hm.2.1) ?_)))))))
     refine aF (p:=(c.trs.getD k ak).to=(c.trs.getD k ak).to) (by (show (!decide ((c.trs.getD k ak).to=(c.trs.getD k ak).to))=true↔_;simp)) (fun h9=>?_) (fun h9=>?_)
     ·exact absurd rfl h9
     refine ei _ (ai (fD) (ei (((c.trs.getD k ak).wh,(c.trs.getD k ak).wh)) (ei [] (ai (a4 (ai (fun _=>Or.inl rfl) (ai nof (Or.inl rfl)))) (ai (by exact (ai (ai (iE (by simp only[zz,reduceCtorEq])) (ai (iE (by simp only[zz,reduceCtorEq])) (ai rfl (fun _ _=>rfl)))) (ai (iE (by simp only[zz,reduceCtorEq])) (ai (iE (by simp only[zz,reduceCtorEq])) (ai rfl (fun _ _=>rfl)))))) (ai trivial (ai (trivial) ?_)))))))
     refine aF (p:=bO (c.trs.getD k ak).wh (c.trs.getD k ak).wh=true) (by (show (!bO (c.trs.getD k ak).wh (c.trs.getD k ak).wh)=true↔_;simp)) (fun h9=>?_) (fun h9=>?_)
     ·exact absurd he h9
     refine ei (k+1) (ai (ai rfl rfl) (ai (ai (ai rfl (ai (ai rfl rfl) (ai (ai rfl rfl) (ai (ai (ai (fun _=>rfl) (aN (by omega))) rfl) trivial)))) rfl) (ai (ai (iL (by omega)) trivial) (iM (by omega)))))
    refine ai ?_ ?_
    ·refine ai ?_ ?_
     ·refine ei _ (ai (bF) (ei (((c.trs.getD k ak).fr,(c.trs.getD k ak).fr)) (ei [] (ai (a4 (ai (fun _=>Or.inl rfl) (ai nof (Or.inl rfl)))) (ai (by exact (ai (ai rfl (fun _ _=>rfl)) (ai rfl (fun _ _=>rfl)))) (ai trivial (ai (hm.1) ?_)))))))
      refine aF (p:=(c.trs.getD k ak).fr=(c.trs.getD k ak).fr) (by (show (!decide ((c.trs.getD k ak).fr=(c.trs.getD k ak).fr))=true↔_;simp)) (fun h9=>?_) (fun h9=>?_)
      ·exact absurd rfl h9
      refine ei _ (ai (bF) (ei (((c.trs.getD k ak).to,(c.trs.getD k ak).to)) (ei [] (ai (a4 (ai (fun _=>Or.inl rfl) (ai nof (Or.inl rfl)))) (ai (by exact (ai (ai rfl (fun _ _=>rfl)) (ai rfl (fun _ _=>rfl)))) (ai trivial (ai (hm.2.1) ?_)))))))
      refine aF (p:=(c.trs.getD k ak).to=(c.trs.getD k ak).to) (by (show (!decide ((c.trs.getD k ak).to=(c.trs.getD k ak).to))=true↔_;simp)) (fun h9=>?_) (fun h9=>?_)
      ·exact absurd rfl h9
      refine ei _ (ai (fD) (ei (((c.trs.getD k ak).wh,(c.trs.getD k ak).wh)) (ei [] (ai (a4 (ai (fun _=>Or.inl rfl) (ai nof (Or.inl rfl)))) (ai (by exact (ai (ai (iE (by simp only[zz,reduceCtorEq])) (ai (iE (by simp only[zz,reduceCtorEq])) (ai rfl (fun _ _=>rfl)))) (ai (iE (by simp only[zz,reduceCtorEq])) (ai (iE (by simp only[zz,reduceCtorEq])) (ai rfl (fun _ _=>rfl)))))) (ai trivial (ai (trivial) ?_)))))))
      refine aF (p:=bO (c.trs.getD k ak).wh (c.trs.getD k ak).wh=true) (by (show (!bO (c.trs.getD k ak).wh (c.trs.getD k ak).wh)=true↔_;simp)) (fun h9=>?_) (fun h9=>?_)
      ·exact absurd he h9
      refine ei (k+1) (ai (ai rfl rfl) (ai (ai (ai rfl (ai (ai rfl rfl) (ai (ai rfl rfl) (ai (ai (ai (fun _=>rfl) (aN (by omega))) rfl) trivial)))) rfl) (ai (ai (iL (by omega)) trivial) (iM (by omega)))))
     refine ai ?_ ?_
     ·refine ei _ (ai (bF) (ei (((c.trs.getD k ak).fr,(c.trs.getD k ak).fr)) (ei [] (ai (a4 (ai (fun _=>Or.inl rfl) (ai nof (Or.inl rfl)))) (ai (by exact (ai (ai rfl (fun _ _=>rfl)) (ai rfl (fun _ _=>rfl)))) (ai trivial (ai (hm.1) ?_)))))))
      refine aF (p:=(c.trs.getD k ak).fr=(c.trs.getD k ak).fr) (by (show (!decide ((c.trs.getD k ak).fr=(c.trs.getD k ak).fr))=true↔_;simp)) (fun h9=>?_) (fun h9=>?_)
      ·exact absurd rfl h9
      refine ei _ (ai (bF) (ei (((c.trs.getD k ak).to,(c.trs.getD k ak).to)) (ei [] (ai (a4 (ai (fun _=>Or.inl rfl) (ai nof (Or.inl rfl)))) (ai (by exact (ai (ai rfl (fun _ _=>rfl)) (ai rfl (fun _ _=>rfl)))) (ai trivial (ai (hm.2.1) ?_)))))))
      refine aF (p:=(c.trs.getD k ak).to=(c.trs.getD k ak).to) (by (show (!decide ((c.trs.getD k ak).to=(c.trs.getD k ak).to))=true↔_;simp)) (fun h9=>?_) (fun h9=>?_)
      ·exact absurd rfl h9
      refine ei _ (ai (fD) (ei (((c.trs.getD k ak).wh,(c.trs.getD k ak).wh)) (ei [] (ai (a4 (ai (fun _=>Or.inl rfl) (ai nof (Or.inl rfl)))) (ai (by exact (ai (ai (iE (by simp only[zz,reduceCtorEq])) (ai (iE (by simp only[zz,reduceCtorEq])) (ai rfl (fun _ _=>rfl)))) (ai (iE (by simp only[zz,reduceCtorEq])) (ai (iE (by simp only[zz,reduceCtorEq])) (ai rfl (fun _ _=>rfl)))))) (ai trivial (ai (trivial) ?_)))))))
      refine aF (p:=bO (c.trs.getD k ak).wh (c.trs.getD k ak).wh=true) (by (show (!bO (c.trs.getD k ak).wh (c.trs.getD k ak).wh)=true↔_;simp)) (fun h9=>?_) (fun h9=>?_)
      ·exact absurd he h9
      refine ei (k+1) (ai (ai rfl rfl) (ai (ai (ai rfl (ai (ai rfl rfl) (ai (ai rfl rfl) (ai (ai (ai (fun _=>rfl) (aN (by omega))) rfl) trivial)))) rfl) (ai (ai (iL (by omega)) trivial) (iM (by omega)))))
     exact trivial
    exact trivial
   exact trivial
  refine ai ?_ ?_
  ·refine ai ?_ ?_
   ·refine ai (ai (abJ _) (iN (n:=c.trs.length) (by omega))) (ai rfl ?_)
    refine ai ?_ ?_
    ·refine ei _ (ai (bF) (ei (((c.trs.getD k ak).fr,(c.trs.getD k ak).fr)) (ei [] (ai (a4 (ai (fun _=>Or.inl rfl) (ai nof (Or.inl rfl)))) (ai (by exact (ai (ai rfl (fun _ _=>rfl)) (ai rfl (fun _ _=>rfl)))) (ai trivial (ai (hm.1) ?_)))))))
     refine aF (p:=(c.trs.getD k ak).fr=(c.trs.getD k ak).fr) (by (show (!decide ((c.trs.getD k ak).fr=(c.trs.getD k ak).fr))=true↔_;simp)) (fun h9=>?_) (fun h9=>?_)
     ·exact absurd rfl h9
     refine ei _ (ai (bF) (ei (((c.trs.getD k ak).to,(c.trs.getD k ak).to)) (ei [] (ai (a4 (ai (fun _=>Or.inl rfl) (ai nof (Or.inl rfl)))) (ai (by exact (ai (ai rfl (fun _ _=>rfl)) (ai rfl (fun _ _=>rfl)))) (ai trivial (ai (hm.2.1) ?_)))))))
     refine aF (p:=(c.trs.getD k ak).to=(c.trs.getD k ak).to) (by (show (!decide ((c.trs.getD k ak).to=(c.trs.getD k ak).to))=true↔_;simp)) (fun h9=>?_) (fun h9=>?_)
     ·exact absurd rfl h9
     refine ei _ (ai (fD) (ei (((c.trs.getD k ak).wh,(c.trs.getD k ak).wh)) (ei [] (ai (a4 (ai (fun _=>Or.inl rfl) (ai nof (Or.inl rfl)))) (ai (by exact (ai (ai (iE (by simp only[zz,reduceCtorEq])) (ai (iE (by simp only[zz,reduceCtorEq])) (ai rfl (fun _ _=>rfl)))) (ai (iE (by simp only[zz,reduceCtorEq])) (ai (iE (by simp only[zz,reduceCtorEq])) (ai rfl (fun _ _=>rfl)))))) (ai trivial (ai (trivial) ?_)))))))
     refine aF (p:=bO (c.trs.getD k ak).wh (c.trs.getD k ak).wh=true) (by (show (!bO (c.trs.getD k ak).wh (c.trs.getD k ak).wh)=true↔_;simp)) (fun h9=>?_) (fun h9=>?_)
     ·exact absurd he h9
     refine ei (k+1) (ai (ai rfl rfl) (ai (ai (ai rfl (ai (ai rfl rfl) (ai (ai rfl rfl) (ai (ai (ai (fun _=>rfl) (aN (by omega))) rfl) trivial)))) rfl) (ai (ai (iL (by omega)) trivial) (iM (by omega)))))
    refine ai ?_ ?_
    ·refine ai ?_ ?_
     ·refine ei _ (ai (bF) (ei (((c.trs.getD k ak).fr,(c.trs.getD k ak).fr)) (ei [] (ai (a4 (ai (fun _=>Or.inl rfl) (ai nof (Or.inl rfl)))) (ai (by exact (ai (ai rfl (fun _ _=>rfl)) (ai rfl (fun _ _=>rfl)))) (ai trivial (ai (hm.1) ?_)))))))
      refine aF (p:=(c.trs.getD k ak).fr=(c.trs.getD k ak).fr) (by (show (!decide ((c.trs.getD k ak).fr=(c.trs.getD k ak).fr))=true↔_;simp)) (fun h9=>?_) (fun h9=>?_)
      ·exact absurd rfl h9
      refine ei _ (ai (bF) (ei (((c.trs.getD k ak).to,(c.trs.getD k ak).to)) (ei [] (ai (a4 (ai (fun _=>Or.inl rfl) (ai nof (Or.inl rfl)))) (ai (by exact (ai (ai rfl (fun _ _=>rfl)) (ai rfl (fun _ _=>rfl)))) (ai trivial (ai (hm.2.1) ?_)))))))
      refine aF (p:=(c.trs.getD k ak).to=(c.trs.getD k ak).to) (by (show (!decide ((c.trs.getD k ak).to=(c.trs.getD k ak).to))=true↔_;simp)) (fun h9=>?_) (fun h9=>?_)
      ·exact absurd rfl h9
      refine ei _ (ai (fD) (ei (((c.trs.getD k ak).wh,(c.trs.getD k ak).wh)) (ei [] (ai (a4 (ai (fun _=>Or.inl rfl) (ai nof (Or.inl rfl)))) (ai (by exact (ai (ai (iE (by simp only[zz,reduceCtorEq])) (ai (iE (by simp only[zz,reduceCtorEq])) (ai rfl (fun _ _=>rfl)))) (ai (iE (by simp only[zz,reduceCtorEq])) (ai (iE (by simp only[zz,reduceCtorEq])) (ai rfl (fun _ _=>rfl)))))) (ai trivial (ai (trivial) ?_)))))))
      refine aF (p:=bO (c.trs.getD k ak).wh (c.trs.getD k ak).wh=true) (by (show (!bO (c.trs.getD k ak).wh (c.trs.getD k ak).wh)=true↔_;simp)) (fun h9=>?_) (fun h9=>?_)
      ·exact absurd he h9
      refine ei (k+1) (ai (ai rfl rfl) (ai (ai (ai rfl (ai (ai rfl rfl) (ai (ai rfl rfl) (ai (ai (ai (fun _=>rfl) (aN (by omega))) rfl) trivial)))) rfl) (ai (ai (iL (by omega)) trivial) (iM (by omega)))))
     refine ai ?_ ?_
     ·refine ei _ (ai (bF) (ei (((c.trs.getD k ak).fr,(c.trs.getD k ak).fr)) (ei [] (ai (a4 (ai (fun _=>Or.inl rfl) (ai nof (Or.inl rfl)))) (ai (by exact (ai (ai rfl (fun _ _=>rfl)) (ai rfl (fun _ _=>rfl)))) (ai trivial (ai (hm.1) ?_)))))))
      refine aF (p:=(c.trs.getD k ak).fr=(c.trs.getD k ak).fr) (by (show (!decide ((c.trs.getD k ak).fr=(c.trs.getD k ak).fr))=true↔_;simp)) (fun h9=>?_) (fun h9=>?_)
      ·exact absurd rfl h9
      refine ei _ (ai (bF) (ei (((c.trs.getD k ak).to,(c.trs.getD k ak).to)) (ei [] (ai (a4 (ai (fun _=>Or.inl rfl) (ai nof (Or.inl rfl)))) (ai (by exact (ai (ai rfl (fun _ _=>rfl)) (ai rfl (fun _ _=>rfl)))) (ai trivial (ai (hm.2.1) ?_)))))))
      refine aF (p:=(c.trs.getD k ak).to=(c.trs.getD k ak).to) (by (show (!decide ((c.trs.getD k ak).to=(c.trs.getD k ak).to))=true↔_;simp)) (fun h9=>?_) (fun h9=>?_)
      ·exact absurd rfl h9
      refine ei _ (ai (fD) (ei (((c.trs.getD k ak).wh,(c.trs.getD k ak).wh)) (ei [] (ai (a4 (ai (fun _=>Or.inl rfl) (ai nof (Or.inl rfl)))) (ai (by exact (ai (ai (iE (by simp only[zz,reduceCtorEq])) (ai (iE (by simp only[zz,reduceCtorEq])) (ai rfl (fun _ _=>rfl)))) (ai (iE (by simp only[zz,reduceCtorEq])) (ai (iE (by simp only[zz,reduceCtorEq])) (ai rfl (fun _ _=>rfl)))))) (ai trivial (ai (trivial) ?_)))))))
      refine aF (p:=bO (c.trs.getD k ak).wh (c.trs.getD k ak).wh=true) (by (show (!bO (c.trs.getD k ak).wh (c.trs.getD k ak).wh)=true↔_;simp)) (fun h9=>?_) (fun h9=>?_)
      ·exact absurd he h9
      refine ei (k+1) (ai (ai rfl rfl) (ai (ai (ai rfl (ai (ai rfl rfl) (ai (ai rfl rfl) (ai (ai (ai (fun _=>rfl) (aN (by omega))) rfl) trivial)))) rfl) (ai (ai (iL (by omega)) trivial) (iM (by omega)))))
     exact trivial
    exact trivial
   refine ai ?_ ?_
   ·refine ai ?_ ?_
    ·refine ai (ai (abJ _) (iN (n:=c.trs.length) (by omega))) (ai rfl ?_)
     refine ai ?_ ?_
     ·refine ei _ (ai (bF) (ei (((c.trs.getD k ak).fr,(c.trs.getD k ak).fr)) (ei [] (ai (a4 (ai (fun _=>Or.inl rfl) (ai nof (Or.inl rfl)))) (ai (by exact (ai (ai rfl (fun _ _=>rfl)) (ai rfl (fun _ _=>rfl)))) (ai trivial (ai (hm.1) ?_)))))))
      refine aF (p:=(c.trs.getD k ak).fr=(c.trs.getD k ak).fr) (by (show (!decide ((c.trs.getD k ak).fr=(c.trs.getD k ak).fr))=true↔_;simp)) (fun h9=>?_) (fun h9=>?_)
      ·exact absurd rfl h9
      refine ei _ (ai (bF) (ei (((c.trs.getD k ak).to,(c.trs.getD k ak).to)) (ei [] (ai (a4 (ai (fun _=>Or.inl rfl) (ai nof (Or.inl rfl)))) (ai (by exact (ai (ai rfl (fun _ _=>rfl)) (ai rfl (fun _ _=>rfl)))) (ai trivial (ai (hm.2.1) ?_)))))))
      refine aF (p:=(c.trs.getD k ak).to=(c.trs.getD k ak).to) (by (show (!decide ((c.trs.getD k ak).to=(c.trs.getD k ak).to))=true↔_;simp)) (fun h9=>?_) (fun h9=>?_)
      ·exact absurd rfl h9
      refine ei _ (ai (fD) (ei (((c.trs.getD k ak).wh,(c.trs.getD k ak).wh)) (ei [] (ai (a4 (ai (fun _=>Or.inl rfl) (ai nof (Or.inl rfl)))) (ai (by exact (ai (ai (iE (by simp only[zz,reduceCtorEq])) (ai (iE (by simp only[zz,reduceCtorEq])) (ai rfl (fun _ _=>rfl)))) (ai (iE (by simp only[zz,reduceCtorEq])) (ai (iE (by simp only[zz,reduceCtorEq])) (ai rfl (fun _ _=>rfl)))))) (ai trivial (ai (trivial) ?_)))))))
      refine aF (p:=bO (c.trs.getD k ak).wh (c.trs.getD k ak).wh=true) (by (show (!bO (c.trs.getD k ak).wh (c.trs.getD k ak).wh)=true↔_;simp)) (fun h9=>?_) (fun h9=>?_)
      ·exact absurd he h9
      refine ei (k+1) (ai (ai rfl rfl) (ai (ai (ai rfl (ai (ai rfl rfl) (ai (ai rfl rfl) (ai (ai (ai (fun _=>rfl) (aN (by omega))) rfl) trivial)))) rfl) (ai (ai (iL (by omega)) trivial) (iM (by omega)))))
     refine ai ?_ ?_
     ·refine ei _ (ai (bF) (ei (((c.trs.getD k ak).fr,(c.trs.getD k ak).fr)) (ei [] (ai (a4 (ai (fun _=>Or.inl rfl) (ai nof (Or.inl rfl)))) (ai (by exact (ai (ai rfl (fun _ _=>rfl)) (ai rfl (fun _ _=>rfl)))) (ai trivial (ai (hm.1) ?_)))))))
      refine aF (p:=(c.trs.getD k ak).fr=(c.trs.getD k ak).fr) (by (show (!decide ((c.trs.getD k ak).fr=(c.trs.getD k ak).fr))=true↔_;simp)) (fun h9=>?_) (fun h9=>?_)
      ·exact absurd rfl h9
      refine ei _ (ai (bF) (ei (((c.trs.getD k ak).to,(c.trs.getD k ak).to)) (ei [] (ai (a4 (ai (fun _=>Or.inl rfl) (ai nof (Or.inl rfl)))) (ai (by exact (ai (ai rfl (fun _ _=>rfl)) (ai rfl (fun _ _=>rfl)))) (ai trivial (ai (hm.2.1) ?_)))))))
      refine aF (p:=(c.trs.getD k ak).to=(c.trs.getD k ak).to) (by (show (!decide ((c.trs.getD k ak).to=(c.trs.getD k ak).to))=true↔_;simp)) (fun h9=>?_) (fun h9=>?_)
      ·exact absurd rfl h9
      refine ei _ (ai (fD) (ei (((c.trs.getD k ak).wh,(c.trs.getD k ak).wh)) (ei [] (ai (a4 (ai (fun _=>Or.inl rfl) (ai nof (Or.inl rfl)))) (ai (by exact (ai (ai (iE (by simp only[zz,reduceCtorEq])) (ai (iE (by simp only[zz,reduceCtorEq])) (ai rfl (fun _ _=>rfl)))) (ai (iE (by simp only[zz,reduceCtorEq])) (ai (iE (by simp only[zz,reduceCtorEq])) (ai rfl (fun _ _=>rfl)))))) (ai trivial (ai (trivial) ?_)))))))
      refine aF (p:=bO (c.trs.getD k ak).wh (c.trs.getD k ak).wh=true) (by (show (!bO (c.trs.getD k ak).wh (c.trs.getD k ak).wh)=true↔_;simp)) (fun h9=>?_) (fun h9=>?_)
      ·exact absurd he h9
      refine ei (k+1) (ai (ai rfl rfl) (ai (ai (ai rfl (ai (ai rfl rfl) (ai (ai rfl rfl) (ai (ai (ai (fun _=>rfl) (aN (by omega))) rfl) trivial)))) rfl) (ai (ai (iL (by omega)) trivial) (iM (by omega)))))
     exact trivial
    refine ai ?_ ?_
    ·refine ai (ai (abJ _) (iN (n:=c.trs.length) (by omega))) (ai rfl ?_)
     refine ei _ (ai (bF) (ei (((c.trs.getD k ak).fr,(c.trs.getD k ak).fr)) (ei [] (ai (a4 (ai (fun _=>Or.inl rfl) (ai nof (Or.inl rfl)))) (ai (by exact (ai (ai rfl (fun _ _=>rfl)) (ai rfl (fun _ _=>rfl)))) (ai trivial (ai (hm.1) ?_)))))))
     refine aF (p:=(c.trs.getD k ak).fr=(c.trs.getD k ak).fr) (by (show (!decide ((c.trs.getD k ak).fr=(c.trs.getD k ak).fr))=true↔_;simp)) (fun h9=>?_) (fun h9=>?_)
     ·exact absurd rfl h9
     refine ei _ (ai (bF) (ei (((c.trs.getD k ak).to,(c.trs.getD k ak).to)) (ei [] (ai (a4 (ai (fun _=>Or.inl rfl) (ai nof (Or.inl rfl)))) (ai (by exact (ai (ai rfl (fun _ _=>rfl)) (ai rfl (fun _ _=>rfl)))) (ai trivial (ai (hm.2.1) ?_)))))))
     refine aF (p:=(c.trs.getD k ak).to=(c.trs.getD k ak).to) (by (show (!decide ((c.trs.getD k ak).to=(c.trs.getD k ak).to))=true↔_;simp)) (fun h9=>?_) (fun h9=>?_)
     ·exact absurd rfl h9
     refine ei _ (ai (fD) (ei (((c.trs.getD k ak).wh,(c.trs.getD k ak).wh)) (ei [] (ai (a4 (ai (fun _=>Or.inl rfl) (ai nof (Or.inl rfl)))) (ai (by exact (ai (ai (iE (by simp only[zz,reduceCtorEq])) (ai (iE (by simp only[zz,reduceCtorEq])) (ai rfl (fun _ _=>rfl)))) (ai (iE (by simp only[zz,reduceCtorEq])) (ai (iE (by simp only[zz,reduceCtorEq])) (ai rfl (fun _ _=>rfl)))))) (ai trivial (ai (trivial) ?_)))))))
     refine aF (p:=bO (c.trs.getD k ak).wh (c.trs.getD k ak).wh=true) (by (show (!bO (c.trs.getD k ak).wh (c.trs.getD k ak).wh)=true↔_;simp)) (fun h9=>?_) (fun h9=>?_)
     ·exact absurd he h9
     refine ei (k+1) (ai (ai rfl rfl) (ai (ai (ai rfl (ai (ai rfl rfl) (ai (ai rfl rfl) (ai (ai (ai (fun _=>rfl) (aN (by omega))) rfl) trivial)))) rfl) (ai (ai (iL (by omega)) trivial) (iM (by omega)))))
    exact trivial
   exact trivial
  refine ai ?_ ?_
  ·refine ai ?_ ?_
   ·refine ai (ai (abJ _) (iN (n:=c.trs.length) (by omega))) (ai rfl ?_)
    refine ai ?_ ?_
    ·refine ei _ (ai (bF) (ei (((c.trs.getD k ak).fr,(c.trs.getD k ak).fr)) (ei [] (ai (a4 (ai (fun _=>Or.inl rfl) (ai nof (Or.inl rfl)))) (ai (by exact (ai (ai rfl (fun _ _=>rfl)) (ai rfl (fun _ _=>rfl)))) (ai trivial (ai (hm.1) ?_)))))))
     refine aF (p:=(c.trs.getD k ak).fr=(c.trs.getD k ak).fr) (by (show (!decide ((c.trs.getD k ak).fr=(c.trs.getD k ak).fr))=true↔_;simp)) (fun h9=>?_) (fun h9=>?_)
     ·exact absurd rfl h9
     refine ei _ (ai (bF) (ei (((c.trs.getD k ak).to,(c.trs.getD k ak).to)) (ei [] (ai (a4 (ai (fun _=>Or.inl rfl) (ai nof (Or.inl rfl)))) (ai (by exact (ai (ai rfl (fun _ _=>rfl)) (ai rfl (fun _ _=>rfl)))) (ai trivial (ai (hm.2.1) ?_)))))))
     refine aF (p:=(c.trs.getD k ak).to=(c.trs.getD k ak).to) (by (show (!decide ((c.trs.getD k ak).to=(c.trs.getD k ak).to))=true↔_;simp)) (fun h9=>?_) (fun h9=>?_)
     ·exact absurd rfl h9
     refine ei _ (ai (fD) (ei (((c.trs.getD k ak).wh,(c.trs.getD k ak).wh)) (ei [] (ai (a4 (ai (fun _=>Or.inl rfl) (ai nof (Or.inl rfl)))) (ai (by exact (ai (ai (iE (by simp only[zz,reduceCtorEq])) (ai (iE (by simp only[zz,reduceCtorEq])) (ai rfl (fun _ _=>rfl)))) (ai (iE (by simp only[zz,reduceCtorEq])) (ai (iE (by simp only[zz,reduceCtorEq])) (ai rfl (fun _ _=>rfl)))))) (ai trivial (ai (trivial) ?_)))))))
     refine aF (p:=bO (c.trs.getD k ak).wh (c.trs.getD k ak).wh=true) (by (show (!bO (c.trs.getD k ak).wh (c.trs.getD k ak).wh)=true↔_;simp)) (fun h9=>?_) (fun h9=>?_)
     ·exact absurd he h9
     refine ei (k+1) (ai (ai rfl rfl) (ai (ai (ai rfl (ai (ai rfl rfl) (ai (ai rfl rfl) (ai (ai (ai (fun _=>rfl) (aN (by omega))) rfl) trivial)))) rfl) (ai (ai (iL (by omega)) trivial) (iM (by omega)))))
    refine ai ?_ ?_
    ·refine ai ?_ ?_
     ·refine ei _ (ai (bF) (ei (((c.trs.getD k ak).fr,(c.trs.getD k ak).fr)) (ei [] (ai (a4 (ai (fun _=>Or.inl rfl) (ai nof (Or.inl rfl)))) (ai (by exact (ai (ai rfl (fun _ _=>rfl)) (ai rfl (fun _ _=>rfl)))) (ai trivial (ai (hm.1) ?_)))))))
      refine aF (p:=(c.trs.getD k ak).fr=(c.trs.getD k ak).fr) (by (show (!decide ((c.trs.getD k ak).fr=(c.trs.getD k ak).fr))=true↔_;simp)) (fun h9=>?_) (fun h9=>?_)
      ·exact absurd rfl h9
      refine ei _ (ai (bF) (ei (((c.trs.getD k ak).to,(c.trs.getD k ak).to)) (ei [] (ai (a4 (ai (fun _=>Or.inl rfl) (ai nof (Or.inl rfl)))) (ai (by exact (ai (ai rfl (fun _ _=>rfl)) (ai rfl (fun _ _=>rfl)))) (ai trivial (ai (hm.2.1) ?_)))))))
      refine aF (p:=(c.trs.getD k ak).to=(c.trs.getD k ak).to) (by (show (!decide ((c.trs.getD k ak).to=(c.trs.getD k ak).to))=true↔_;simp)) (fun h9=>?_) (fun h9=>?_)
      ·exact absurd rfl h9
      refine ei _ (ai (fD) (ei (((c.trs.getD k ak).wh,(c.trs.getD k ak).wh)) (ei [] (ai (a4 (ai (fun _=>Or.inl rfl) (ai nof (Or.inl rfl)))) (ai (by exact (ai (ai (iE (by simp only[zz,reduceCtorEq])) (ai (iE (by simp only[zz,reduceCtorEq])) (ai rfl (fun _ _=>rfl)))) (ai (iE (by simp only[zz,reduceCtorEq])) (ai (iE (by simp only[zz,reduceCtorEq])) (ai rfl (fun _ _=>rfl)))))) (ai trivial (ai (trivial) ?_)))))))
      refine aF (p:=bO (c.trs.getD k ak).wh (c.trs.getD k ak).wh=true) (by (show (!bO (c.trs.getD k ak).wh (c.trs.getD k ak).wh)=true↔_;simp)) (fun h9=>?_) (fun h9=>?_)
      ·exact absurd he h9
      refine ei (k+1) (ai (ai rfl rfl) (ai (ai (ai rfl (ai (ai rfl rfl) (ai (ai rfl rfl) (ai (ai (ai (fun _=>rfl) (aN (by omega))) rfl) trivial)))) rfl) (ai (ai (iL (by omega)) trivial) (iM (by omega)))))
     refine ai ?_ ?_
     ·refine ei _ (ai (bF) (ei (((c.trs.getD k ak).fr,(c.trs.getD k ak).fr)) (ei [] (ai (a4 (ai (fun _=>Or.inl rfl) (ai nof (Or.inl rfl)))) (ai (by exact (ai (ai rfl (fun _ _=>rfl)) (ai rfl (fun _ _=>rfl)))) (ai trivial (ai (hm.1) ?_)))))))
      refine aF (p:=(c.trs.getD k ak).fr=(c.trs.getD k ak).fr) (by (show (!decide ((c.trs.getD k ak).fr=(c.trs.getD k ak).fr))=true↔_;simp)) (fun h9=>?_) (fun h9=>?_)
      ·exact absurd rfl h9
      refine ei _ (ai (bF) (ei (((c.trs.getD k ak).to,(c.trs.getD k ak).to)) (ei [] (ai (a4 (ai (fun _=>Or.inl rfl) (ai nof (Or.inl rfl)))) (ai (by exact (ai (ai rfl (fun _ _=>rfl)) (ai rfl (fun _ _=>rfl)))) (ai trivial (ai (hm.2.1) ?_)))))))
      refine aF (p:=(c.trs.getD k ak).to=(c.trs.getD k ak).to) (by (show (!decide ((c.trs.getD k ak).to=(c.trs.getD k ak).to))=true↔_;simp)) (fun h9=>?_) (fun h9=>?_)
      ·exact absurd rfl h9
      refine ei _ (ai (fD) (ei (((c.trs.getD k ak).wh,(c.trs.getD k ak).wh)) (ei [] (ai (a4 (ai (fun _=>Or.inl rfl) (ai nof (Or.inl rfl)))) (ai (by exact (ai (ai (iE (by simp only[zz,reduceCtorEq])) (ai (iE (by simp only[zz,reduceCtorEq])) (ai rfl (fun _ _=>rfl)))) (ai (iE (by simp only[zz,reduceCtorEq])) (ai (iE (by simp only[zz,reduceCtorEq])) (ai rfl (fun _ _=>rfl)))))) (ai trivial (ai (trivial) ?_)))))))
      refine aF (p:=bO (c.trs.getD k ak).wh (c.trs.getD k ak).wh=true) (by (show (!bO (c.trs.getD k ak).wh (c.trs.getD k ak).wh)=true↔_;simp)) (fun h9=>?_) (fun h9=>?_)
      ·exact absurd he h9
      refine ei (k+1) (ai (ai rfl rfl) (ai (ai (ai rfl (ai (ai rfl rfl) (ai (ai rfl rfl) (ai (ai (ai (fun _=>rfl) (aN (by omega))) rfl) trivial)))) rfl) (ai (ai (iL (by omega)) trivial) (iM (by omega)))))
     exact trivial
    exact trivial
   refine ai ?_ ?_
   ·refine ai ?_ ?_
    ·refine ai (ai (abJ _) (iN (n:=c.trs.length) (by omega))) (ai rfl ?_)
     refine ai ?_ ?_
     ·refine ei _ (ai (bF) (ei (((c.trs.getD k ak).fr,(c.trs.getD k ak).fr)) (ei [] (ai (a4 (ai (fun _=>Or.inl rfl) (ai nof (Or.inl rfl)))) (ai (by exact (ai (ai rfl (fun _ _=>rfl)) (ai rfl (fun _ _=>rfl)))) (ai trivial (ai (hm.1) ?_)))))))
      refine aF (p:=(c.trs.getD k ak).fr=(c.trs.getD k ak).fr) (by (show (!decide ((c.trs.getD k ak).fr=(c.trs.getD k ak).fr))=true↔_;simp)) (fun h9=>?_) (fun h9=>?_)
      ·exact absurd rfl h9
      refine ei _ (ai (bF) (ei (((c.trs.getD k ak).to,(c.trs.getD k ak).to)) (ei [] (ai (a4 (ai (fun _=>Or.inl rfl) (ai nof (Or.inl rfl)))) (ai (by exact (ai (ai rfl (fun _ _=>rfl)) (ai rfl (fun _ _=>rfl)))) (ai trivial (ai (hm.2.1) ?_)))))))
      refine aF (p:=(c.trs.getD k ak).to=(c.trs.getD k ak).to) (by (show (!decide ((c.trs.getD k ak).to=(c.trs.getD k ak).to))=true↔_;simp)) (fun h9=>?_) (fun h9=>?_)
      ·exact absurd rfl h9
      refine ei _ (ai (fD) (ei (((c.trs.getD k ak).wh,(c.trs.getD k ak).wh)) (ei [] (ai (a4 (ai (fun _=>Or.inl rfl) (ai nof (Or.inl rfl)))) (ai (by exact (ai (ai (iE (by simp only[zz,reduceCtorEq])) (ai (iE (by simp only[zz,reduceCtorEq])) (ai rfl (fun _ _=>rfl)))) (ai (iE (by simp only[zz,reduceCtorEq])) (ai (iE (by simp only[zz,reduceCtorEq])) (ai rfl (fun _ _=>rfl)))))) (ai trivial (ai (trivial) ?_)))))))
      refine aF (p:=bO (c.trs.getD k ak).wh (c.trs.getD k ak).wh=true) (by (show (!bO (c.trs.getD k ak).wh (c.trs.getD k ak).wh)=true↔_;simp)) (fun h9=>?_) (fun h9=>?_)
      ·exact absurd he h9
      refine ei (k+1) (ai (ai rfl rfl) (ai (ai (ai rfl (ai (ai rfl rfl) (ai (ai rfl rfl) (ai (ai (ai (fun _=>rfl) (aN (by omega))) rfl) trivial)))) rfl) (ai (ai (iL (by omega)) trivial) (iM (by omega)))))
     refine ai ?_ ?_
     ·refine ei _ (ai (bF) (ei (((c.trs.getD k ak).fr,(c.trs.getD k ak).fr)) (ei [] (ai (a4 (ai (fun _=>Or.inl rfl) (ai nof (Or.inl rfl)))) (ai (by exact (ai (ai rfl (fun _ _=>rfl)) (ai rfl (fun _ _=>rfl)))) (ai trivial (ai (hm.1) ?_)))))))
      refine aF (p:=(c.trs.getD k ak).fr=(c.trs.getD k ak).fr) (by (show (!decide ((c.trs.getD k ak).fr=(c.trs.getD k ak).fr))=true↔_;simp)) (fun h9=>?_) (fun h9=>?_)
      ·exact absurd rfl h9
      refine ei _ (ai (bF) (ei (((c.trs.getD k ak).to,(c.trs.getD k ak).to)) (ei [] (ai (a4 (ai (fun _=>Or.inl rfl) (ai nof (Or.inl rfl)))) (ai (by exact (ai (ai rfl (fun _ _=>rfl)) (ai rfl (fun _ _=>rfl)))) (ai trivial (ai (hm.2.1) ?_)))))))
      refine aF (p:=(c.trs.getD k ak).to=(c.trs.getD k ak).to) (by (show (!decide ((c.trs.getD k ak).to=(c.trs.getD k ak).to))=true↔_;simp)) (fun h9=>?_) (fun h9=>?_)
      ·exact absurd rfl h9
      refine ei _ (ai (fD) (ei (((c.trs.getD k ak).wh,(c.trs.getD k ak).wh)) (ei [] (ai (a4 (ai (fun _=>Or.inl rfl) (ai nof (Or.inl rfl)))) (ai (by exact (ai (ai (iE (by simp only[zz,reduceCtorEq])) (ai (iE (by simp only[zz,reduceCtorEq])) (ai rfl (fun _ _=>rfl)))) (ai (iE (by simp only[zz,reduceCtorEq])) (ai (iE (by simp only[zz,reduceCtorEq])) (ai rfl (fun _ _=>rfl)))))) (ai trivial (ai (trivial) ?_)))))))
      refine aF (p:=bO (c.trs.getD k ak).wh (c.trs.getD k ak).wh=true) (by (show (!bO (c.trs.getD k ak).wh (c.trs.getD k ak).wh)=true↔_;simp)) (fun h9=>?_) (fun h9=>?_)
      ·exact absurd he h9
      refine ei (k+1) (ai (ai rfl rfl) (ai (ai (ai rfl (ai (ai rfl rfl) (ai (ai rfl rfl) (ai (ai (ai (fun _=>rfl) (aN (by omega))) rfl) trivial)))) rfl) (ai (ai (iL (by omega)) trivial) (iM (by omega)))))
     exact trivial
    refine ai ?_ ?_
    ·refine ai (ai (abJ _) (iN (n:=c.trs.length) (by omega))) (ai rfl ?_)
     refine ei _ (ai (bF) (ei (((c.trs.getD k ak).fr,(c.trs.getD k ak).fr)) (ei [] (ai (a4 (ai (fun _=>Or.inl rfl) (ai nof (Or.inl rfl)))) (ai (by exact (ai (ai rfl (fun _ _=>rfl)) (ai rfl (fun _ _=>rfl)))) (ai trivial (ai (hm.1) ?_)))))))
     refine aF (p:=(c.trs.getD k ak).fr=(c.trs.getD k ak).fr) (by (show (!decide ((c.trs.getD k ak).fr=(c.trs.getD k ak).fr))=true↔_;simp)) (fun h9=>?_) (fun h9=>?_)
     ·exact absurd rfl h9
     refine ei _ (ai (bF) (ei (((c.trs.getD k ak).to,(c.trs.getD k ak).to)) (ei [] (ai (a4 (ai (fun _=>Or.inl rfl) (ai nof (Or.inl rfl)))) (ai (by exact (ai (ai rfl (fun _ _=>rfl)) (ai rfl (fun _ _=>rfl)))) (ai trivial (ai (hm.2.1) ?_)))))))
     refine aF (p:=(c.trs.getD k ak).to=(c.trs.getD k ak).to) (by (show (!decide ((c.trs.getD k ak).to=(c.trs.getD k ak).to))=true↔_;simp)) (fun h9=>?_) (fun h9=>?_)
     ·exact absurd rfl h9
     refine ei _ (ai (fD) (ei (((c.trs.getD k ak).wh,(c.trs.getD k ak).wh)) (ei [] (ai (a4 (ai (fun _=>Or.inl rfl) (ai nof (Or.inl rfl)))) (ai (by exact (ai (ai (iE (by simp only[zz,reduceCtorEq])) (ai (iE (by simp only[zz,reduceCtorEq])) (ai rfl (fun _ _=>rfl)))) (ai (iE (by simp only[zz,reduceCtorEq])) (ai (iE (by simp only[zz,reduceCtorEq])) (ai rfl (fun _ _=>rfl)))))) (ai trivial (ai (trivial) ?_)))))))
     refine aF (p:=bO (c.trs.getD k ak).wh (c.trs.getD k ak).wh=true) (by (show (!bO (c.trs.getD k ak).wh (c.trs.getD k ak).wh)=true↔_;simp)) (fun h9=>?_) (fun h9=>?_)
     ·exact absurd he h9
     refine ei (k+1) (ai (ai rfl rfl) (ai (ai (ai rfl (ai (ai rfl rfl) (ai (ai rfl rfl) (ai (ai (ai (fun _=>rfl) (aN (by omega))) rfl) trivial)))) rfl) (ai (ai (iL (by omega)) trivial) (iM (by omega)))))
    exact trivial
   exact trivial
  exact trivial
 obtain rfl:k=c.trs.length:=by omega
 refine ai (ai (fun _=>trivial) ?_) trivial
 exact rfl
def p10:Array Value:=(Lib.pow10Tab.map fun z=>Value.int .u64 z).toArray
def glP:List (Nat×Array Value):=[(0,p10)]
def fnG {α:Type} (args:α→List SV) (pre:α→Prop) (res:α→PV):Spec:={ A:=α,args:=args,objs:=fun _=>[],pre:=pre,res:=res,objs':=fun _=>[],fresh:=true,ro:=0,gl:=glP }
theorem aqE {w:World} (h:∀p∈glP,∃T fr,w.heap[p.1]?=some (.cells p.2 T fr)):Lib.TabIs Tryz.prog w "internal/strconv.uint64pow10" .u64 Lib.pow10Tab:=by
 obtain ⟨T,fr,hw⟩:=h _ (agL.2 rfl)
 have hg:Tryz.prog.globalNamed "internal/strconv.uint64pow10"=some 0:=by kernel_rfl
 show World.var? _ w _=_
 unfold World.var?
 rw[hg]
 show (match w.heap[0]? with | some (.cells cs _ _)=>some cs | _=>none)=_
 rw[show w.heap[0]?=some (.cells p10 T fr) from hw]
 rfl
theorem afF:aM Tryz.prog 79 (fnG (fun n:Nat=>[iA n]) (fun n=>n≤1000000) (fun n=>sP (dec n))):=
 ahn (gl:=glP) Tryz.func79 rfl rfl (vals:=fun n:Nat=>[.int .i64 n]) (pre:=fun n=>n≤1000000) (ret:=fun n=>.string (strOf (dec n))) (fun _ _=>rfl) fun n hn w h=>by
  refine (Tryz.strconv_Itoa n (by omega) (by have:n≤1000000:=hn;omega) w (aqE h)).mono fun e w' hh=>?_
  obtain ⟨h1,k,os,rfl⟩:=hh
  refine ⟨?_,?_⟩
  ·rw[h1]
   have:Lib.itoa (n:Int)=dec n:=by unfold Lib.itoa;rw[if_neg (by omega)];rfl
   rw[this];rfl
  ·exact ⟨rfl,rfl,rfl,by simp[Sort.grow],fun k hk=>by rw[Sort.heap_grow_old _ _ (by exact hk)];rfl⟩
def mX (x:Sk):List UInt8:=[UInt8.ofNat (65+x.1.toNat),if x.2 then 43 else 45]
theorem aiD:aM Tryz.prog 138 (bM (fun x:Sk=>[skA x]) (fun x=>0≤x.1∧x.1<6) (fun x=>sP (mX x))):=by
 refine aW (Tb:=tab) mixed aB Tryz.func138 rfl rfl ?_
 rintro ⟨n,b⟩ hpre
 refine ai (ai rfl (ai rfl rfl)) ?_
 obtain ⟨h0,h6⟩:=hpre
 have h0:0≤n:=h0
 have h6:n<6:=h6
 obtain ⟨d,rfl⟩:∃d:Nat,n=(d:Int):=⟨n.toNat,by omega⟩
 have hv:IntKind.i32.wrap (IntKind.i64.wrap (65+(d:Int)))=((65+d:Nat):Int):=by
  rw[tJ (n:=65+(d:Int)) (by omega) (by omega)]
  simp[IntKind.wrap,IntKind.bits,IntKind.signed]<;>omega
 refine ai (by show 0≤IntKind.i32.wrap (IntKind.i64.wrap (65+(d:Int)))∧IntKind.i32.wrap (IntKind.i64.wrap (65+(d:Int)))<128;rw[hv];omega) ?_
 have hx:(⟨#[UInt8.ofNat (IntKind.i32.wrap (IntKind.i64.wrap (65+(d:Int)))).toNat]⟩:ByteArray)=strOf [UInt8.ofNat (65+d)]:=by rw[hv];rfl
 have hxs:(((((⟨#[UInt8.ofNat (IntKind.i32.wrap (IntKind.i64.wrap (65+(d:Int)))).toNat]⟩:ByteArray)).size+1:Nat)):Int)≤9223372036854775807:=by rw[hx,eu];show ((1+1:Nat):Int)≤_;decide
 refine bE (b:=b) rfl (fun h=>?_) (fun h=>?_)
 ·refine ai hxs ?_
  refine ai (ai (fun _=>trivial) ?_) trivial
  show aC _ (sP (mX ((d:Int),b)))
  rw[show mX ((d:Int),b)=[UInt8.ofNat (65+d)]++[43] by unfold mX;rw[h];rfl,show sP ([UInt8.ofNat (65+d)]++[43])=.val (.string ((⟨#[UInt8.ofNat (IntKind.i32.wrap (IntKind.i64.wrap (65+(d:Int)))).toNat]⟩:ByteArray)++strOf [43])) by rw[hx,dU];rfl]
  exact rfl
 ·refine ai hxs ?_
  refine ai (ai (fun _=>trivial) ?_) trivial
  show aC _ (sP (mX ((d:Int),b)))
  rw[show mX ((d:Int),b)=[UInt8.ofNat (65+d)]++[45] by unfold mX;rw[h];rfl,show sP ([UInt8.ofNat (65+d)]++[45])=.val (.string ((⟨#[UInt8.ofNat (IntKind.i32.wrap (IntKind.i64.wrap (65+(d:Int)))).toNat]⟩:ByteArray)++strOf [45])) by rw[hx,dU];rfl]
  exact rfl
def adv (x:Sk):Int:=if 0≤x.1∧x.1<6 then 0 else 2
theorem an2:aM Tryz.prog 137 (bM (fun x:Sk=>[skA x]) (fun _=>True) (fun x=>iP (adv x))):=by
 refine aW (Tb:=tab) mixed aB Tryz.func137 rfl rfl ?_
 rintro (x:Sk) hpre
 refine ai (ai rfl (ai rfl rfl)) ?_
 refine ei _ (ai (adS) (ei (x.1) (ei [] (ai (a4 (ai (fun _=>Or.inl rfl) (ai nof (Or.inl rfl)))) (ai (by exact rfl) (ai trivial (ai (trivial) ?_)))))))
 refine bE (b:=!(decide (0≤x.1)&&decide (x.1<6))) rfl (fun h=>?_) (fun h=>?_)
 ·have h:¬(0≤x.1∧x.1<6):=fun e=>by rw[decide_eq_true e.1,decide_eq_true e.2] at h;cases h
  refine ai (ai (fun _=>trivial) ?_) trivial
  show aC _ (iP (adv x))
  rw[adv,if_neg h]
  exact rfl
 ·have h:0≤x.1∧x.1<6:=by
   have h:(decide (0≤x.1)&&decide (x.1<6))=true:=by simpa using h
   rw[afd] at h
   exact ⟨of_decide_eq_true h.1,of_decide_eq_true h.2⟩
  refine ai (ai (fun _=>trivial) ?_) trivial
  show aC _ (iP (adv x))
  rw[adv,if_pos h]
  exact rfl
theorem agb:aM Tryz.prog 80 (iq (fun x:Sk=>[skA x]) (fun x=>0≤x.1∧x.1<6) (fun x=>.tup [sP (mX x),iP 0])):=by
 refine aW (Tb:=tab) mixed aB Tryz.func80 rfl rfl ?_
 rintro (x:Sk) hpre
 refine ai (ai rfl (ai rfl rfl)) ?_
 obtain ⟨h0,h6⟩:=hpre
 have h0:0≤x.1:=h0
 have h6:x.1<6:=h6
 refine ei _ (ai (an2) (ei (x) (ei [] (ai (a4 (ai (fun _=>Or.inl rfl) (ai nof (Or.inl rfl)))) (ai (by exact (ai rfl rfl)) (ai trivial (ai (trivial) ?_)))))))
 refine aF (p:=adv x=0) (bZ (by omega)) (fun h=>?_) (fun h=>?_)
 ·exact absurd (if_pos ⟨h0,h6⟩) h
 refine ei _ (ai (aiD) (ei (x) (ei [] (ai (a4 (ai (fun _=>Or.inl rfl) (ai nof (Or.inl rfl)))) (ai (by exact (ai rfl rfl)) (ai trivial (ai (⟨h0,h6⟩) ?_)))))))
 refine ai (ai (fun _=>(by exact (ai trivial trivial))) ?_) trivial
 exact (ai rfl rfl)
def spI (l:List Int):List UInt8:=l.flatMap fun x=>dec x.toNat++[32]
theorem vo {n:Nat} (h:n<100):(dec n).length≤2:=by
 have:∀n:Fin 100,(Lib.decDigits n.1).length≤2:=by decide +kernel
 exact this ⟨n,h⟩
theorem anP {l:List Int} (h:iT 100 l):(spI l).length≤3*l.length:=by
 induction l with
 | nil=>simp[spI]
 | cons x l ih=>
  have h1:0≤x∧x<100:=h x (by simp)
  have h2:=ih fun y hy=>h y (by simp[hy])
  have h3:=vo (n:=x.toNat) (by omega)
  show ((dec x.toNat++[32])++spI l).length≤_
  simp only[aac,ah6,amE];omega
theorem aL {μ:Nat→Option (Array Value)} {u v:Value} (h:aO μ u (.val v)):u=v:=by cases h;rfl
def anN (a:List (List UInt8)×List UInt8):Prop:=a.1.length≤1000000∧(Lib.join a.1 a.2).length≤140737488355328
theorem ank:aM Tryz.prog 143 (bM (fun a:List (List UInt8)×List UInt8=>[ssA a.1,sA a.2]) anN (fun a=>sP (Lib.join a.1 a.2))):=by
 refine ⟨⟨_,Tryz.func143,rfl,rfl⟩,fun a hpre E vs w _ hh hA=>?_⟩
 obtain ⟨l,sep⟩:=a
 obtain ⟨hll,hpre⟩:=hpre
 have hll:l.length≤1000000:=hll
 have hpre:(Lib.join l sep).length≤140737488355328:=hpre
 obtain ⟨hsz,hA⟩:=hA
 have hsz:vs.size=2:=hsz
 have hp:∀{u:Value} {d:PV},aK E u (.p false d)→aO (E.m false) u d:=fun hx=>by cases hx with | p _ _ _ hp=>exact hp
 have h0:aO (E.m false) (vs[0]'(by omega)) (xM l):=hp (hA 0 _ _ (acI (by omega)) rfl)
 have h1:vs[1]'(by omega)=.string (strOf sep):=aL (hp (hA 1 _ (sA sep) (acI (by omega)) rfl))
 have hvs:vs=#[vs[0]'(by omega),.string (strOf sep)]:=by
  apply arA
  intro k
  match k with
  | 0=>rw[acI (by omega)];rfl
  | 1=>rw[acI (by omega),h1];rfl
  | k+2=>rw[akD (by omega)];simp
 generalize hv0:vs[0]'(by omega)=v0 at *
 clear h1 hv0 hA
 subst hvs
 have key:∀{n:Nat} {f:Nat→List PV},aO (E.m false) v0 (.seq n f)→n=l.length→f=(fun k=>[sP (l.getD k [])])→Calls Tryz.prog 143 #[v0,.string (strOf sep)] w fun e w'=>e=.returned (.string (strOf (Lib.join l sep)))∧Go.RowKit.Below w.heap.size w w':=by
  intro n f h hn hf
  cases h with
  | nil=>
   obtain rfl:l=[]:=amY.1 hn.symm
   exact (Tryz.strings_Join_none none 0 (strOf sep) w).mono fun e w' ⟨h1,h2⟩=>by subst h2;exact ⟨h1,RowKit.Below.refl _ _⟩
  | emp a c=>
   obtain rfl:l=[]:=amY.1 hn.symm
   exact (Tryz.strings_Join_none (some a) c (strOf sep) w).mono fun e w' ⟨h1,h2⟩=>by subst h2;exact ⟨h1,RowKit.Below.refl _ _⟩
  | seq b o _ cap sz _ cs u hm hcap hmax hl hc he=>
   subst hn;subst hf
   obtain ⟨T,fr,hw⟩:=hh.mem _ _ hm
   have hcell:∀(j:Nat) x,(l.map strOf)[j]?=some x→w.cell? ⟨b,o+j,none⟩=some (.string x):=by
    intro j x hx
    rw[ahO] at hx
    obtain ⟨y,hy,rfl⟩:=aq4.1 hx
    have hj:j<l.length:=(abZ.1 hy).1
    have hg:l.getD j []=y:=by rw[aaM,hy];rfl
    have hs1:1=sz:=hl j hj
    subst hs1
    have h2:=hc j 0 (sP (l.getD j [])) hj rfl
    have h3:=aL (he j 0 (sP (l.getD j [])) hj rfl)
    rw[h3,hg] at h2
    have h4:=h2.1
    rw[amR,aqo] at h4
    simp[World.cell?,hw,h4]
   have e:(l.map strOf).map (·.data.toList)=l:=by
    rw[List.map_map]
    exact (List.map_congr_left fun x _=>rfl).trans (List.map_id l)
   have hb:b<w.heap.size:=by
    rcases apc b w.heap.size with h | h
    ·exact h
    ·rw[akD h] at hw;cases hw
   have:=Tryz.strings_Join b o cap (l.map strOf) (strOf sep) w hcell hb (by rw[akn];omega) (by rw[akn];exact hcap) (by rw[e];exact hpre)
   rw[akn,e] at this
   exact this.mono fun e w' ⟨h1,h2⟩=>⟨h1,h2⟩
 exact (key h0 rfl rfl).mono fun e w' ⟨he,hw⟩=>⟨_,E,he,.val _,hh.below hw⟩
def lH (l:List Int):List (List UInt8):=l.map fun x=>dec x.toNat
def inT (l:List Int):List UInt8:=Lib.join (lH l) [32]
theorem ah3:∀{l:List Int},l≠[]→spI l=inT l++[32]
 | [],h=>absurd rfl h
 | [x],_=>by show (dec x.toNat++[32])++[]=_;simp[inT,lH,Lib.join]
 | x :: y :: l,_=>by
  have:=ah3 (l:=y :: l) (by simp)
  show (dec x.toNat++[32])++spI (y :: l)=_
  rw[this]
  simp[inT,lH,Lib.join,List.intercalate_cons_cons]
theorem adK {l:List Int} (h:iT 100 l):(inT l).length≤3*l.length:=by
 by_cases hl:l=[]
 ·subst hl;simp[inT,lH,Lib.join]
 ·have:=anP h
  rw[ah3 hl,aac] at this;omega
theorem ac6:aM Tryz.prog 83 (bM (fun l:List Int=>[isA l]) (fun l=>iT 100 l∧l.length≤1000) (fun l=>sP (inT l))):=by
 refine aW (Tb:=tab) mixed aB Tryz.func83 rfl rfl ?_
 rintro (l:List Int) hpre
 refine ai (ai rfl (ai rfl rfl)) ?_
 obtain ⟨hx,hl⟩:=hpre
 have hx:iT 100 l:=hx
 have hl:l.length≤1000:=hl
 refine ei (bI.inv { X:=Nat,up:=fun k=>[(8,.s (iA k)),(3,ssR (lH (l.take k)))],uo:=fun k=>[],inv:=fun k=>k≤l.length∧(True),meas:=fun k=>l.length-k,x0:=0 }) ?_
 refine ai (ai (ai (by exact (a4 (ai rfl rfl))) (ai (by exact (ai (ai (ai (fun _=>rfl) (iE (by simp only[zz,reduceCtorEq];rfl))) rfl) rfl)) (by exact trivial))) rfl) (ai (ai (aef _) ?_) ?_)
 ·trivial
 intro (k:Nat) ⟨hk,_⟩
 have hdl:(lH (l.take k)).length=k:=by unfold lH;rw[akn,ahR];omega
 refine ah (p:=k<l.length) (av (by omega)) (fun h1=>?_) (fun h1=>?_)
 ·refine ai (ai (abJ _) (iN (n:=l.length) (by omega))) (ai rfl ?_)
  have hk1:=vE hx h1
  obtain ⟨d,hd⟩:∃d:Nat,l.getD k 0=(d:Int):=⟨(l.getD k 0).toNat,by omega⟩
  have e:lH (l.take (k+1))=lH (l.take k)++[dec d]:=by rw[aX 0 h1];unfold lH;rw[aq2,hd];rfl
  refine ei _ (ai (wY) (ei (d) (ei [] (ai (a4 (ai (fun _=>Or.inl rfl) (ai nof (Or.inl rfl)))) (ai ?_ (ai (by exact trivial) (ai ((by show d<100;omega)) ?_)))))))
  ·exact (iE (by simp only[zz,reduceCtorEq];omega))
  refine ai (ae0 (by show (lH (l.take k)).length+1≤10000;omega)) (ai (aJ 1 rfl) ?_)
  refine ei (k+1) (ai (ai rfl rfl) (ai (ai (ai rfl (ai (ai rfl rfl) (ai (ai rfl rfl) (ai (ai (ai (ai (fun _=>rfl) (aN (by omega))) rfl) (ai rfl (ai rfl (ai ?_ ?_)))) trivial)))) rfl) (ai (ai (iL (by omega)) trivial) (iM (by omega)))))
  all_goals rw[e]
  ·rw[aac];rfl
  ·exact fun j hj=>aaG (a:=lH (l.take k)) (b:=[dec d]) (n:=(lH (l.take k)).length) (f:=fun k=>[sP ((lH (l.take _)).getD k [])]) rfl (fun _ _=>rfl) (ahW rfl) j (by rw[aac];exact hj)
 ·obtain rfl:k=l.length:=by omega
  have et:l.take l.length=l:=afz
  refine ei _ (ai (ank) (ei ((lH (l.take l.length),[32])) (ei [] (ai (ai rfl (ai rfl (ai rfl (ai rfl (ai (fun _=>Or.inl rfl) (ai (fun _=>ai rfl rfl) (Or.inl rfl))))))) (ai (by exact (ai (ai rfl (fun _ _=>rfl)) rfl)) (ai trivial (ai (⟨by show (lH (l.take l.length)).length≤1000000;omega,by show (Lib.join (lH (l.take l.length)) [32]).length≤140737488355328;rw[et];have:=adK hx;unfold inT at this;omega⟩) ?_)))))))
  refine ai (ai (fun _=>trivial) ?_) trivial
  show aC _ (sP (inT l))
  rw[show inT l=Lib.join (lH (l.take l.length)) [32] by rw[et];rfl]
  exact rfl
end Go.Sx.Pe
namespace Go.Sx.Pe
open Go Go.Proofs Go.RowKit Go.Sx.Pn
theorem cell_of {w:World} {b:Nat} {vs:Array Value} {T:TypeId} {off:Nat} {v:Value} (h:w.heap[b]?=some (.cells vs T (0,0))) (hv:vs[off]?=some v):w.cell? ⟨b,off,none⟩=some v:=by
 simp[World.cell?,h,hv]
theorem afr {w:World} {b:Nat} {vs:Array Value} {T:TypeId} (h:w.heap[b]?=some (.cells vs T (0,0))):w.shape? b=some (T,vs.size):=by
 simp[World.shape?,h]
theorem akE {w:World} {b off:Nat} {vs:Array Value} {T:TypeId} (h:w.heap[b]?=some (.cells vs T (0,0))):w.frozen? ⟨b,off,none⟩=false:=by
 simp[World.frozen?,h]
set_option maxRecDepth 100000 in
theorem aln (b:Nat) (w:World) (h0:w.cell? ⟨b,0,none⟩=some (.pointer (some ⟨b,0,none⟩))) :
  Calls Tryz.prog 135 #[.pointer (some ⟨b,0,none⟩)] w fun e w'=>e=.returned (.tuple #[])∧w'=w:=by
 obtain ⟨j,hj,_⟩:=aq4.1 (show (Tryz.prog.info? 143).map (·.size)=some 2 by kernel_rfl)
 go_enter Tryz.func135,Tryz.ntmps135
 go_wp2
 rw[Lib.run_neq_ptr_same w _ Tryz.underlying140 hj]
 go_wp2
 go_end0
 exact ⟨rfl,rfl⟩
set_option maxRecDepth 100000 in
theorem ajX (T n b:Nat) (hlies:liesAt Tryz.prog Tryz.prog.depth T (n / Tryz.prog.cellsOf T) 0 143 1=true) (hn:0<n) (w:World) (h0:w.cell? ⟨b,0,none⟩=some (.pointer none)) (hsh:w.shape? b=some (T,n)) (hfz:w.frozen? ⟨b,0,none⟩=false) :
  Calls Tryz.prog 135 #[.pointer (some ⟨b,0,none⟩)] w fun e w'=>e=.returned (.tuple #[])∧w'=w.setCell ⟨b,0,none⟩ (.pointer (some ⟨b,0,none⟩)):=by
 obtain ⟨j,hj,hjs⟩:=aq4.1 (show (Tryz.prog.info? 143).map (·.size)=some 2 by kernel_rfl)
 go_enter Tryz.func135,Tryz.ntmps135
 go_wp2
 rw[Lib.run_to_unsafe w ⟨b,0,none⟩ Tryz.underlying140 Tryz.underlying226 hj (by rw[hjs];decide) hsh hn]
 simp only[Result.andThen]
 rw[Oper.upon_value]
 go_wp2
 rw[run_callFunc_extern Tryz.func166 (by kernel_rfl) (by kernel_rfl) (by kernel_rfl) (e:=Extern.AbiNoEscape.same) (by kernel_rfl)]
 rw[Lib.run_noEscape]
 simp only[Result.andThen]
 rw[Oper.upon_value]
 go_wp2
 rw[Lib.run_from_unsafe w ⟨b,0,none⟩ Tryz.underlying226 Tryz.underlying140 hj hsh hlies]
 simp only[Result.andThen]
 rw[Oper.upon_value]
 go_wp2
 go_end0
 exact ⟨rfl,rfl⟩
theorem afj (T n:Nat) (hlies:liesAt Tryz.prog Tryz.prog.depth T (n / Tryz.prog.cellsOf T) 0 143 1=true) (hn:0<n):acL Tryz.prog 135 T n:=
 ⟨⟨_,Tryz.func135,rfl,rfl⟩,fun b vs w hw hs=>⟨fun h0=>ajX T n b hlies hn w (cell_of hw h0) (by rw[afr hw,hs]) (akE hw),fun h0=>aln b w (cell_of hw h0)⟩⟩
theorem aeS:acL Tryz.prog 135 143 2:=afj _ _ (by kernel_rfl) (by decide)
theorem amF:acL Tryz.prog 135 202 3:=afj _ _ (by kernel_rfl) (by decide)
set_option maxRecDepth 100000 in
theorem ah0 (T n:Nat):amQ Tryz.prog 84 T n 5:=by
 refine ⟨⟨_,Tryz.func84,rfl,rfl⟩,fun b vs w g cap cur l hw hs h1 hg hnc hcm hcs hcell h0=>?_⟩
 have hl0:l.length≠0:=by simpa using h0
 have c1:w.drew.cell? ⟨b,1,none⟩=some (.slice (some ⟨g,0,none⟩) l.length cap):=cell_of (w:=w.drew) hw h1
 have hSD:(Builtin.unsafeSliceData_ #[141] 206 #[.slice (some ⟨g,0,none⟩) l.length cap]).run Tryz.prog w.drew=.ok (.pointer (some ⟨g,0,none⟩)) w.drew:=
  Lib.run_unsafeSliceData_row _ _ _ _ _ _ (by omega)
 have hUS:(Builtin.unsafeString_ #[206,3] 9 #[.pointer (some ⟨g,0,none⟩),.int .i64 l.length]).run Tryz.prog w.drew=.ok (.string ⟨l.toArray⟩) (w.drew.freeze ⟨g,0,none⟩ l.length):=by
  refine Lib.run_unsafeString_row w.drew 206 3 9 5 Tryz.underlying206 (by kernel_rfl) g cur.size (afr (w:=w.drew) hg) l h0 (by omega) (by unfold maxLen at hcm;omega) ?_
  intro j x hx
  rw[Addr.add_lit]
  exact cell_of (w:=w.drew) hg (by rw[afY];exact hcell j x hx)
 have mixed:=mixed
 go_enter Tryz.func84,Tryz.ntmps84
 go_wp2
 go_region_o
 all_goals (go_wp2;go_ret;exact ⟨rfl,rfl⟩)
end Go.Sx.Pe
namespace Go.Sx.Pe
open Go Go.Proofs Go.Sx.Pn
def nH (l:List UInt8):Ob:=.row 5 1 l.length (fun k=>[cP (l.getD k 0)])
def apO:SV:=.p false (.val .nilIface)
theorem l7 {a b:List UInt8} {n:Nat} {f g:Nat→List PV} (hn:n=a.length) (hf:∀k,k<a.length→f k=[cP (a.getD k 0)]) (hg:∀k,k<b.length→g k=[cP (b.getD k 0)]):∀k,k<(a++b).length→bJ n f g k=[cP ((a++b).getD k 0)]:=by
 intro k hk
 subst hn
 unfold bJ
 by_cases h:k<a.length
 ·rw[if_pos h,hf k h,aaM,aaM,aed h]
 ·have hb:k-a.length<b.length:=by rw[aac] at hk;omega
  rw[if_neg h,hg _ hb,aaM,aaM,ae5 (by omega)]
theorem one_byte {c:UInt8}:∀k,k<[c].length→bf 1 [cP c] k=[cP ([c].getD k 0)]:=by
 intro k hk
 have hk:k<1:=hk
 obtain rfl:k=0:=by omega
 rfl
theorem tQ (l:List UInt8):∀k,jI (strOf l) k=[cP (l.getD k 0)]:=by
 intro k
 show [PV.val (.int .u8 ((strOf l).data.getD k 0).toNat)]=_
 have:(strOf l).data.getD k 0=l.getD k 0:=by
  show l.toArray.getD k 0=_
  simp[ad1]
 rw[this];rfl
theorem afv (l:List UInt8):(strOf l).size=l.length:=by
 show l.toArray.size=_
 simp
def adr:Bool→SV
 | true=>.own 0 0
 | false=>.p false (.val (.pointer none))
def bld (T:Nat) (rest:List SV) (st:Bool:=true):Ob:=.cells T (adr st :: .row 1 :: rest)
abbrev NM := List (List UInt8)
def wbG (T:Nat) (rest:NM→List SV):qb:={ A:=Bool×NM×List UInt8×UInt8,fix:=1,args:=fun a=>[.own 0 0,cA a.2.2.2],objs:=fun a=>[bld T (rest a.2.1) a.1,nH a.2.2.1],pre:=fun a=>a.2.2.1.length≤1000000,res:=fun _=>apO,objs':=fun a=>[bld T (rest a.2.1),nH (a.2.2.1++[a.2.2.2])],inl:=[135] }
def wsG (T:Nat) (rest:NM→List SV):qb:={ A:=Bool×NM×List UInt8×List UInt8,fix:=1,args:=fun a=>[.own 0 0,sA a.2.2.2],objs:=fun a=>[bld T (rest a.2.1) a.1,nH a.2.2.1],pre:=fun a=>a.2.2.1.length≤1000000∧a.2.2.2.length≤1000000,res:=fun a=>.tup [iA a.2.2.2.length,apO],objs':=fun a=>[bld T (rest a.2.1),nH (a.2.2.1++a.2.2.2)],inl:=[135] }
def noR:NM→List SV:=fun _=>[]
def nmR:NM→List SV:=fun l=>[ssA l]
theorem rX:jy Tryz.prog 78 (wsG 143 noR):=by
 refine nZ (Tb:=tab) mixed aB Tryz.func78 rfl rfl ?_
 rintro ⟨st,a⟩ hpre
 refine ai (ai rfl (ai rfl rfl)) ?_
 have hl:a.2.1.length≤1000000:=hpre.1
 have hl2:a.2.2.length≤1000000:=hpre.2
 have hz:=afv a.2.2
 cases st with
 | true=>
  refine rM aeS rfl rfl rfl (.inl rfl) ?_
  refine ai (ai (ai rfl rfl) (ai (by show a.2.1.length+_≤_;rw[hz];unfold maxLen;omega) (by show a.2.1.length+_≤_;rw[hz];omega))) ?_
  refine ei [0,2] (ai (ai rfl (ai rfl rfl)) (ai ?_ ?_))
  ·exact (ai (iE (by simp only[zz,reduceCtorEq];rfl)) rfl)
  ·refine (ai (ai rfl (ai (ai rfl rfl) rfl)) (ai rfl (ai rfl (ai ?_ ?_))))
   ·show a.2.1.length+(strOf a.2.2).size=(a.2.1++a.2.2).length
    rw[hz,aac]
   ·exact l7 rfl (fun _ _=>rfl) (fun k _=>tQ _ k)
 | false=>
  refine rM aeS rfl rfl rfl (.inr ⟨_,rfl⟩) ?_
  refine ai (ai (ai rfl rfl) (ai (by show a.2.1.length+_≤_;rw[hz];unfold maxLen;omega) (by show a.2.1.length+_≤_;rw[hz];omega))) ?_
  refine ei [0,2] (ai (ai rfl (ai rfl rfl)) (ai ?_ ?_))
  ·exact (ai (iE (by simp only[zz,reduceCtorEq];rfl)) rfl)
  ·refine (ai (ai rfl (ai (ai rfl rfl) rfl)) (ai rfl (ai rfl (ai ?_ ?_))))
   ·show a.2.1.length+(strOf a.2.2).size=(a.2.1++a.2.2).length
    rw[hz,aac]
   ·exact l7 rfl (fun _ _=>rfl) (fun k _=>tQ _ k)
theorem agq:jy Tryz.prog 78 (wsG 202 nmR):=by
 refine nZ (Tb:=tab) mixed aB Tryz.func78 rfl rfl ?_
 rintro ⟨st,a⟩ hpre
 refine ai (ai rfl (ai rfl rfl)) ?_
 have hl:a.2.1.length≤1000000:=hpre.1
 have hl2:a.2.2.length≤1000000:=hpre.2
 have hz:=afv a.2.2
 cases st with
 | true=>
  refine rM amF rfl rfl rfl (.inl rfl) ?_
  refine ai (ai (ai rfl rfl) (ai (by show a.2.1.length+_≤_;rw[hz];unfold maxLen;omega) (by show a.2.1.length+_≤_;rw[hz];omega))) ?_
  refine ei [0,2] (ai (ai rfl (ai rfl rfl)) (ai ?_ ?_))
  ·exact (ai (iE (by simp only[zz,reduceCtorEq];rfl)) rfl)
  ·refine (ai (ai rfl (ai (ai rfl rfl) (ai rfl (ai rfl (fun _ _=>rfl))))) (ai rfl (ai rfl (ai ?_ ?_))))
   ·show a.2.1.length+(strOf a.2.2).size=(a.2.1++a.2.2).length
    rw[hz,aac]
   ·exact l7 rfl (fun _ _=>rfl) (fun k _=>tQ _ k)
 | false=>
  refine rM amF rfl rfl rfl (.inr ⟨_,rfl⟩) ?_
  refine ai (ai (ai rfl rfl) (ai (by show a.2.1.length+_≤_;rw[hz];unfold maxLen;omega) (by show a.2.1.length+_≤_;rw[hz];omega))) ?_
  refine ei [0,2] (ai (ai rfl (ai rfl rfl)) (ai ?_ ?_))
  ·exact (ai (iE (by simp only[zz,reduceCtorEq];rfl)) rfl)
  ·refine (ai (ai rfl (ai (ai rfl rfl) (ai rfl (ai rfl (fun _ _=>rfl))))) (ai rfl (ai rfl (ai ?_ ?_))))
   ·show a.2.1.length+(strOf a.2.2).size=(a.2.1++a.2.2).length
    rw[hz,aac]
   ·exact l7 rfl (fun _ _=>rfl) (fun k _=>tQ _ k)
def aqN (T:Nat) (rest:NM→List SV):qb:={ A:=NM×List UInt8,fix:=1,args:=fun a=>[.own 0 0],objs:=fun a=>[bld T (rest a.1),nH a.2],pre:=fun a=>True,res:=fun a=>iA a.2.length,objs':=fun a=>[bld T (rest a.1),nH a.2] }
theorem aoj:jy Tryz.prog 142 (aqN 202 nmR):=by
 refine nZ (Tb:=tab) mixed aB Tryz.func142 rfl rfl ?_
 rintro (a:NM×List UInt8) hpre
 refine ai (ai rfl (ai rfl rfl)) ?_
 refine ei [0,1] (ai (ai rfl (ai rfl rfl)) (ai ?_ ?_))
 ·exact rfl
 ·exact (ai (ai rfl (ai (ai rfl rfl) (ai rfl (ai rfl (fun _ _=>rfl))))) (ai rfl (ai rfl (ai rfl (fun _ _=>rfl)))))
theorem acE:jy Tryz.prog 81 (wbG 143 noR):=by
 refine nZ (Tb:=tab) mixed aB Tryz.func81 rfl rfl ?_
 rintro ⟨st,a⟩ hpre
 refine ai (ai rfl (ai rfl rfl)) ?_
 have hl:a.2.1.length≤1000000:=hpre
 cases st with
 | true=>
  refine rM aeS rfl rfl rfl (.inl rfl) ?_
  refine ai (mxL (n:=a.2.1.length+1) (by omega) (by decide)) ?_
  refine ai (lt1 rfl) ?_
  refine ei [0,3] (ai (ai rfl (ai rfl rfl)) (ai ?_ ?_))
  ·exact rfl
  ·refine (ai (ai rfl (ai (ai rfl rfl) rfl)) (ai rfl (ai rfl (ai ?_ ?_))))
   ·show a.2.1.length+1=(a.2.1++[a.2.2]).length
    simp
   ·exact l7 rfl (fun _ _=>rfl) one_byte
 | false=>
  refine rM aeS rfl rfl rfl (.inr ⟨_,rfl⟩) ?_
  refine ai (mxL (n:=a.2.1.length+1) (by omega) (by decide)) ?_
  refine ai (lt1 rfl) ?_
  refine ei [0,3] (ai (ai rfl (ai rfl rfl)) (ai ?_ ?_))
  ·exact rfl
  ·refine (ai (ai rfl (ai (ai rfl rfl) rfl)) (ai rfl (ai rfl (ai ?_ ?_))))
   ·show a.2.1.length+1=(a.2.1++[a.2.2]).length
    simp
   ·exact l7 rfl (fun _ _=>rfl) one_byte
def iI (sep:List UInt8):List (List UInt8)→List UInt8
 | []=>[]
 | [x]=>x
 | x :: y :: l=>x++(sep++iI sep (y :: l))
theorem ab7 (sep x:List UInt8):∀l:List (List UInt8),iI sep (l++[x])=if l=[] then x else iI sep l++(sep++x)
 | []=>rfl
 | [y]=>by rw[if_neg (by simp)];rfl
 | y :: z :: l=>by
  rw[if_neg (by simp)]
  show y++(sep++iI sep (z :: l++[x]))=y++(sep++iI sep (z :: l))++(sep++x)
  rw[ab7 sep x (z :: l),if_neg (by simp)]
  simp
def yX (o:Int):List UInt8:=if o=4 then [32,124,32] else [32,38,32]
def adu (b:Bool) (t:List UInt8):List UInt8:=if b then 40 :: (t++[41]) else t
def brA (o x:Int):Bool:=decide (x=4)||(decide (x=3)&&decide (o≠4))
mutual
def dN (nm:NM):Ex→List UInt8
 | .node o i l=>if o=0 then [if i=0 then 48 else 49] else if o=1 then nm.getD i.toNat [] else if o=2 then 33 :: (arE nm o l).headD [] else iI (yX o) (arE nm o l)
def arE (nm:NM) (o:Int):List Ex→List (List UInt8)
 | []=>[]
 | x :: l=>adu (brA o x.op) (dN nm x) :: arE nm o l
end
def kS (nm:NM) (o:Int) (x:Ex):List UInt8:=adu (brA o x.op) (dN nm x)
theorem ahQ (nm:NM) (o:Int):∀l:List Ex,arE nm o l=l.map (kS nm o)
 | []=>by rw[arE];rfl
 | x :: l=>by rw[arE,ahQ nm o l];rfl
theorem pE (nm:NM) (x:Ex):dN nm x=if x.op=0 then [if x.idx=0 then 48 else 49] else if x.op=1 then nm.getD x.idx.toNat [] else if x.op=2 then 33 :: (x.args.map (kS nm x.op)).headD [] else iI (yX x.op) (x.args.map (kS nm x.op)):=by
 obtain ⟨o,i,l⟩:=x;rw[dN,ahQ]
def wrB (o out:Int):Bool:=(decide (o=3)||decide (o=4))&&(decide (0≤out)&&(decide (o=4)||decide (out≠4)))
def om (nm:NM) (x:Ex) (out:Int):List UInt8:=adu (wrB x.op out) (dN nm x)
theorem aht (nm:NM) (x:Ex) {o:Int} (h:0≤o):om nm x o=kS nm o x:=by
 unfold om kS
 have:wrB x.op o=brA o x.op:=by
  unfold wrB brA
  rw[decide_eq_true h,aql]
  by_cases h3:x.op=3
  ·rw[h3];simp
  ·by_cases h4:x.op=4
   ·rw[h4];simp
   ·rw[decide_eq_false h3,decide_eq_false h4];rfl
 rw[this]
theorem wD (b:Bool) (t:List UInt8):(adu b t).length≤t.length+2:=by unfold adu;split<;>simp
def abA (nm:NM):Prop:=∀k,(nm.getD k []).length≤100
theorem zx (sep:List UInt8):∀l:List (List UInt8),(iI sep l).length≤(l.map fun t=>t.length+sep.length).sum
 | []=>by simp[iI]
 | [x]=>by simp[iI]
 | x :: y :: l=>by
  have:=zx sep (y :: l)
  simp only[iI,aac,amH,ar5] at this ⊢
  omega
theorem afL (o:Int):(yX o).length=3:=by unfold yX;split<;>rfl
theorem abH {nm:NM} {o:Int}:∀(l:List Ex),(∀x∈l,(dN nm x).length+5≤110*x.size)→((l.map (kS nm o)).map fun t=>t.length+3).sum≤110*sizes l
 | [],_=>by simp
 | x :: l,h=>by
  have h1:=h x (by simp)
  have h2:=abH (nm:=nm) (o:=o) l fun y hy=>h y (by simp[hy])
  have h3:=wD (brA o x.op) (dN nm x)
  rw[sizes]
  simp only[amH,ar5] at h2 ⊢
  unfold kS at h2 ⊢
  omega
theorem abv {nm:NM} (hnm:abA nm):∀(n:Nat) (x:Ex),x.size≤n→(dN nm x).length+5≤110*x.size
 | 0,x,h=>by have:=size_pos x;omega
 | n+1,x,h=>by
  have hsz:=x.size_eq
  have ih:∀y∈x.args,(dN nm y).length+5≤110*y.size:=fun y hy=>abv hnm n y (by have:=kL hy;omega)
  have h4:=abH (nm:=nm) (o:=x.op) x.args ih
  rw[pE]
  split
  ·simp;omega
  ·split
   ·have:=hnm x.idx.toNat;omega
   ·split
    ·cases hc:x.args with
     | nil=>simp;omega
     | cons y l=>
      rw[hc,sizes] at hsz
      have h1:=ih y (by rw[hc];simp)
      have h3:=wD (brA x.op y.op) (dN nm y)
      simp only[amH,List.headD_cons,ah6]
      unfold kS
      omega
    ·have h5:=zx (yX x.op) (x.args.map (kS nm x.op))
     rw[afL] at h5
     omega
def iX (nm:NM) (base sep:List UInt8) (o:Int) (l:List Ex) (k:Nat):List UInt8:=base++iI sep ((l.take k).map (kS nm o))
theorem uq (nm:NM) (base sep:List UInt8) (o:Int) (l:List Ex):iX nm base sep o l 0=base:=by unfold iX;simp[iI]
theorem alR {nm:NM} {base sep:List UInt8} {o:Int} {l:List Ex} (h:0<l.length):iX nm base sep o l 1=base++kS nm o (l.getD 0 dz):=by
 unfold iX;rw[aX dz h];rfl
theorem ak3 {nm:NM} {base sep:List UInt8} {o:Int} {l:List Ex} {k:Nat} (h:k+1<l.length):iX nm base sep o l (k+1+1)=iX nm base sep o l (k+1)++sep++kS nm o (l.getD (k+1) dz):=by
 unfold iX
 have hne:(l.take (k+1)).map (kS nm o)≠[]:=by
  cases l with
  | nil=>simp at h
  | cons y l=>simp
 rw[aX dz h,aq2,List.map_singleton,ab7,if_neg hne]
 simp
theorem alc (nm:NM) (base sep:List UInt8) (o:Int) (l:List Ex):iX nm base sep o l l.length=base++iI sep (l.map (kS nm o)):=by unfold iX;rw[afz]
theorem ab6 (sep:List UInt8):∀l:List (List UInt8),l≠[]→(iI sep l).length+sep.length≤(l.map fun t=>t.length+sep.length).sum
 | [],h=>absurd rfl h
 | [x],_=>by simp[iI]
 | x :: y :: l,_=>by
  have:=ab6 sep (y :: l) (by simp)
  simp only[iI,aac,amH,ar5] at this ⊢
  omega
theorem aly {nm:NM} (hnm:abA nm) {base sep:List UInt8} (hsep:sep.length=3) {o:Int} {l:List Ex} {k:Nat} (hk:k≤l.length):(iX nm base sep o l k).length+(if k=0 then 0 else 3)≤base.length+110*sizes (l.take k):=by
 have h4:=abH (nm:=nm) (o:=o) (l.take k) fun x _=>abv hnm x.size x (afi _)
 unfold iX
 rw[aac]
 cases k with
 | zero=>simp[iI,sizes]
 | succ k=>
  have hne:(l.take (k+1)).map (kS nm o)≠[]:=by
   cases l with
   | nil=>simp at hk
   | cons y l=>simp
  have h5:=ab6 sep _ hne
  rw[hsep] at h5
  rw[if_neg (by omega)]
  omega
structure WrA where
 st:Bool
 nm:NM
 bs:List UInt8
 x:Ex
 out:Int
def ajf (a:WrA):Prop:=lK a.nm.length a.x∧a.x.size≤256∧abA a.nm∧a.nm.length≤256∧a.bs.length+110*a.x.size≤500000
def wrG (n:Nat):qb:={ A:=WrA,fix:=1,args:=fun a=>[.own 0 0,tL a.x,iA a.out],objs:=fun a=>[bld 202 (nmR a.nm) a.st,nH a.bs],pre:=fun a=>ajf a∧a.x.size≤n,res:=fun _=>.tup [],objs':=fun a=>[bld 202 (nmR a.nm),nH (a.bs++om a.nm a.x a.out)],inl:=[141,81,78] }
def aqL (st:Bool):Nat→SV
 | 0=>adr st
 | _+1=>.own 0 0
theorem aiN (c:UInt8) (h:tq c=true):gJ c=true:=by
 unfold tq kF o7 alk at h
 unfold gJ fP
 simp only[aoH,afd,decide_eq_true_eq] at h ⊢
 omega
theorem agT (c:UInt8) (h:o7 c=true):fP c=true:=by
 unfold o7 at h
 unfold fP
 simp only[aoH,afd,decide_eq_true_eq] at h ⊢
 omega
theorem aiJ {s:List UInt8} (h:iK s=0):s.length≤24∧resE s=false∧je s=true:=by
 unfold iK at h
 split at h
 ·cases h
 rename_i h1
 split at h
 ·cases h
 rename_i h2
 split at h
 ·rename_i h3
  simp only[aoH,not_or,aon,arU,Bool.not_eq_false'] at h2
  obtain ⟨⟨h4,h5⟩,h6⟩:=h2
  refine ⟨by omega,h6,?_⟩
  unfold je
  rw[amN.2 fun c hc=>aiN c (amN.1 h3 c hc),h4,agT _ (by simpa using h5)];rfl
 ·cases h
def aan (b:Bool) (s:List UInt8):Bool:=decide (s.length≤24)&&(je s&&(resE s==b))
theorem aes {b:Bool} {s:List UInt8} (h:aan b s=true):s.length≤24∧je s=true∧resE s=b:=by
 unfold aan at h
 simp only[afd,decide_eq_true_eq,beq_iff_eq] at h
 exact ⟨h.1,h.2.1,h.2.2⟩
theorem amu {n:Nat} (h:n≤6):(iV n).all (aan true)=true∧(iV n).Nodup∧(iV n).all (fun s=>s.getD 0 0 != 121)=true:=by
 have:∀n:Fin 7,(iV n.1).all (aan true)=true∧(iV n.1).Nodup∧(iV n.1).all (fun s=>s.getD 0 0 != 121)=true:=by decide +kernel
 exact this ⟨n,by omega⟩
theorem alH {n:Nat} (h:n≤24):(mH n).all (aan true)=true∧(mH n).Nodup∧(mH n).all (fun s=>s.getD 0 0==121)=true:=by
 have:∀n:Fin 25,(mH n.1).all (aan true)=true∧(mH n.1).Nodup∧(mH n.1).all (fun s=>s.getD 0 0==121)=true:=by decide +kernel
 exact this ⟨n,by omega⟩
theorem air {α:Type} [BEq α] [LawfulBEq α] {x:α} {l:List α}:l.any (fun y=>x==y)=false↔x∉l:=by
 rw[aqh]
 constructor
 ·intro h hx;exact h x hx (by simp)
 ·intro h y hy e;exact h (by rw[beq_iff_eq.1 e];exact hy)
theorem ai2 {α:Type} {l:List α} {k:Nat} {d:α} (hn:l.Nodup) (hk:k<l.length):l.getD k d∉l.take k:=by
 have h1:(l.take (k+1)).Nodup:=hn.sublist (List.take_sublist _ _)
 rw[aX d hk,arO] at h1
 intro hx
 exact h1.2.2 _ hx _ (agL.2 rfl) rfl
theorem aeI {α:Type} {d:α}:∀{l:List α},(∀k,k<l.length→l.getD k d∉l.take k)→l.Nodup:=by
 intro l h
 rw[List.Nodup,arJ]
 intro i j hi hj hij e
 refine h j hj ?_
 have e2:l.getD j d=l[j]:=by rw[aaM,aa8 hj];rfl
 rw[e2,←e]
 exact List.mem_iff_getElem.2 ⟨i,by rw[ahR];omega,by simp⟩
theorem ag1 {l:List (List UInt8)} (h:gN l=0):(∀s∈l,s.length≤24∧resE s=false∧je s=true)∧l.Nodup:=by
 unfold gN at h
 split at h
 ·cases h
 have h1:=l9 h
 have key:∀k,k<l.length→iK (l.getD k [])=0∧l.getD k []∉l.take k:=fun k hk=>by
  have h2:=h1 k hk
  unfold inE at h2
  split at h2
  ·rename_i h3;exact absurd h2 h3
  rename_i h3
  split at h2
  ·cases h2
  rename_i h4
  exact ⟨aoJ.1 h3,air.1 (aqk.2 h4)⟩
 refine ⟨fun s hs=>?_,aeI (d:=[]) fun k hk=>(key k hk).2⟩
 obtain ⟨k,hk,rfl⟩:=aop hs
 have:=(key k hk).1
 rw[aaM,aa8 hk] at this
 exact aiJ this
theorem qx {c:bC} (h:cK c=0):(∀s∈dH c,s.length≤24∧je s=true)∧(dH c).Nodup∧((dH c).length:Int)=um c∧(dH c).length≤52:=by
 obtain ⟨h1,h2,h3,_⟩:=kG h
 have hi:=ag1 h2
 have hil:=vR h2
 obtain ⟨a1,a2,a3⟩:=amu (n:=c.act.toNat) (by omega)
 obtain ⟨b1,b2,b3⟩:=alH (n:=c.sts.length) (by omega)
 have A:∀s∈iV c.act.toNat,s.length≤24∧je s=true∧resE s=true:=fun s hs=>aes (amN.1 a1 s hs)
 have B:∀s∈mH c.sts.length,s.length≤24∧je s=true∧resE s=true:=fun s hs=>aes (amN.1 b1 s hs)
 refine ⟨fun s hs=>?_,?_,?_,?_⟩
 ·unfold dH at hs
  simp only[ahq] at hs
  rcases hs with (hs | hs) | hs
  ·exact ⟨(A s hs).1,(A s hs).2.1⟩
  ·exact ⟨(hi.1 s hs).1,(hi.1 s hs).2.2⟩
  ·exact ⟨(B s hs).1,(B s hs).2.1⟩
 ·unfold dH
  rw[arO,arO]
  refine ⟨⟨a2,hi.2,fun x hx y hy e=>?_⟩,b2,fun x hx y hy e=>?_⟩
  ·subst e;have:=(A x hx).2.2;rw[(hi.1 x hy).2.1] at this;cases this
  ·subst e
   rcases ahq.1 hx with hx | hx
   ·have p:=amN.1 a3 x hx
    have q:=amN.1 b3 x hy
    rw[beq_iff_eq] at q
    rw[q] at p;cases p
   ·have:=(B x hy).2.2;rw[(hi.1 x hx).2.1] at this;cases this
 ·unfold dH um
  rw[aac,aac,aaB,aaz];omega
 ·unfold dH
  rw[aac,aac,aaB,aaz];omega
theorem aiy {c:bC} (h:cK c=0):jN (dH c)=0:=by
 obtain ⟨h1,h2,_,h3⟩:=qx h
 unfold jN
 rw[if_neg (by omega)]
 refine gZ fun k hk=>?_
 have hm:(dH c).getD k []∈dH c:=aee (bT [] hk)
 have:=h1 _ hm
 unfold oH
 rw[if_neg (by rw[this.2];decide),if_neg (by omega),if_neg]
 rw[air.2 (ai2 h2 hk)];decide
theorem acJ {nm:NM} {o:Int}:∀(l:List Ex),(∀x∈l,(dN nm x).length+5≤34*x.size)→((l.map (kS nm o)).map fun t=>t.length+3).sum≤34*sizes l
 | [],_=>by simp
 | x :: l,h=>by
  have h1:=h x (by simp)
  have h2:=acJ (nm:=nm) (o:=o) l fun y hy=>h y (by simp[hy])
  have h3:=wD (brA o x.op) (dN nm x)
  rw[sizes]
  simp only[amH,ar5] at h2 ⊢
  unfold kS at h2 ⊢
  omega
theorem acZ {nm:NM} (hnm:∀k,(nm.getD k []).length≤24):∀(n:Nat) (x:Ex),x.size≤n→(dN nm x).length+5≤34*x.size
 | 0,x,h=>by have:=size_pos x;omega
 | n+1,x,h=>by
  have hsz:=x.size_eq
  have ih:∀y∈x.args,(dN nm y).length+5≤34*y.size:=fun y hy=>acZ hnm n y (by have:=kL hy;omega)
  have h4:=acJ (nm:=nm) (o:=x.op) x.args ih
  rw[pE]
  split
  ·simp;omega
  ·split
   ·have:=hnm x.idx.toNat;omega
   ·split
    ·cases hc:x.args with
     | nil=>simp;omega
     | cons y l=>
      rw[hc,sizes] at hsz
      have h1:=ih y (by rw[hc];simp)
      have h3:=wD (brA x.op y.op) (dN nm y)
      simp only[amH,List.headD_cons,ah6]
      unfold kS
      omega
    ·have h5:=zx (yX x.op) (x.args.map (kS nm x.op))
     rw[afL] at h5
     omega
theorem afP {c:bC} (h:cK c=0) (k:Nat):((dH c).getD k []).length≤24:=by
 rcases apc k (dH c).length with hk | hk
 ·exact ((qx h).1 _ (aee (bT [] hk))).1
 ·rw[aaM,aqj hk];simp
theorem oP {a b:ByteArray} {l m:List UInt8} (ha:a=strOf l) (hb:b=strOf m) (h:l.length+m.length≤9223372036854775807):(((a.size+b.size:Nat)):Int)≤9223372036854775807:=by
 subst ha hb;rw[eu,eu];omega
def stepW:List UInt8:=[115,116,101,112,32]
def iD (l:List Sk):List UInt8:=l.flatMap fun y=>32 :: mX y
def sM (w:Int):List UInt8:=if 0<w then 32 :: dec w.toNat else []
def gu (k:Nat):List UInt8:=(stepW++dec k)++[58]
def lnK (k:Nat) (x:Stp):List UInt8:=((gu k++iD x.st)++sM x.wt)++[10]
def bK (l:List Stp):Nat→List UInt8
 | 0=>[]
 | k+1=>bK l k++lnK k (l.getD k st0)
def lnT (nm:NM) (t:kr):List UInt8:=(((((inT t.fr++[32,62,32])++inT t.to)++[58,32])++dN nm t.wh)++[10])
def mO (nm:NM) (l:List kr):Nat→List UInt8
 | 0=>[]
 | k+1=>mO nm l k++lnT nm (l.getD k ak)
def ajn (c:bC):List UInt8:=bK c.sts c.sts.length++mO (dH c) c.trs c.trs.length
def tN (c:bC):PV:=.tup [sP (if cK c=0 then ajn c else []),iP (cK c)]
theorem agh:∀(j n:Nat),n<10 ^ j→(adH n).length≤j
 | 0,n,h=>by
  have:n=0:=by rw[Nat.pow_zero] at h;omega
  subst this;simp[adH]
 | j+1,n,h=>by
  rw[ajS]
  split
  ·simp
  ·have:=agh j (n / 10) (by rw[Nat.div_lt_iff_lt_mul (by decide)];rw[Nat.pow_succ] at h;exact h)
   rw[aac,List.length_singleton];omega
theorem abt {n:Nat} (h:n≤1000000):(dec n).length≤7:=by
 by_cases h0:n=0
 ·subst h0;have:=vo (n:=0) (by decide);omega
 ·have:=agh 7 n (by show n<10 ^ 7;omega)
  unfold adH at this
  rw[if_neg h0] at this;exact this
theorem adt (l:List Sk):(iD l).length=3*l.length:=by
 induction l with
 | nil=>rfl
 | cons x l ih=>
  show ((32 :: mX x)++iD l).length=_
  rw[aac,ih]
  simp[mX];omega
theorem am7 {w:Int} (h:w≤1000000):(sM w).length≤8:=by
 unfold sM
 split
 ·have:=abt (n:=w.toNat) (by omega)
  rw[ah6];omega
 ·simp
theorem aj2 {n:Int} {l:List Int} (h0:∀x∈l,0≤x∧x<n) (h1:∀k,0<k→k<l.length→l.getD (k-1) 0<l.getD k 0):(l.length:Int)≤max n 0:=by
 have key:∀k,k<l.length→(k:Int)≤l.getD k 0:=by
  intro k
  induction k with
  | zero=>intro hk;exact (h0 _ (aee (bT 0 hk))).1
  | succ k ih=>
   intro hk
   have:=h1 (k+1) (by omega) hk
   have:=ih (by omega)
   simp only[Nat.add_sub_cancel] at *
   omega
 rcases aoB l.length with h | h
 ·omega
 ·have h2:=key (l.length-1) (by omega)
  have h3:=(h0 _ (aee (bT 0 (show l.length-1<l.length by omega)))).2
  omega
theorem afa {n:Nat} {l:List Int} (h:kR n l=0) (hn:n≤24):l.length≤24:=by
 have h0:=(aay h hn).2.1
 unfold kR at h
 split at h
 ·cases h
 have h1:=l9 h
 have:=aj2 (n:=(n:Int)) (l:=l) h0 fun k hk hl=>by
  have h2:=h1 k hl
  unfold vv at h2
  split at h2
  ·cases h2
  split at h2
  ·cases h2
  ·rename_i h3;omega
 omega
theorem anU {act:Int} {x:Stp} (ha:1≤act∧act≤6) (h:jr act x=0):x.st.length≤6∧vk 6 x.st∧0≤x.wt∧x.wt≤1000000:=by
 unfold jr at h
 split at h
 ·rename_i h1;exact absurd h h1
 rename_i h1
 split at h
 ·cases h
 rename_i h2
 have h3:=l9 (aoJ.1 h1)
 have hk:∀k,k<x.st.length→(0≤(x.st.getD k aV).1∧(x.st.getD k aV).1<act)∧(0<k→(x.st.getD (k-1) aV).1<(x.st.getD k aV).1):=fun k hk=>by
  have h4:=h3 k hk
  unfold ou at h4
  split at h4
  ·cases h4
  split at h4
  ·cases h4
  ·rename_i h5 h6;exact ⟨by omega,fun h7=>by omega⟩
 have hs:vk 6 x.st:=fun y hy=>by
  obtain ⟨k,hk1,rfl⟩:=aop hy
  have:=(hk k hk1).1
  rw[aaM,aa8 hk1] at this
  have this:0≤x.st[k].1∧x.st[k].1<act:=this
  omega
 refine ⟨?_,hs,by omega,by omega⟩
 have gm:∀k,k<x.st.length→(x.st.map (·.1)).getD k 0=(x.st.getD k aV).1:=fun k hk1=>by
  rw[aaM,aaM,ahO,aa8 hk1];rfl
 have:=aj2 (n:=6) (l:=x.st.map (·.1)) (fun y hy=>by
  obtain ⟨z,hz,rfl⟩:=aqs.1 hy
  exact hs z hz) fun k hk0 hkl=>by
   rw[akn] at hkl
   rw[gm k hkl,gm (k-1) (by omega)]
   exact (hk k hkl).2 hk0
 rw[akn] at this
 omega
theorem agG {c:bC} (h:cK c=0) {k:Nat} (hk:k<c.sts.length):(c.sts.getD k st0).st.length≤6∧vk 6 (c.sts.getD k st0).st∧0≤(c.sts.getD k st0).wt∧(c.sts.getD k st0).wt≤1000000:=by
 obtain ⟨h1,_,_,_,h5,_⟩:=kG h
 exact anU h1 (h5 k hk)
theorem ady {k:Nat} (h:k<100):(gu k).length≤8:=by
 have:=vo h
 unfold gu stepW
 simp only[aac,ah6,amE];omega
theorem anu {k:Nat} {x:Stp} (h:k<100) (h1:x.st.length≤6) (h2:x.wt≤1000000):(lnK k x).length≤35:=by
 have h3:=ady h
 have h4:=adt x.st
 have h5:=am7 h2
 unfold lnK
 simp only[aac,ah6,amE];omega
theorem agM {c:bC} (h:cK c=0):∀{k:Nat},k≤c.sts.length→(bK c.sts k).length≤35*k
 | 0,_=>by simp[bK]
 | k+1,hk=>by
  have h1:=agG h (k:=k) (by omega)
  have h2:=(kG h).2.2.1
  have h3:=anu (k:=k) (by omega) h1.1 h1.2.2.2
  have h4:=agM h (k:=k) (by omega)
  rw[bK,aac];omega
theorem ahI {c:bC} (h:cK c=0) {k:Nat} (hk:k<c.trs.length):((c.trs.getD k ak).fr.length≤24∧(c.trs.getD k ak).to.length≤24)∧(c.trs.getD k ak).to≠[]∧(c.trs.getD k ak).wh.size≤256∧lK (dH c).length (c.trs.getD k ak).wh:=by
 obtain ⟨_,_,h3,_,_,h6⟩:=kG h
 have h7:=h6 k hk
 have hw:=(oD h hk).2.2
 unfold lQ at h7
 split at h7
 ·rename_i h8;exact absurd h7 h8
 rename_i h8
 split at h7
 ·rename_i h9;exact absurd h7 h9
 rename_i h9
 have h9:=aoJ.1 h9
 have hn:=(qx h).2.2.1
 obtain ⟨_,h10,h11⟩:=aa5.1 hw
 refine ⟨⟨afa (aoJ.1 h8) h3.2,afa h9 h3.2⟩,?_,h10.1,by rw[hn];exact h11⟩
 have:=(aay h9 h3.2).2.2
 intro e
 rw[e] at this;simp at this
theorem amU {c:bC} (h:cK c=0):abA (dH c):=fun k=>ahV (afP h k) (by decide)
theorem wH {n:Nat} {l:List Int} (h:iT n l) (hn:n≤24):iT 100 l:=fun x hx=>by have:=h x hx;omega
theorem ahl {c:bC} (h:cK c=0) {k:Nat} (hk:k<c.trs.length):((inT (c.trs.getD k ak).fr).length≤72∧(inT (c.trs.getD k ak).to).length≤72)∧(dN (dH c) (c.trs.getD k ak).wh).length≤28160∧(lnT (dH c) (c.trs.getD k ak)).length≤28310:=by
 obtain ⟨h1,h2,h3,h4⟩:=ahI h hk
 have h5:=oD h hk
 have h6:=adK (wH h5.1.1 (by decide))
 have h7:=adK (wH h5.2.1.1 (by decide))
 have h8:=abv (amU h) _ _ (afi (c.trs.getD k ak).wh.size)
 refine ⟨⟨by omega,by omega⟩,by omega,?_⟩
 unfold lnT
 simp only[aac,ah6,amE];omega
theorem agA {c:bC} (h:cK c=0):∀{k:Nat},k≤c.trs.length→(mO (dH c) c.trs k).length≤28310*k
 | 0,_=>by simp[mO]
 | k+1,hk=>by
  have h1:=ahl h (k:=k) (by omega)
  have h2:=agA h (k:=k) (by omega)
  rw[mO,aac];omega
def ap5:SV:=.p false (.val (.pointer none))
def aqB:Nat→SV
 | 0=>ap5
 | _+1=>.own 1 0
def adp (l:List UInt8) (k:Nat):List PV:=[cP (l.getD k 0)]
theorem lq {l m:List UInt8} (h:l=m) {n:Nat}:∀j,j<n→adp l j=adp m j:=fun j _=>by rw[h]
def pI:SV:=.p false (.val (.pointer none))
def y7:SV:=.p false (.val (.slice none 0 0))
theorem agk {P:Program} {f T:Nat} {A:Type} {args:A→List SV} {rest:A→List SV} {pre:A→Prop} {res:A→SV} {objs':A→List Ob}
  (h:jy P f { A:=A,fix:=1,args:=args,objs:=fun a=>[.cells T (pI :: .row 1 :: rest a),nH []],pre:=pre,res:=res,objs':=objs' }) :
  jy P f { A:=A,fix:=1,args:=args,objs:=fun a=>[.cells T (pI :: y7 :: rest a)],pre:=pre,res:=res,objs':=objs' }:=by
 refine ⟨h.1,fun a hp base E vs w hg H hA=>?_⟩
 have H:bq (yV w E [.cells T (pI :: y7 :: rest a)] base 1) E (gW [.cells T (pI :: y7 :: rest a)]) w:=H
 have hA:jG E vs (args a):=hA
 have hn1:∀i,1≤i→E.hd i=none:=fun i hi=>H.new i hi
 obtain ⟨E2,hE2⟩:∃E2:Env,E2={ E with hd:=fun i=>if i=1 then some (.slice none 0 0) else E.hd i }:=⟨_,rfl⟩
 have hd1:E2.hd 1=some (.slice none 0 0):=by rw[hE2];rfl
 have hdn:∀i,i≠1→E2.hd i=E.hd i:=fun i hi=>by rw[hE2];exact if_neg hi
 have hm:E2.mem=E.mem:=by rw[hE2]
 have ht:E2.tm=E.tm:=by rw[hE2]
 have hws:E2.ws=E.ws:=by rw[hE2]
 have hI:E2.I=E.I:=by rw[hE2]
 have hk:E2.k=E.k:=by rw[hE2]
 have hle:E.Le E2:=⟨fun i v hv=>by
  by_cases hi:i=1
  ·subst hi;rw[hn1 1 (afi _)] at hv;cases hv
  ·rw[hdn i hi];exact hv,fun b cs hb=>by rw[hm];exact hb,ht⟩
 have hbl:∀i,i≠1→E2.blk i=E.blk i:=fun i hi=>by unfold Env.blk;rw[hdn i hi]
 have hb1:E2.blk 1=none:=by unfold Env.blk;rw[hd1];rfl
 have hbor:jW E2.hd [.cells T (pI :: .row 1 :: rest a),nH []] 0=jW E.hd [.cells T (pI :: y7 :: rest a)] 0:=by
  funext b
  refine propext ⟨fun ⟨k,o,_,hk,hb⟩=>?_,fun ⟨k,o,_,hk,hb⟩=>?_⟩
  ·match k with
   | 0=>exact ⟨0,_,afi _,rfl,by rw[←hdn 0 (by decide)];exact hb⟩
   | 1=>rw[hd1] at hb;cases hb
   | k+2=>simp at hk
  ·match k with
   | 0=>exact ⟨0,_,afi _,rfl,by rw[hdn 0 (by decide)];exact hb⟩
   | k+1=>simp at hk
 have hobj:∀i o,(gW [.cells T (pI :: .row 1 :: rest a),nH []]).obj i=some o→i=0∧o=.cells T (pI :: .row 1 :: rest a)∨i=1∧o=nH []:=fun i o ho=>by
  rw[dG] at ho
  match i with
  | 0=>cases ho;exact .inl ⟨rfl,rfl⟩
  | 1=>cases ho;exact .inr ⟨rfl,rfl⟩
  | i+2=>simp at ho
 have ob0:(gW [.cells T (pI :: y7 :: rest a)]).obj 0=some (.cells T (pI :: y7 :: rest a)):=by rw[dG];rfl
 have HR:bq (yV w E2 [.cells T (pI :: .row 1 :: rest a),nH []] base 1) E2 (gW [.cells T (pI :: .row 1 :: rest a),nH []]) w:=by
  refine ⟨fun i o ho=>?_,fun i j o o' b ho ho' hb hb'=>?_,fun i o b ho hb=>?_,fun b cs hb=>H.mem b cs (by rw[←hm];exact hb),fun b cs hb=>hb,fun b cs hb=>.inl hb,fun i hi=>?_,?_,?_,fun k _=>rfl,by show 1≤2;decide,aef _,by rw[hk];exact H.kk⟩
  ·rcases hobj i o ho with ⟨rfl,rfl⟩ | ⟨rfl,rfl⟩
   ·cases (H.ob 0 _ ob0).mono hle with
    | cells b T vs cs hh hw hl h1 he=>
     refine .cells b T vs _ hh hw hl h1 fun k u s hu hs=>?_
     match k with
     | 0=>exact he 0 u s hu hs
     | 1=>
      cases hs
      have:=he 1 u y7 hu rfl
      cases this with
      | p _ _ _ hp=>cases hp;exact .row 1 _ hd1 rfl
     | k+2=>exact he (k+2) u s hu hs
   ·exact .row 5 1 0 _ _ [] (fun _ _=>undef) hd1 ⟨rfl,.inl ⟨rfl,rfl⟩⟩ (aef _) (fun j hj=>absurd hj (akb _)) (fun j _ _ hj=>absurd hj (akb _)) (fun j _ _ hj=>absurd hj (akb _))
  ·rcases hobj i o ho with ⟨rfl,rfl⟩ | ⟨rfl,rfl⟩
   ·rcases hobj j o' ho' with ⟨rfl,rfl⟩ | ⟨rfl,rfl⟩
    ·rfl
    ·rw[hb1] at hb';cases hb'
   ·rw[hb1] at hb;cases hb
  ·rcases hobj i o ho with ⟨rfl,rfl⟩ | ⟨rfl,rfl⟩
   ·have:=H.own 0 _ b ob0 (by rw[←hbl 0 (by decide)];exact hb)
    unfold Env.mine at this ⊢
    rw[hm,hws,hI];exact this
   ·rw[hb1] at hb;cases hb
  ·have hi:2≤i:=hi
   rw[hdn i (by omega)];exact hn1 i (by omega)
  ·rw[ht];exact H.base
  ·obtain ⟨f1,f2,f3,f4,f5,f6,f7,f8,f9⟩:=H.fr
   refine ⟨f1,f2,f3,by rw[hws];exact f4,by rw[hws];exact f5,by rw[hws];exact f6,by rw[hws,hI];exact f7,by rw[hws,hI];exact f8,?_⟩
   obtain ⟨g1,g2,g3⟩:=f9
   exact ⟨by rw[hk];exact g1,by rw[hI];exact g2.trans hbor.symm,by rw[hws];exact g3⟩
 refine (h.2 a hp base E2 vs w (fun p hp=>by rw[hm];exact hg p hp) HR ⟨hA.1,fun k u s hu hs=>(hA.2 k u s hu hs).mono hle⟩).mono fun e w' ⟨v,E',he,hv,R⟩=>⟨v,E',he,hv,?_⟩
 obtain ⟨r1,r2,r3,r4,r5,r6,r7,r8,⟨f1,f2,f3,f4,f5,f6,f7,f8,g1,g2,g3⟩,r10,r11,r12,r13⟩:=R
 refine ⟨r1,r2,r3,r4,fun b cs hb=>r5 b cs (by show E2.mem b=some cs;rw[hm];exact hb),fun b cs hb=>(r6 b cs hb).imp (fun hb=>by show E.mem b=some cs;rw[←hm];exact hb) id,r7,r8,⟨f1,f2,f3,f4,f5,f6,f7,f8,g1,g2.trans hbor,g3⟩,fun k hk=>(r10 k hk).trans (hdn k (by have hk:k<1:=hk;omega)),r11,r12,r13⟩
theorem ali {sep:List UInt8} {l:List (List UInt8)} (hs:sep≠[]) (h:2≤l.length):iI sep l≠[]:=by
 match l with
 | x :: y :: l=>
  intro e
  have:(iI sep (x :: y :: l)).length=0:=by rw[e];rfl
  simp only[iI,aac] at this
  have:sep.length=0:=by omega
  exact hs (amY.1 this)
theorem alA {nm:NM} {x:Ex} (hg:lK nm.length x) (hn:∀s∈nm,s≠[]):dN nm x≠[]:=by
 obtain ⟨hn0,_⟩:=(wF _ _).1 hg
 obtain ⟨ho,hle,hi⟩:=rz hn0
 rw[pE]
 split
 ·simp
 rename_i h0
 split
 ·rename_i h1
  have ht:abC x.op nm.length=nm.length-1:=by unfold abC;rw[if_neg h0,if_pos h1]
  rw[ht] at hi
  exact hn _ (aee (bT [] (show x.idx.toNat<nm.length by omega)))
 rename_i h1
 split
 ·simp
 ·rename_i h2
  have:r9 x.op=2:=by unfold r9;rw[if_neg h2,if_pos (by omega)]
  exact ali (by unfold yX;split<;>simp) (by rw[akn];omega)
theorem anI {nm:NM} {x:Ex} {out:Int} (h:out<0):om nm x out=dN nm x:=by
 unfold om wrB
 rw[decide_eq_false (show ¬0≤out by omega),aqi,ar2];rfl
def wrC (Q:WrA→Prop):qb:={ wrG 0 with pre:=fun a=>ajf a∧Q a }
theorem aqS:jy Tryz.prog 141 (wrC fun a=>a.st=true∧a.x.op=1):=by
 refine nZ (Tb:=tab) mixed aB Tryz.func141 rfl rfl ?_
 rintro ⟨st,nm,bs,x,out⟩ hpre
 refine ai (ai rfl (ai rfl rfl)) ?_
 obtain ⟨⟨hg,hs,hnm,hnl,hlen⟩,hst,hQ⟩:=hpre
 obtain rfl:st=true:=hst
 have hg:lK nm.length x:=hg
 have hnm:abA nm:=hnm
 have hlen:bs.length+110*x.size≤500000:=hlen
 obtain ⟨hn0,hga⟩:=(wF _ _).1 hg
 obtain ⟨ho,hle,hi⟩:=rz hn0
 have hA:=pE nm x
 have hQ:x.op=1:=hQ
 refine ah (p:=x.op=0) (gD (by omega)) (fun h0=>?_) (fun h0=>?_)
 ·exact absurd h0 (by omega)
 rw[if_neg h0] at hA
 refine ah (p:=x.op=1) (gD (by omega)) (fun h1=>?_) (fun h1=>?_)
 ·rw[if_pos h1] at hA
  have hnk:(nm.getD x.idx.toNat []).length≤100:=hnm _
  have ht:abC x.op nm.length=nm.length-1:=by rw[h1];rfl
  rw[ht] at hi
  have hW:om nm x out=nm.getD x.idx.toNat []:=by
   unfold om wrB;rw[hA,h1];rfl
  refine ei (.one 0 (.one 1 (.one 2 (.one 3 (.one 4 (.one 5 (.one 6 (.one 7 (.one 8 (.one 9 (.one 10 (.wr 11 .done)))))))))))) (ai (by kernel_rfl) ?_)
  refine ai (ai hi.1 (by show x.idx<(nm.length:Int);omega)) ?_
  refine ai rfl ?_
  refine dQ (agq) ((true,nm,bs,nm.getD x.idx.toNat [])) [0,1] (a4 (ai rfl rfl)) (Or.inl rfl) (by exact (ai (ai rfl rfl) rfl)) (by exact (ai (ai rfl (ai (ai rfl rfl) (ai rfl (ai rfl (fun _ _=>rfl))))) (ai rfl (ai rfl (ai rfl (fun _ _=>rfl)))))) (⟨by show bs.length≤1000000;omega,by show (nm.getD x.idx.toNat []).length≤1000000;exact ahV hnk (by decide)⟩) ?_
  refine ei [0,3] (ai (ai rfl (ai rfl rfl)) (ai (by exact trivial) ?_))
  refine (ai (ai rfl (ai (ai rfl rfl) (ai rfl (ai rfl (fun _ _=>rfl))))) (ai rfl (ai rfl (ai ?_ ?_))))
  ·exact congrArg List.length (congrArg (fun t=>bs++t) hW.symm)
  ·exact fun k _=>congrArg (fun l=>[cP (l.getD k 0)]) (congrArg (fun t=>bs++t) hW.symm)
 exact absurd hQ h1
theorem amy:jy Tryz.prog 141 (wrC fun a=>a.st=false∧a.x.op=1):=by
 refine nZ (Tb:=tab) mixed aB Tryz.func141 rfl rfl ?_
 rintro ⟨st,nm,bs,x,out⟩ hpre
 refine ai (ai rfl (ai rfl rfl)) ?_
 obtain ⟨⟨hg,hs,hnm,hnl,hlen⟩,hst,hQ⟩:=hpre
 obtain rfl:st=false:=hst
 have hg:lK nm.length x:=hg
 have hnm:abA nm:=hnm
 have hlen:bs.length+110*x.size≤500000:=hlen
 obtain ⟨hn0,hga⟩:=(wF _ _).1 hg
 obtain ⟨ho,hle,hi⟩:=rz hn0
 have hA:=pE nm x
 have hQ:x.op=1:=hQ
 refine ah (p:=x.op=0) (gD (by omega)) (fun h0=>?_) (fun h0=>?_)
 ·exact absurd h0 (by omega)
 rw[if_neg h0] at hA
 refine ah (p:=x.op=1) (gD (by omega)) (fun h1=>?_) (fun h1=>?_)
 ·rw[if_pos h1] at hA
  have hnk:(nm.getD x.idx.toNat []).length≤100:=hnm _
  have ht:abC x.op nm.length=nm.length-1:=by rw[h1];rfl
  rw[ht] at hi
  have hW:om nm x out=nm.getD x.idx.toNat []:=by
   unfold om wrB;rw[hA,h1];rfl
  refine ei (.one 0 (.one 1 (.one 2 (.one 3 (.one 4 (.one 5 (.one 6 (.one 7 (.one 8 (.one 9 (.one 10 (.wr 11 .done)))))))))))) (ai (by kernel_rfl) ?_)
  refine ai (ai hi.1 (by show x.idx<(nm.length:Int);omega)) ?_
  refine ai rfl ?_
  refine dQ (agq) ((false,nm,bs,nm.getD x.idx.toNat [])) [0,1] (a4 (ai rfl rfl)) (Or.inl rfl) (by exact (ai (ai rfl rfl) rfl)) (by exact (ai (ai rfl (ai rfl (ai rfl (ai rfl (fun _ _=>rfl))))) (ai rfl (ai rfl (ai rfl (fun _ _=>rfl)))))) (⟨by show bs.length≤1000000;omega,by show (nm.getD x.idx.toNat []).length≤1000000;exact ahV hnk (by decide)⟩) ?_
  refine ei [0,3] (ai (ai rfl (ai rfl rfl)) (ai (by exact trivial) ?_))
  refine (ai (ai rfl (ai (ai rfl rfl) (ai rfl (ai rfl (fun _ _=>rfl))))) (ai rfl (ai rfl (ai ?_ ?_))))
  ·exact congrArg List.length (congrArg (fun t=>bs++t) hW.symm)
  ·exact fun k _=>congrArg (fun l=>[cP (l.getD k 0)]) (congrArg (fun t=>bs++t) hW.symm)
 exact absurd hQ h1
theorem aqH:jy Tryz.prog 141 (wrC fun a=>a.st=false∧(a.x.op=3∧a.out<0)∧∀y∈a.x.args,y.op=1):=by
 refine nZ (Tb:=tab) mixed aB Tryz.func141 rfl rfl ?_
 rintro ⟨st,nm,bs,x,out⟩ hpre
 refine ai (ai rfl (ai rfl rfl)) ?_
 obtain ⟨⟨hg,hs,hnm,hnl,hlen⟩,hst,hQ,hv⟩:=hpre
 obtain rfl:st=false:=hst
 have hv:∀y∈x.args,y.op=1:=hv
 have hg:lK nm.length x:=hg
 have hs:x.size≤256:=hs
 have hnm:abA nm:=hnm
 have hnl:nm.length≤256:=hnl
 have hlen:bs.length+110*x.size≤500000:=hlen
 have hsp:=size_pos x
 have hal:=wm x
 have hsz:=x.size_eq
 obtain ⟨hn0,hga⟩:=(wF _ _).1 hg
 obtain ⟨ho,hle,hi⟩:=rz hn0
 have hA:=pE nm x
 have hQ:x.op=3∧out<0:=hQ
 refine ah (p:=x.op=0) (gD (by omega)) (fun h0=>?_) (fun h0=>?_)
 ·exact absurd h0 (by omega)
 rw[if_neg h0] at hA
 refine ah (p:=x.op=1) (gD (by omega)) (fun h1=>?_) (fun h1=>?_)
 ·exact absurd h1 (by omega)
 rw[if_neg h1] at hA
 refine ah (p:=x.op=2) (gD (by omega)) (fun h2=>?_) (fun h2=>?_)
 ·exact absurd h2 (by omega)
 rw[if_neg h2] at hA
 have hl2:2≤x.args.length:=by
  have:r9 x.op=2:=by unfold r9;rw[if_neg h2,if_pos (by omega)]
  omega
 have hW:om nm x out=dN nm x:=by
  unfold om wrB;rw[decide_eq_false (show ¬0≤out by omega)];simp[adu]
 refine ah (p:=0≤out) (fJ (by omega)) (fun h3=>?_) (fun h3=>?_)
 ·exact absurd h3 (by omega)
 refine ah (p:=x.op=4) (gD (by omega)) (fun h4=>?_) (fun h4=>?_)
 ·exact absurd h4 (by omega)
 ·refine ei (bI.inv { X:=Nat,up:=fun k=>[(71,.s (iA k))],uo:=fun k=>[⟨0,202,[.s (aqL false k),.rw 5 1 (iX nm (bs) [32,38,32] x.op x.args k).length (fun j=>[cP ((iX nm (bs) [32,38,32] x.op x.args k).getD j 0)]),.s (ssA nm)]⟩],inv:=fun k=>k≤x.args.length∧(True),meas:=fun k=>x.args.length-k,x0:=0 }) ?_
  refine ai (ai (ai (by exact (a4 (ai rfl rfl))) (ai ?_ ?_)) rfl) (ai (ai (aef _) ?_) ?_)
  ·exact (ai (ai (fun _=>rfl) (iE (by simp only[zz,reduceCtorEq];rfl))) rfl)
  ·refine (ai (ai (ai (ai nof rfl) rfl) (ai (ai rfl (ai rfl (ai ?_ ?_))) (ai (ai nof (ai rfl (fun _ _=>rfl))) rfl))) trivial)
   ·exact congrArg List.length (uq nm (bs) [32,38,32] x.op x.args).symm
   ·exact fun j _=>congrArg (fun l=>[cP (l.getD j 0)]) (uq nm (bs) [32,38,32] x.op x.args).symm
  ·trivial
  intro (k:Nat) ⟨hk,_⟩
  have hpl:=aly (nm:=nm) (base:=bs) (sep:=[32,38,32]) (o:=x.op) hnm rfl hk
  cases k with
  | zero=>
   have hk0:0<x.args.length:=by omega
   refine ah (p:=0<x.args.length) (av (by dsimp only;omega)) (fun h5=>?_) (fun h5=>?_)
   ·refine ai (ai (abJ _) (iN (n:=x.args.length) (by omega))) (ai rfl ?_)
    have hy:x.args.getD 0 dz∈x.args:=aee (aap hk0)
    have hms:=kL hy
    have hb0:=congrArg List.length (uq nm (bs) [32,38,32] x.op x.args)
    have hB:(bs).length≤bs.length+1:=by simp
    refine dQ (amy) (⟨false,nm,iX nm (bs) [32,38,32] x.op x.args 0,x.args.getD 0 dz,x.op⟩) [0,3] (a4 (ai rfl rfl)) (Or.inl rfl) (by exact (ai (ai rfl rfl) (ai (ai (iE (by simp only[zz,reduceCtorEq])) (ai (iE (by simp only[zz,reduceCtorEq])) (ai rfl (exE _)))) rfl))) (by exact (ai (ai rfl (ai rfl (ai rfl (ai rfl (fun _ _=>rfl))))) (ai rfl (ai rfl (ai rfl (fun _ _=>rfl)))))) (ai ⟨hga _ hy,by show (x.args.getD 0 dz).size≤256;omega,hnm,hnl,by show (iX nm (bs) [32,38,32] x.op x.args 0).length+110*(x.args.getD 0 dz).size≤_;omega⟩ ⟨rfl,hv _ hy⟩) ?_
    have eN:iX nm (bs) [32,38,32] x.op x.args 0++om nm (x.args.getD 0 dz) x.op=iX nm (bs) [32,38,32] x.op x.args (0+1):=by
     rw[aht nm _ ho.1,uq,alR hk0]
    refine ei (0+1) (ai (ai rfl rfl) (ai (ai (ai rfl (ai (ai rfl rfl) (ai (ai rfl rfl) (ai (ai (ai (fun _=>rfl) (aN (by omega))) rfl) (ai (ai (ai (ai rfl rfl) rfl) (ai (ai rfl (ai rfl (ai ?_ ?_))) (ai (ai nof (ai rfl (fun _ _=>rfl))) rfl))) trivial))))) rfl) (ai (ai (iL (by omega)) trivial) (iM (by omega)))))
    ·exact congrArg List.length eN
    ·exact fun j _=>congrArg (fun l=>[cP (l.getD j 0)]) eN
   ·exact absurd hk0 h5
  | succ k=>
   refine ah (p:=k+1<x.args.length) (av (by dsimp only;omega)) (fun h5=>?_) (fun h5=>?_)
   ·refine ai (ai (abJ _) (iN (n:=x.args.length) (by omega))) (ai rfl ?_)
    have hy:x.args.getD (k+1) dz∈x.args:=aee (aap h5)
    have hms:=kL hy
    have hss:=vK h5
    have hst:=ace x.args (k+1+1)
    have hB:(bs).length≤bs.length+1:=by simp
    rw[if_neg (by omega)] at hpl
    refine ah (p:=0<k+1) (av (by omega)) (fun h6=>?_) (fun h6=>?_)
    ·refine dQ (agq) ((true,nm,iX nm (bs) [32,38,32] x.op x.args (k+1),[32,38,32])) [0,3] (a4 (ai rfl rfl)) (Or.inl rfl) (by exact (ai (ai rfl rfl) rfl)) (by exact (ai (ai rfl (ai (ai rfl rfl) (ai rfl (ai rfl (fun _ _=>rfl))))) (ai rfl (ai rfl (ai rfl (fun _ _=>rfl)))))) (⟨by show (iX nm (bs) [32,38,32] x.op x.args (k+1)).length≤1000000;omega,by show ([32,38,32]:List UInt8).length≤1000000;simp⟩) ?_
     refine dQ (aqS) (⟨true,nm,iX nm (bs) [32,38,32] x.op x.args (k+1)++[32,38,32],x.args.getD (k+1) dz,x.op⟩) [0,5] (a4 (ai rfl rfl)) (Or.inl rfl) (by exact (ai (ai rfl rfl) (ai (ai (iE (by simp only[zz,reduceCtorEq])) (ai (iE (by simp only[zz,reduceCtorEq])) (ai rfl (exE _)))) rfl))) (by exact (ai (ai rfl (ai (ai rfl rfl) (ai rfl (ai rfl (fun _ _=>rfl))))) (ai rfl (ai rfl (ai rfl (fun _ _=>rfl)))))) (ai ⟨hga _ hy,by show (x.args.getD (k+1) dz).size≤256;omega,hnm,hnl,by show (iX nm (bs) [32,38,32] x.op x.args (k+1)++[32,38,32]).length+110*(x.args.getD (k+1) dz).size≤_;rw[aac];show (iX nm (bs) [32,38,32] x.op x.args (k+1)).length+3+110*(x.args.getD (k+1) dz).size≤_;omega⟩ ⟨rfl,hv _ hy⟩) ?_
     have eN:iX nm (bs) [32,38,32] x.op x.args (k+1)++[32,38,32]++om nm (x.args.getD (k+1) dz) x.op=iX nm (bs) [32,38,32] x.op x.args (k+1+1):=by
      rw[aht nm _ ho.1,ak3 h5]
     refine ei ((k+1)+1) (ai (ai rfl rfl) (ai (ai (ai rfl (ai (ai rfl rfl) (ai (ai rfl rfl) (ai (ai (ai (fun _=>rfl) (aN (by omega))) rfl) (ai (ai (ai (ai rfl rfl) rfl) (ai (ai rfl (ai rfl (ai ?_ ?_))) (ai (ai nof (ai rfl (fun _ _=>rfl))) rfl))) trivial))))) rfl) (ai (ai (iL (by omega)) trivial) (iM (by omega)))))
     ·exact congrArg List.length eN
     ·exact fun j _=>congrArg (fun l=>[cP (l.getD j 0)]) eN
    ·exact absurd (Nat.succ_pos k) h6
   ·have hke:k+1=x.args.length:=by omega
    have eT:iX nm (bs) [32,38,32] x.op x.args (k+1)=bs++dN nm x:=by
     rw[hke,alc,hA];unfold yX;rw[if_neg h4]
    refine ei [0,3] (ai (ai rfl (ai rfl rfl)) (ai (by exact trivial) ?_))
    refine (ai (ai rfl (ai (ai rfl rfl) (ai rfl (ai rfl (fun _ _=>rfl))))) (ai rfl (ai rfl (ai ?_ ?_))))
    ·exact congrArg List.length (eT.trans (congrArg (fun t=>bs++t) hW.symm))
    ·exact fun k _=>congrArg (fun l=>[cP (l.getD k 0)]) (eT.trans (congrArg (fun t=>bs++t) hW.symm))
def abo (x:Ex):Prop:=x.op=1∨x.op=3∧∀y∈x.args,y.op=1
theorem akS:jy Tryz.prog 141 (wrC fun a=>a.st=false∧a.out<0∧abo a.x):=
 ⟨amy.1,fun a hp base E vs w hg hh hA=>by
  obtain ⟨h1,h2,h3,h4⟩:=hp
  rcases h4 with h4 | ⟨h4,h5⟩
  ·exact amy.2 a ⟨h1,h2,h4⟩ base E vs w hg hh hA
  ·exact aqH.2 a ⟨h1,h2,⟨h4,h3⟩,h5⟩ base E vs w hg hh hA⟩
def ao7 (a:NM×Ex×Int):Prop:=ajf ⟨false,a.1,[],a.2.1,a.2.2⟩∧a.2.2<0∧abo a.2.1
theorem ai6:jy Tryz.prog 141 { A:=NM×Ex×Int,fix:=1,args:=fun a=>[.own 0 0,tL a.2.1,iA a.2.2],objs:=fun a=>[.cells 202 (pI :: y7 :: nmR a.1)],pre:=ao7,res:=fun _=>.tup [],objs':=fun a=>[bld 202 (nmR a.1),nH ([]++om a.1 a.2.1 a.2.2)] }:=
 agk (T:=202) (rest:=fun a:NM×Ex×Int=>nmR a.1) ⟨akS.1,fun a hp=>akS.2 ⟨false,a.1,[],a.2.1,a.2.2⟩ ⟨hp.1,rfl,hp.2.1,hp.2.2⟩⟩
def ail (a:Ex×NM):Prop:=jN a.2=0∧gQ a.1 a.2.length=0∧(∀k,(a.2.getD k []).length≤100)∧(∀s∈a.2,s≠[])∧a.1.size≤256∧(dN a.2 a.1).length≤4096∧abo a.1
theorem aiu:aM Tryz.prog 82 (bM (fun a:Ex×NM=>[tL a.1,ssA a.2]) ail (fun a=>.tup [sP (dN a.2 a.1),iP 0])):=by
 refine iZ [141,142,84] ?_
 refine aW (Tb:=tab) mixed aB Tryz.func82 rfl rfl ?_
 rintro ⟨x,nm⟩ hpre
 refine ai (ai rfl (ai rfl rfl)) ?_
 obtain ⟨h1,h2,h3,h4,h5,h6,h7⟩:=hpre
 have h1:jN nm=0:=h1
 have h2:gQ x nm.length=0:=h2
 have h3:∀k,(nm.getD k []).length≤100:=h3
 have h4:∀s∈nm,s≠[]:=h4
 have h5:x.size≤256:=h5
 have h6:(dN nm x).length≤4096:=h6
 obtain ⟨hn,_,hg⟩:=aa5.1 h2
 have hnl:∀s∈nm,s.length≤1000000:=fun s hs=>by
  obtain ⟨k,hk,rfl⟩:=aop hs
  have:=h3 k
  rw[aaM,aa8 hk] at this
  have this:(nm[k]).length≤100:=this
  omega
 refine ei _ (ai (alf) (ei (nm) (ei [] (ai (a4 (ai (fun _=>Or.inl rfl) (ai nof (Or.inl rfl)))) (ai (by exact (ai rfl (fun _ _=>rfl))) (ai trivial (ai (hnl) ?_)))))))
 refine aF (p:=jN nm=0) (bZ (by omega)) (fun g1=>?_) (fun g1=>?_)
 ·exact absurd h1 g1
 refine ei _ (ai (af6) (ei ((x,(nm.length:Int))) (ei [] (ai (a4 (ai (fun _=>Or.inl rfl) (ai nof (Or.inl rfl)))) (ai (by exact (ai (ai rfl (ai rfl (ai rfl (fun _ _=>rfl)))) rfl)) (ai trivial (ai ((by show x.size≤1000000;omega)) ?_)))))))
 refine aF (p:=gQ x nm.length=0) (bZ (by dsimp only;omega)) (fun g2=>?_) (fun g2=>?_)
 ·exact absurd h2 g2
 refine dQ (ai6) ((nm,x,-1)) [1] (a4 (ai rfl rfl)) (Or.inl rfl) (by exact (ai (ai rfl rfl) (ai (ai rfl (ai rfl (ai rfl (fun _ _=>rfl)))) rfl))) (by exact (ai rfl (ai rfl (ai rfl (ai rfl (fun _ _=>rfl)))))) (⟨⟨hg,h5,h3,by show nm.length≤256;omega,by show 0+110*x.size≤500000;omega⟩,(by show (-1:Int)<0;decide),h7⟩) ?_
 have eW:([]:List UInt8)++om nm x (-1)=dN nm x:=by rw[anI (by decide)];rfl
 refine dQ (aoj) ((nm,[]++om nm x (-1))) [1,2] (a4 (ai rfl rfl)) (Or.inl rfl) (by exact (ai rfl rfl)) (by exact (ai (ai rfl (ai (ai rfl rfl) (ai rfl (ai rfl (fun _ _=>rfl))))) (ai rfl (ai rfl (ai rfl (fun _ _=>rfl)))))) (trivial) ?_
 refine ah (p:=4096<(([]:List UInt8)++om nm x (-1)).length) (av (by dsimp only;omega)) (fun g3=>?_) (fun g3=>?_)
 ·rw[eW] at g3;exact absurd h6 (by omega)
 refine akq (ah0 202 3) rfl rfl rfl rfl ([]++om nm x (-1)) rfl (by rw[eW];exact alA hg h4) (fun k _=>rfl) ?_
 refine ai (ai (fun _=>(by exact (ai trivial trivial))) ?_) trivial
 show aC _ (PV.tup [sP (dN nm x),iP 0])
 rw[show dN nm x=[]++om nm x (-1) from eW.symm]
 exact (ai rfl rfl)
def am1 (c:bC):Prop:=lF c∧(cK c=0→∀t∈c.trs,t.wh.size≤120∧abo t.wh)
theorem amo {c:bC} (h:cK c=0) (h2:∀t∈c.trs,t.wh.size≤120∧abo t.wh) {k:Nat} (hk:k<c.trs.length):ail ((c.trs.getD k ak).wh,dH c):=by
 have hn:=(qx h).2.2.1
 have hs:=h2 _ (aee (bT ak hk))
 refine ⟨aiy h,?_,amU h,fun s hm e=>?_,by show (c.trs.getD k ak).wh.size≤256;omega,?_,hs.2⟩
 ·show gQ (c.trs.getD k ak).wh ((dH c).length:Int)=0
  rw[hn];exact (oD h hk).2.2
 ·have:=((qx h).1 s hm).2
  rw[e] at this;exact absurd this (by decide)
 ·have:=acZ (afP h) _ _ (afi (c.trs.getD k ak).wh.size)
  show (dN (dH c) (c.trs.getD k ak).wh).length≤4096
  omega
set_option maxHeartbeats 4000000 in
theorem ab1:aM Tryz.prog 24 (fnG (fun c:bC=>[kE c]) am1 tN):=by
 refine iZ [78,81,84] ?_
 refine aW (Tb:=tab) mixed aB Tryz.func24 rfl rfl ?_
 rintro (c:bC) hpre
 refine ai (ai rfl (ai rfl rfl)) ?_
 obtain ⟨ho,h40⟩:=hpre
 have ho:lF c:=ho
 refine ei _ (ai (ajM) (ei (c) (ei [] (ai (a4 (ai (fun _=>Or.inl rfl) (ai nof (Or.inl rfl)))) (ai (by exact (ai rfl (ai (ai rfl (fun _ _=>rfl)) (ai (ai rfl (fun _ _=>rfl)) (ai rfl (fun _ _=>rfl)))))) (ai trivial (ai (ho) ?_)))))))
 refine aF (p:=cK c=0) (bZ (by omega)) (fun h1=>?_) (fun h1=>?_)
 ·refine ai (ai (fun _=>(by exact (ai trivial trivial))) ?_) trivial
  show aC _ (tN c)
  rw[tN,if_neg h1]
  exact (ai rfl rfl)
 have hc:cK c=0:=h1
 have h40:∀t∈c.trs,t.wh.size≤120∧abo t.wh:=h40 hc
 obtain ⟨_,_,hs24,ht32,_⟩:=kG hc
 refine ei (bI.inv { X:=Nat,up:=fun k=>[(24,.s (iA k))],uo:=fun k=>[⟨1,143,[.s (aqB k),.rw 5 1 (bK c.sts k).length (adp (bK c.sts k))]⟩],inv:=fun k=>k≤c.sts.length∧(True),meas:=fun k=>c.sts.length-k,x0:=0 }) ?_
 refine ai (ai (ai (by exact (a4 (ai rfl rfl))) (ai ?_ ?_)) rfl) (ai (ai (aef _) ?_) ?_)
 ·exact (ai (ai (fun _=>rfl) (iE (by simp only[zz,reduceCtorEq];rfl))) rfl)
 ·exact (ai (ai (ai (ai (fun _=>rfl) rfl) rfl) rfl) trivial)
 ·trivial
 intro (k:Nat) ⟨hk,_⟩
 have hL:=agM hc hk
 cases k with
 | zero=>
  refine ah (p:=(0:Nat)<c.sts.length) (av (by omega)) (fun h2=>?_) (fun h2=>?_)
  ·refine ai (ai (abJ _) (iN (n:=c.sts.length) (by omega))) (ai rfl ?_)
   have hd:=vo (n:=(0:Nat)) (by omega)
   have hh:=ady (k:=(0:Nat)) (by omega)
   obtain ⟨g1,g2,g3,g4⟩:=agG hc h2
   refine ei _ (ai (wY) (ei ((0:Nat)) (ei [] (ai (a4 (ai (fun _=>Or.inl rfl) (ai nof (Or.inl rfl)))) (ai (by exact rfl) (ai trivial (ai ((by show (0:Nat)<100;omega)) ?_)))))))
   refine ai (oP (l:=stepW) (m:=dec ((0:Nat))) rfl rfl (by show 5+_≤_;omega)) (ai (oP (l:=stepW++dec ((0:Nat))) (m:=[58]) (dU _ _) rfl (by rw[aac];show 5+_+1≤_;omega)) ?_)
   refine dQ (rX) ((false,[],bK c.sts ((0:Nat)),gu ((0:Nat)))) [1,2] (a4 (ai rfl rfl)) (Or.inl rfl) ?_ (by exact (ai (ai rfl (ai rfl rfl)) (ai rfl (ai rfl (ai rfl (fun _ _=>rfl)))))) (⟨by show (bK c.sts ((0:Nat))).length≤1000000;omega,by show (gu ((0:Nat))).length≤1000000;omega⟩) ?_
   ·exact (ai (ai rfl rfl) rfl)
   refine ei (bI.inv { X:=Nat,up:=fun j=>[(37,.s (iA j))],uo:=fun j=>[⟨1,143,[.s (.own 1 0),.rw 5 1 ((bK c.sts ((0:Nat))++gu ((0:Nat)))++iD ((c.sts.getD ((0:Nat)) st0).st.take j)).length (adp ((bK c.sts ((0:Nat))++gu ((0:Nat)))++iD ((c.sts.getD ((0:Nat)) st0).st.take j)))]⟩],inv:=fun j=>j≤(c.sts.getD ((0:Nat)) st0).st.length∧(True),meas:=fun j=>(c.sts.getD ((0:Nat)) st0).st.length-j,x0:=0 }) ?_
   refine ai (ai (ai (by exact (a4 (ai rfl rfl))) (ai ?_ ?_)) rfl) (ai (ai (aef _) ?_) ?_)
   ·exact (ai (ai (fun _=>rfl) (iE (by simp only[zz,reduceCtorEq];rfl))) rfl)
   ·refine (ai (ai (ai (ai rfl rfl) rfl) (ai rfl (ai rfl (ai ?_ ?_)))) trivial)
    ·show (bK c.sts ((0:Nat))++gu ((0:Nat))).length=((bK c.sts ((0:Nat))++gu ((0:Nat)))++[]).length
     rw[apD]
    ·exact lq (by show _=_++[];rw[apD])
   ·trivial
   intro (j:Nat) ⟨hj,_⟩
   have hT:=adt ((c.sts.getD ((0:Nat)) st0).st.take j)
   rw[ahR] at hT
   refine ah (p:=j<(c.sts.getD ((0:Nat)) st0).st.length) (by simp only[zz,reduceCtorEq];omega) (fun h3=>?_) (fun h3=>?_)
   ·refine ai (ai (abJ _) (iN (n:=(c.sts.getD ((0:Nat)) st0).st.length) (by omega))) (ai rfl ?_)
    have hw:(mX ((c.sts.getD ((0:Nat)) st0).st.getD j aV)).length=2:=rfl
    refine ei _ (ai (agb) (ei ((c.sts.getD ((0:Nat)) st0).st.getD j aV) (ei [] (ai (a4 (ai (fun _=>Or.inl rfl) (ai nof (Or.inl rfl)))) (ai (by exact (ai (iE (by simp only[zz,reduceCtorEq])) rfl)) (ai trivial (ai (sG g2 h3) ?_)))))))
    refine ai (oP (l:=[32]) (m:=mX ((c.sts.getD ((0:Nat)) st0).st.getD j aV)) rfl rfl (by rw[hw];decide)) ?_
    refine dQ (rX) ((true,[],(bK c.sts ((0:Nat))++gu ((0:Nat)))++iD ((c.sts.getD ((0:Nat)) st0).st.take j),[32]++mX ((c.sts.getD ((0:Nat)) st0).st.getD j aV))) [1,5] (a4 (ai rfl rfl)) (Or.inl rfl) ?_ (by exact (ai (ai rfl (ai (ai rfl rfl) rfl)) (ai rfl (ai rfl (ai rfl (fun _ _=>rfl)))))) (⟨by show ((bK c.sts ((0:Nat))++gu ((0:Nat)))++iD ((c.sts.getD ((0:Nat)) st0).st.take j)).length≤1000000;simp only[aac,ah6,amE];omega,by show ([32]++mX ((c.sts.getD ((0:Nat)) st0).st.getD j aV)).length≤1000000;rw[aac,hw];decide⟩) ?_
    ·exact (ai (ai rfl rfl) rfl)
    have eN:((bK c.sts ((0:Nat))++gu ((0:Nat)))++iD ((c.sts.getD ((0:Nat)) st0).st.take j))++([32]++mX ((c.sts.getD ((0:Nat)) st0).st.getD j aV))=(bK c.sts ((0:Nat))++gu ((0:Nat)))++iD ((c.sts.getD ((0:Nat)) st0).st.take (j+1)):=by
     rw[aX aV h3]
     unfold iD
     rw[List.flatMap_append]
     simp
    refine ei (j+1) (ai (ai rfl rfl) (ai (ai (ai rfl (ai (ai rfl rfl) (ai (ai rfl rfl) (ai (ai (ai (fun _=>rfl) (aN (by omega))) rfl) (ai (ai (ai (ai rfl rfl) rfl) (ai rfl (ai rfl (ai ?_ ?_)))) trivial))))) rfl) (ai (ai (iL (by omega)) trivial) (iM (by omega)))))
    ·exact congrArg List.length eN
    ·exact lq eN
   obtain rfl:j=(c.sts.getD ((0:Nat)) st0).st.length:=by omega
   have et:(c.sts.getD ((0:Nat)) st0).st.take (c.sts.getD ((0:Nat)) st0).st.length=(c.sts.getD ((0:Nat)) st0).st:=afz
   rw[et] at hT
   refine ah (p:=0<(c.sts.getD ((0:Nat)) st0).wt) (av Iff.rfl) (fun h4=>?_) (fun h4=>?_)
   ·obtain ⟨w,hw⟩:∃w:Nat,(c.sts.getD ((0:Nat)) st0).wt=(w:Int):=⟨(c.sts.getD ((0:Nat)) st0).wt.toNat,by omega⟩
    have hd7:=abt (n:=w) (by omega)
    have e0:sM (c.sts.getD ((0:Nat)) st0).wt=[32]++dec w:=by unfold sM;rw[if_pos h4,hw];rfl
    refine ei _ (ai (afF) (ei (w) (ei [] (ai (a4 (ai (fun _=>Or.inl rfl) (ai nof (Or.inr rfl)))) (ai ?_ (ai (by exact trivial) (ai ((by show w≤1000000;omega)) ?_)))))))
    ·exact (iE (by simp only[zz,reduceCtorEq];omega))
    refine ai (oP (l:=[32]) (m:=dec w) rfl rfl (by show 1+_≤_;omega)) ?_
    refine dQ (rX) ((true,[],(bK c.sts ((0:Nat))++gu ((0:Nat)))++iD ((c.sts.getD ((0:Nat)) st0).st.take (c.sts.getD ((0:Nat)) st0).st.length),[32]++dec w)) [1,5] (a4 (ai rfl rfl)) (Or.inl rfl) ?_ (by exact (ai (ai rfl (ai (ai rfl rfl) rfl)) (ai rfl (ai rfl (ai rfl (fun _ _=>rfl)))))) (⟨by show ((bK c.sts ((0:Nat))++gu ((0:Nat)))++iD ((c.sts.getD ((0:Nat)) st0).st.take (c.sts.getD ((0:Nat)) st0).st.length)).length≤1000000;rw[et];simp only[aac,ah6,amE];omega,by show ([32]++dec w).length≤1000000;rw[aac];show 1+_≤_;omega⟩) ?_
    ·exact (ai (ai rfl rfl) rfl)
    refine dQ (acE) ((true,[],((bK c.sts ((0:Nat))++gu ((0:Nat)))++iD ((c.sts.getD ((0:Nat)) st0).st.take (c.sts.getD ((0:Nat)) st0).st.length))++([32]++dec w),10)) [1,6] (a4 (ai rfl rfl)) (Or.inl rfl) (by exact (ai (ai rfl rfl) (iE (by simp only[zz,reduceCtorEq];rfl)))) (by exact (ai (ai rfl (ai (ai rfl rfl) rfl)) (ai rfl (ai rfl (ai rfl (fun _ _=>rfl)))))) ((by show (((bK c.sts ((0:Nat))++gu ((0:Nat)))++iD ((c.sts.getD ((0:Nat)) st0).st.take (c.sts.getD ((0:Nat)) st0).st.length))++([32]++dec w)).length≤1000000;rw[et];simp only[aac,ah6,amE];omega)) ?_
    have eN:(((bK c.sts ((0:Nat))++gu ((0:Nat)))++iD ((c.sts.getD ((0:Nat)) st0).st.take (c.sts.getD ((0:Nat)) st0).st.length))++([32]++dec w))++[10]=bK c.sts ((0:Nat)+1):=by
     show _=bK c.sts ((0:Nat))++((((gu ((0:Nat))++iD (c.sts.getD ((0:Nat)) st0).st)++sM (c.sts.getD ((0:Nat)) st0).wt))++[10])
     rw[et,e0]
     simp only[arh]
    refine ei (((0:Nat))+1) (ai (ai rfl rfl) (ai (ai (ai rfl (ai (ai rfl rfl) (ai (ai rfl rfl) (ai (ai (ai (fun _=>rfl) (aN (by omega))) rfl) (ai (ai (ai (ai rfl rfl) rfl) (ai rfl (ai rfl (ai ?_ ?_)))) trivial))))) rfl) (ai (ai (iL (by omega)) trivial) (iM (by omega)))))
    ·exact congrArg List.length eN
    ·exact lq eN
   ·have e0:sM (c.sts.getD ((0:Nat)) st0).wt=[]:=by unfold sM;rw[if_neg h4]
    refine dQ (acE) ((true,[],(bK c.sts ((0:Nat))++gu ((0:Nat)))++iD ((c.sts.getD ((0:Nat)) st0).st.take (c.sts.getD ((0:Nat)) st0).st.length),10)) [1,5] (a4 (ai rfl rfl)) (Or.inl rfl) (by exact (ai (ai rfl rfl) (iE (by simp only[zz,reduceCtorEq];rfl)))) (by exact (ai (ai rfl (ai (ai rfl rfl) rfl)) (ai rfl (ai rfl (ai rfl (fun _ _=>rfl)))))) ((by show ((bK c.sts ((0:Nat))++gu ((0:Nat)))++iD ((c.sts.getD ((0:Nat)) st0).st.take (c.sts.getD ((0:Nat)) st0).st.length)).length≤1000000;rw[et];simp only[aac,ah6,amE];omega)) ?_
    have eN:((bK c.sts ((0:Nat))++gu ((0:Nat)))++iD ((c.sts.getD ((0:Nat)) st0).st.take (c.sts.getD ((0:Nat)) st0).st.length))++[10]=bK c.sts ((0:Nat)+1):=by
     show _=bK c.sts ((0:Nat))++((((gu ((0:Nat))++iD (c.sts.getD ((0:Nat)) st0).st)++sM (c.sts.getD ((0:Nat)) st0).wt))++[10])
     rw[et,e0,apD]
     simp only[arh]
    refine ei (((0:Nat))+1) (ai (ai rfl rfl) (ai (ai (ai rfl (ai (ai rfl rfl) (ai (ai rfl rfl) (ai (ai (ai (fun _=>rfl) (aN (by omega))) rfl) (ai (ai (ai (ai rfl rfl) rfl) (ai rfl (ai rfl (ai ?_ ?_)))) trivial))))) rfl) (ai (ai (iL (by omega)) trivial) (iM (by omega)))))
    ·exact congrArg List.length eN
    ·exact lq eN
  ·exact absurd hs24.1 (by omega)
 | succ k=>
  refine ah (p:=k+1<c.sts.length) (av (by omega)) (fun h2=>?_) (fun h2=>?_)
  ·refine ai (ai (abJ _) (iN (n:=c.sts.length) (by omega))) (ai rfl ?_)
   have hd:=vo (n:=k+1) (by omega)
   have hh:=ady (k:=k+1) (by omega)
   obtain ⟨g1,g2,g3,g4⟩:=agG hc h2
   refine ei _ (ai (wY) (ei (k+1) (ei [] (ai (a4 (ai (fun _=>Or.inl rfl) (ai nof (Or.inl rfl)))) (ai (by exact rfl) (ai trivial (ai ((by show k+1<100;omega)) ?_)))))))
   refine ai (oP (l:=stepW) (m:=dec (k+1)) rfl rfl (by show 5+_≤_;omega)) (ai (oP (l:=stepW++dec (k+1)) (m:=[58]) (dU _ _) rfl (by rw[aac];show 5+_+1≤_;omega)) ?_)
   refine dQ (rX) ((true,[],bK c.sts (k+1),gu (k+1))) [1,2] (a4 (ai rfl rfl)) (Or.inl rfl) ?_ (by exact (ai (ai rfl (ai (ai rfl rfl) rfl)) (ai rfl (ai rfl (ai rfl (fun _ _=>rfl)))))) (⟨by show (bK c.sts (k+1)).length≤1000000;omega,by show (gu (k+1)).length≤1000000;omega⟩) ?_
   ·exact (ai (ai rfl rfl) rfl)
   refine ei (bI.inv { X:=Nat,up:=fun j=>[(37,.s (iA j))],uo:=fun j=>[⟨1,143,[.s (.own 1 0),.rw 5 1 ((bK c.sts (k+1)++gu (k+1))++iD ((c.sts.getD (k+1) st0).st.take j)).length (adp ((bK c.sts (k+1)++gu (k+1))++iD ((c.sts.getD (k+1) st0).st.take j)))]⟩],inv:=fun j=>j≤(c.sts.getD (k+1) st0).st.length∧(True),meas:=fun j=>(c.sts.getD (k+1) st0).st.length-j,x0:=0 }) ?_
   refine ai (ai (ai (by exact (a4 (ai rfl rfl))) (ai ?_ ?_)) rfl) (ai (ai (aef _) ?_) ?_)
   ·exact (ai (ai (fun _=>rfl) (iE (by simp only[zz,reduceCtorEq];rfl))) rfl)
   ·refine (ai (ai (ai (ai rfl rfl) rfl) (ai rfl (ai rfl (ai ?_ ?_)))) trivial)
    ·show (bK c.sts (k+1)++gu (k+1)).length=((bK c.sts (k+1)++gu (k+1))++[]).length
     rw[apD]
    ·exact lq (by show _=_++[];rw[apD])
   ·trivial
   intro (j:Nat) ⟨hj,_⟩
   have hT:=adt ((c.sts.getD (k+1) st0).st.take j)
   rw[ahR] at hT
   refine ah (p:=j<(c.sts.getD (k+1) st0).st.length) (by simp only[zz,reduceCtorEq];omega) (fun h3=>?_) (fun h3=>?_)
   ·refine ai (ai (abJ _) (iN (n:=(c.sts.getD (k+1) st0).st.length) (by omega))) (ai rfl ?_)
    have hw:(mX ((c.sts.getD (k+1) st0).st.getD j aV)).length=2:=rfl
    refine ei _ (ai (agb) (ei ((c.sts.getD (k+1) st0).st.getD j aV) (ei [] (ai (a4 (ai (fun _=>Or.inl rfl) (ai nof (Or.inl rfl)))) (ai (by exact (ai (iE (by simp only[zz,reduceCtorEq])) rfl)) (ai trivial (ai (sG g2 h3) ?_)))))))
    refine ai (oP (l:=[32]) (m:=mX ((c.sts.getD (k+1) st0).st.getD j aV)) rfl rfl (by rw[hw];decide)) ?_
    refine dQ (rX) ((true,[],(bK c.sts (k+1)++gu (k+1))++iD ((c.sts.getD (k+1) st0).st.take j),[32]++mX ((c.sts.getD (k+1) st0).st.getD j aV))) [1,5] (a4 (ai rfl rfl)) (Or.inl rfl) ?_ (by exact (ai (ai rfl (ai (ai rfl rfl) rfl)) (ai rfl (ai rfl (ai rfl (fun _ _=>rfl)))))) (⟨by show ((bK c.sts (k+1)++gu (k+1))++iD ((c.sts.getD (k+1) st0).st.take j)).length≤1000000;simp only[aac,ah6,amE];omega,by show ([32]++mX ((c.sts.getD (k+1) st0).st.getD j aV)).length≤1000000;rw[aac,hw];decide⟩) ?_
    ·exact (ai (ai rfl rfl) rfl)
    have eN:((bK c.sts (k+1)++gu (k+1))++iD ((c.sts.getD (k+1) st0).st.take j))++([32]++mX ((c.sts.getD (k+1) st0).st.getD j aV))=(bK c.sts (k+1)++gu (k+1))++iD ((c.sts.getD (k+1) st0).st.take (j+1)):=by
     rw[aX aV h3]
     unfold iD
     rw[List.flatMap_append]
     simp
    refine ei (j+1) (ai (ai rfl rfl) (ai (ai (ai rfl (ai (ai rfl rfl) (ai (ai rfl rfl) (ai (ai (ai (fun _=>rfl) (aN (by omega))) rfl) (ai (ai (ai (ai rfl rfl) rfl) (ai rfl (ai rfl (ai ?_ ?_)))) trivial))))) rfl) (ai (ai (iL (by omega)) trivial) (iM (by omega)))))
    ·exact congrArg List.length eN
    ·exact lq eN
   obtain rfl:j=(c.sts.getD (k+1) st0).st.length:=by omega
   have et:(c.sts.getD (k+1) st0).st.take (c.sts.getD (k+1) st0).st.length=(c.sts.getD (k+1) st0).st:=afz
   rw[et] at hT
   refine ah (p:=0<(c.sts.getD (k+1) st0).wt) (av Iff.rfl) (fun h4=>?_) (fun h4=>?_)
   ·obtain ⟨w,hw⟩:∃w:Nat,(c.sts.getD (k+1) st0).wt=(w:Int):=⟨(c.sts.getD (k+1) st0).wt.toNat,by omega⟩
    have hd7:=abt (n:=w) (by omega)
    have e0:sM (c.sts.getD (k+1) st0).wt=[32]++dec w:=by unfold sM;rw[if_pos h4,hw];rfl
    refine ei _ (ai (afF) (ei (w) (ei [] (ai (a4 (ai (fun _=>Or.inl rfl) (ai nof (Or.inr rfl)))) (ai ?_ (ai (by exact trivial) (ai ((by show w≤1000000;omega)) ?_)))))))
    ·exact (iE (by simp only[zz,reduceCtorEq];omega))
    refine ai (oP (l:=[32]) (m:=dec w) rfl rfl (by show 1+_≤_;omega)) ?_
    refine dQ (rX) ((true,[],(bK c.sts (k+1)++gu (k+1))++iD ((c.sts.getD (k+1) st0).st.take (c.sts.getD (k+1) st0).st.length),[32]++dec w)) [1,5] (a4 (ai rfl rfl)) (Or.inl rfl) ?_ (by exact (ai (ai rfl (ai (ai rfl rfl) rfl)) (ai rfl (ai rfl (ai rfl (fun _ _=>rfl)))))) (⟨by show ((bK c.sts (k+1)++gu (k+1))++iD ((c.sts.getD (k+1) st0).st.take (c.sts.getD (k+1) st0).st.length)).length≤1000000;rw[et];simp only[aac,ah6,amE];omega,by show ([32]++dec w).length≤1000000;rw[aac];show 1+_≤_;omega⟩) ?_
    ·exact (ai (ai rfl rfl) rfl)
    refine dQ (acE) ((true,[],((bK c.sts (k+1)++gu (k+1))++iD ((c.sts.getD (k+1) st0).st.take (c.sts.getD (k+1) st0).st.length))++([32]++dec w),10)) [1,6] (a4 (ai rfl rfl)) (Or.inl rfl) (by exact (ai (ai rfl rfl) (iE (by simp only[zz,reduceCtorEq];rfl)))) (by exact (ai (ai rfl (ai (ai rfl rfl) rfl)) (ai rfl (ai rfl (ai rfl (fun _ _=>rfl)))))) ((by show (((bK c.sts (k+1)++gu (k+1))++iD ((c.sts.getD (k+1) st0).st.take (c.sts.getD (k+1) st0).st.length))++([32]++dec w)).length≤1000000;rw[et];simp only[aac,ah6,amE];omega)) ?_
    have eN:(((bK c.sts (k+1)++gu (k+1))++iD ((c.sts.getD (k+1) st0).st.take (c.sts.getD (k+1) st0).st.length))++([32]++dec w))++[10]=bK c.sts (k+1+1):=by
     show _=bK c.sts (k+1)++((((gu (k+1)++iD (c.sts.getD (k+1) st0).st)++sM (c.sts.getD (k+1) st0).wt))++[10])
     rw[et,e0]
     simp only[arh]
    refine ei ((k+1)+1) (ai (ai rfl rfl) (ai (ai (ai rfl (ai (ai rfl rfl) (ai (ai rfl rfl) (ai (ai (ai (fun _=>rfl) (aN (by omega))) rfl) (ai (ai (ai (ai rfl rfl) rfl) (ai rfl (ai rfl (ai ?_ ?_)))) trivial))))) rfl) (ai (ai (iL (by omega)) trivial) (iM (by omega)))))
    ·exact congrArg List.length eN
    ·exact lq eN
   ·have e0:sM (c.sts.getD (k+1) st0).wt=[]:=by unfold sM;rw[if_neg h4]
    refine dQ (acE) ((true,[],(bK c.sts (k+1)++gu (k+1))++iD ((c.sts.getD (k+1) st0).st.take (c.sts.getD (k+1) st0).st.length),10)) [1,5] (a4 (ai rfl rfl)) (Or.inl rfl) (by exact (ai (ai rfl rfl) (iE (by simp only[zz,reduceCtorEq];rfl)))) (by exact (ai (ai rfl (ai (ai rfl rfl) rfl)) (ai rfl (ai rfl (ai rfl (fun _ _=>rfl)))))) ((by show ((bK c.sts (k+1)++gu (k+1))++iD ((c.sts.getD (k+1) st0).st.take (c.sts.getD (k+1) st0).st.length)).length≤1000000;rw[et];simp only[aac,ah6,amE];omega)) ?_
    have eN:((bK c.sts (k+1)++gu (k+1))++iD ((c.sts.getD (k+1) st0).st.take (c.sts.getD (k+1) st0).st.length))++[10]=bK c.sts (k+1+1):=by
     show _=bK c.sts (k+1)++((((gu (k+1)++iD (c.sts.getD (k+1) st0).st)++sM (c.sts.getD (k+1) st0).wt))++[10])
     rw[et,e0,apD]
     simp only[arh]
    refine ei ((k+1)+1) (ai (ai rfl rfl) (ai (ai (ai rfl (ai (ai rfl rfl) (ai (ai rfl rfl) (ai (ai (ai (fun _=>rfl) (aN (by omega))) rfl) (ai (ai (ai (ai rfl rfl) rfl) (ai rfl (ai rfl (ai ?_ ?_)))) trivial))))) rfl) (ai (ai (iL (by omega)) trivial) (iM (by omega)))))
    ·exact congrArg List.length eN
    ·exact lq eN
  ·have hkn:k+1=c.sts.length:=by omega
   refine ei (bI.inv { X:=Nat,up:=fun i=>[(66,.s (iA i))],uo:=fun i=>[⟨1,143,[.s (.own 1 0),.rw 5 1 (bK c.sts (k+1)++mO (dH c) c.trs i).length (adp (bK c.sts (k+1)++mO (dH c) c.trs i))]⟩],inv:=fun i=>i≤c.trs.length∧(True),meas:=fun i=>c.trs.length-i,x0:=0 }) ?_
   refine ai (ai (ai (by exact (a4 (ai rfl rfl))) (ai ?_ ?_)) rfl) (ai (ai (aef _) ?_) ?_)
   ·exact (ai (ai (fun _=>rfl) (iE (by simp only[zz,reduceCtorEq];rfl))) rfl)
   ·refine (ai (ai (ai (ai rfl rfl) rfl) (ai rfl (ai rfl (ai ?_ ?_)))) trivial)
    ·show (bK c.sts (k+1)).length=(bK c.sts (k+1)++[]).length
     rw[apD]
    ·exact lq (by show _=_++[];rw[apD])
   ·trivial
   intro (i:Nat) ⟨hi,_⟩
   have hM:=agA hc hi
   refine ah (p:=i<c.trs.length) (av (by omega)) (fun h5=>?_) (fun h5=>?_)
   ·refine ai (ai (abJ _) (iN (n:=c.trs.length) (by omega))) (ai rfl ?_)
    obtain ⟨⟨q1,q2⟩,q3,q4,q5⟩:=ahI hc h5
    obtain ⟨⟨p1,p2⟩,p3,p4⟩:=ahl hc h5
    have x1:=wH (oD hc h5).1.1 (by decide)
    have x2:=wH (oD hc h5).2.1.1 (by decide)
    refine ei (.seq [0,1,2,3,4,5,6,7,8,9]) (ai (by kernel_rfl) ?_)
    refine ei _ (ai (apN) (ei (c) (ei [] (ai (a4 (ai (fun _=>Or.inl rfl) (ai nof (Or.inl rfl)))) (ai (by exact (ai rfl (ai (ai rfl (fun _ _=>rfl)) (ai (ai rfl (fun _ _=>rfl)) (ai rfl (fun _ _=>rfl)))))) (ai trivial (ai (als hc) ?_)))))))
    refine ei _ (ai (aiu) (ei (((c.trs.getD i ak).wh,dH c)) (ei [] (ai (a4 (ai (fun _=>Or.inl rfl) (ai nof (Or.inl rfl)))) (ai (by exact (ai (ai (iE (by simp only[zz,reduceCtorEq])) (ai (iE (by simp only[zz,reduceCtorEq])) (ai rfl (fun _ _=>rfl)))) (ai rfl (fun _ _=>rfl)))) (ai trivial (ai (amo hc h40 h5) ?_)))))))
    refine ei (.one 0 (.one 1 (.one 4 (.one 5 (.one 9 (.one 2 (.one 3 (.one 6 (.one 7 (.one 8 (.one 10 (.one 11 (.wr 12 .done))))))))))))) (ai (by kernel_rfl) ?_)
    refine ei _ (ai (ac6) (ei ((c.trs.getD i ak).fr) (ei [] (ai (a4 (ai (fun _=>Or.inl rfl) (ai nof (Or.inl rfl)))) (ai (by exact (ai rfl (fun _ _=>rfl))) (ai trivial (ai (⟨x1,by show (c.trs.getD i ak).fr.length≤1000;omega⟩) ?_)))))))
    refine ai (oP (l:=inT (c.trs.getD i ak).fr) (m:=[32,62,32]) rfl rfl (by show _+3≤_;omega)) ?_
    refine ei _ (ai (ac6) (ei ((c.trs.getD i ak).to) (ei [] (ai (a4 (ai (fun _=>Or.inl rfl) (ai nof (Or.inl rfl)))) (ai (by exact (ai rfl (fun _ _=>rfl))) (ai trivial (ai (⟨x2,by show (c.trs.getD i ak).to.length≤1000;omega⟩) ?_)))))))
    have hX2:(strOf (inT (c.trs.getD i ak).fr)++strOf [32,62,32])++strOf (inT (c.trs.getD i ak).to)=strOf ((inT (c.trs.getD i ak).fr++[32,62,32])++inT (c.trs.getD i ak).to):=by rw[dU,dU]
    have hX3:((strOf (inT (c.trs.getD i ak).fr)++strOf [32,62,32])++strOf (inT (c.trs.getD i ak).to))++strOf [58,32]=strOf (((inT (c.trs.getD i ak).fr++[32,62,32])++inT (c.trs.getD i ak).to)++[58,32]):=by rw[hX2,dU]
    have hX4:(((strOf (inT (c.trs.getD i ak).fr)++strOf [32,62,32])++strOf (inT (c.trs.getD i ak).to))++strOf [58,32])++strOf (dN (dH c) (c.trs.getD i ak).wh)=strOf ((((inT (c.trs.getD i ak).fr++[32,62,32])++inT (c.trs.getD i ak).to)++[58,32])++dN (dH c) (c.trs.getD i ak).wh):=by rw[hX3,dU]
    have hX5:((((strOf (inT (c.trs.getD i ak).fr)++strOf [32,62,32])++strOf (inT (c.trs.getD i ak).to))++strOf [58,32])++strOf (dN (dH c) (c.trs.getD i ak).wh))++strOf [10]=strOf (lnT (dH c) (c.trs.getD i ak)):=by rw[hX4,dU];rfl
    refine ai (oP (l:=inT (c.trs.getD i ak).fr++[32,62,32]) (m:=inT (c.trs.getD i ak).to) (dU _ _) rfl (by simp only[aac,ah6,amE];omega)) ?_
    refine ai (oP (l:=(inT (c.trs.getD i ak).fr++[32,62,32])++inT (c.trs.getD i ak).to) (m:=[58,32]) hX2 rfl (by simp only[aac,ah6,amE];omega)) ?_
    refine ai (oP (l:=((inT (c.trs.getD i ak).fr++[32,62,32])++inT (c.trs.getD i ak).to)++[58,32]) (m:=dN (dH c) (c.trs.getD i ak).wh) hX3 rfl (by simp only[aac,ah6,amE];omega)) ?_
    refine ai (oP (l:=(((inT (c.trs.getD i ak).fr++[32,62,32])++inT (c.trs.getD i ak).to)++[58,32])++dN (dH c) (c.trs.getD i ak).wh) (m:=[10]) hX4 rfl (by simp only[aac,ah6,amE];omega)) ?_
    refine dQ (rX) ((true,[],bK c.sts (k+1)++mO (dH c) c.trs i,lnT (dH c) (c.trs.getD i ak))) [1,3] (a4 (ai rfl rfl)) (Or.inl rfl) ?_ (by exact (ai (ai rfl (ai (ai rfl rfl) rfl)) (ai rfl (ai rfl (ai rfl (fun _ _=>rfl)))))) (⟨by show (bK c.sts (k+1)++mO (dH c) c.trs i).length≤1000000;rw[aac];omega,by show (lnT (dH c) (c.trs.getD i ak)).length≤1000000;omega⟩) ?_
    ·exact (ai (ai rfl rfl) rfl)
    have eN:(bK c.sts (k+1)++mO (dH c) c.trs i)++lnT (dH c) (c.trs.getD i ak)=bK c.sts (k+1)++mO (dH c) c.trs (i+1):=by rw[mO,arh]
    refine ei (i+1) (ai (ai rfl rfl) (ai (ai (ai rfl (ai (ai rfl rfl) (ai (ai rfl rfl) (ai (ai (ai (fun _=>rfl) (aN (by omega))) rfl) (ai (ai (ai (ai rfl rfl) rfl) (ai rfl (ai rfl (ai ?_ ?_)))) trivial))))) rfl) (ai (ai (iL (by omega)) trivial) (iM (by omega)))))
    ·exact congrArg List.length eN
    ·exact lq eN
   ·obtain rfl:i=c.trs.length:=by omega
    have hne:bK c.sts (k+1)++mO (dH c) c.trs c.trs.length≠[]:=fun e=>by
     have:=congrArg List.length e
     rw[aac,bK,aac] at this
     have h7:0<(lnK k (c.sts.getD k st0)).length:=by unfold lnK;rw[aac];exact Nat.succ_pos _
     have:(bK c.sts k).length+(lnK k (c.sts.getD k st0)).length+(mO (dH c) c.trs c.trs.length).length=0:=this
     omega
    refine akq (ah0 143 2) rfl rfl rfl rfl (bK c.sts (k+1)++mO (dH c) c.trs c.trs.length) rfl hne (fun j _=>rfl) ?_
    have eT:ajn c=bK c.sts (k+1)++mO (dH c) c.trs c.trs.length:=by unfold ajn;rw[hkn]
    refine ai (ai (fun _=>(by exact (ai trivial trivial))) ?_) trivial
    show aC _ (tN c)
    rw[tN,if_pos hc,hc,eT]
    exact (ai rfl rfl)
def amL:List (Nat×(List Nat→SV))→Nat→List Nat→SV
 | [],_,_=>.any
 | (k,v) :: l,i,ns=>match k.beq i with
  | true=>v ns
  | false=>amL l i ns
def amS:List (Nat×List Nat)→Nat→List Nat
 | [],_=>[]
 | (k,v) :: l,i=>match k.beq i with
  | true=>v
  | false=>amS l i
def amJ:List (Nat×(List Nat→Ob))→Nat→List Nat→Ob
 | [],_,_=>.cells 0 []
 | (k,v) :: l,i,ns=>match k.beq i with
  | true=>v ns
  | false=>amJ l i ns
def hd0:List Nat→Nat
 | []=>0
 | n :: _=>n
def za (l:List Int):PV:=.seq l.length (bf 1 (l.map iP))
def afN (fr to:List Int) (x:Ex):List PV:=[za fr,za to,iP x.op,iP x.idx,.seq x.args.length (exF x.args)]
def fkE:List PV:=afN [0] [1,2] (oh true)++afN [1,2] [0] (oh true)
def fkF (a:Bool):Nat→List PV:=if a=true then lJ (bf 5 fkE) 1 0 [za [1]] else bf 5 fkE
def iU (a:Bool):PV:=.agg [iP 1,.val (.slice none 0 0),.seq 3 (fun _=>[.val (.slice none 0 0),iP 0]),.seq 2 (fkF a)]
def fkX:SV:=.p true (exP (oh true))
def fkI (l:List Int):SV:=.p false (za l)
def fkT (fr to:List Int):SV:=.p false (.agg (afN fr to (oh true)))
def fkS:lI where
 l:=[0,1,2,3,4,5,6,7,8,9,10,11]
 own:=[9,11]
 u:=amS [(9,[9]),(10,[9]),(11,[11])]
 f:=amL [(0,fun _=>.p false (.seq 3 (fun _=>[.val (.slice none 0 0),iP 0]))),(1,fun _=>fkI [0]),(2,fun _=>fkI [1,2]),(3,fun _=>fkX),(4,fun _=>fkT [0] [1,2]),
  (5,fun _=>fkI [1,2]),(6,fun _=>fkI [0]),(7,fun _=>fkX),(8,fun _=>fkT [1,2] [0]),(9,fun ns=>.row (hd0 ns)),
  (10,fun ns=>.agg [.p true (iP 1),.p true (.val (.slice none 0 0)),.p false (.seq 3 (fun _=>[.val (.slice none 0 0),iP 0])),.row (hd0 ns)]),(11,fun ns=>.own (hd0 ns) 0)]
 ob:=amJ [(9,fun _=>.row 81 5 2 (bf 5 (afN [0] [1,2] (oh true)++afN [1,2] [0] (oh true)))),
  (11,fun _=>.cells 26 [.p true (iP 0),.p true (.val (.slice none 0 0)),.p true (.val (.slice none 0 0)),.p true (.val (.slice none 0 0))])]
theorem aiL:aM Tryz.prog 58 (iq (fun a:Bool=>[.p false (bP a)]) (fun _=>True) iU):=by
 refine iZ [4000006,4000007,4000008,4000011,4000012,4000020] ?_
 refine aW (Tb:=tab) mixed aB Tryz.func58 rfl rfl ?_
 rintro (a:Bool) hpre
 refine ai (ai rfl (ai rfl rfl)) ?_
 refine ei _ (ai (alG) (ei (true) (ei [] (ai (a4 (ai (fun _=>Or.inl rfl) (ai nof (Or.inl rfl)))) (ai (by exact rfl) (ai trivial (ai (trivial) ?_)))))))
 refine ei (.set fkS (.one 12 .done)) (ai (by kernel_rfl) (ai ?_ ?_))
 ·repeat' (first | exact trivial | refine ai ?_ ?_ | exact amT.mk rfl rfl rfl rfl | intro s | decide)
 refine ai trivial (ai (ai trivial (ai ?_ trivial)) (ai (ai trivial (ai ?_ trivial)) trivial))
 ·refine bE (b:=a) rfl (fun h=>?_) (fun h=>?_)
  ·refine ai (ai (by decide) (by decide)) (ai (ai (by decide) (by decide)) ?_)
   refine ai (ai (fun h=>absurd (show false=true from h) (by decide)) ?_) trivial
   show aC _ (iU a)
   rw[show iU a=.agg [iP 1,.val (.slice none 0 0),.seq 3 (fun _=>[.val (.slice none 0 0),iP 0]),.seq 2 (lJ (bf 5 fkE) 1 0 [za [1]])] by unfold iU fkF;rw[if_pos h]]
   exact (ai rfl (ai rfl (ai (ai rfl (fun _ _=>rfl)) (ai rfl (fun _ _=>rfl)))))
  ·refine ai (ai (fun h=>absurd (show false=true from h) (by decide)) ?_) trivial
   show aC _ (iU a)
   rw[show iU a=.agg [iP 1,.val (.slice none 0 0),.seq 3 (fun _=>[.val (.slice none 0 0),iP 0]),.seq 2 (bf 5 fkE)] by unfold iU fkF;rw[if_neg (by rw[h];decide)]]
   exact (ai rfl (ai rfl (ai (ai rfl (fun _ _=>rfl)) (ai rfl (fun _ _=>rfl)))))
 ·refine bE (b:=a) rfl (fun h=>?_) (fun h=>?_)
  ·refine ai (ai (by decide) (by decide)) (ai (ai (by decide) (by decide)) ?_)
   refine ai (ai (fun h=>absurd (show false=true from h) (by decide)) ?_) trivial
   show aC _ (iU a)
   rw[show iU a=.agg [iP 1,.val (.slice none 0 0),.seq 3 (fun _=>[.val (.slice none 0 0),iP 0]),.seq 2 (lJ (bf 5 fkE) 1 0 [za [1]])] by unfold iU fkF;rw[if_pos h]]
   exact (ai rfl (ai rfl (ai (ai rfl (fun _ _=>rfl)) (ai rfl (fun _ _=>rfl)))))
  ·refine ai (ai (fun h=>absurd (show false=true from h) (by decide)) ?_) trivial
   show aC _ (iU a)
   rw[show iU a=.agg [iP 1,.val (.slice none 0 0),.seq 3 (fun _=>[.val (.slice none 0 0),iP 0]),.seq 2 (bf 5 fkE)] by unfold iU fkF;rw[if_neg (by rw[h];decide)]]
   exact (ai rfl (ai rfl (ai (ai rfl (fun _ _=>rfl)) (ai rfl (fun _ _=>rfl)))))
def jB (a:Bool):bC:=⟨1,[],[⟨[],0⟩,⟨[],0⟩,⟨[],0⟩],[⟨[0],[1,2],oh true⟩,⟨if a then [1] else [1,2],[0],oh true⟩]⟩
theorem aoi (a:Bool):fQ (iU a) (nU (jB a)):=by
 refine oQ (aZ (.refl _) (aZ (.nil _) (aZ (fO fun k hk=>?_) (aZ (fO fun k hk=>?_) jo))))
 ·match k,hk with
  | 0,_=>exact oZ (.nil _) (.refl _)
  | 1,_=>exact oZ (.nil _) (.refl _)
  | 2,_=>exact oZ (.nil _) (.refl _)
 ·have one:∀x:Int,fQ (za [x]) (oK [x]):=fun x=>fO fun k hk=>by match k,hk with | 0,_=>exact bW.rfl' _
  have two:∀x y:Int,fQ (za [x,y]) (oK [x,y]):=fun x y=>fO fun k hk=>by match k,hk with | 0,_=>exact bW.rfl' _ | 1,_=>exact bW.rfl' _
  match k,hk with
  | 0,_=>cases a<;>exact aZ (one 0) (aZ (two 1 2) (bW.rfl' _))
  | 1,_=>
   cases a
   ·exact aZ (two 1 2) (aZ (one 0) (bW.rfl' _))
   ·exact aZ (one 1) (aZ (one 0) (bW.rfl' _))
theorem ahJ:aM Tryz.prog 58 (iq (fun a:Bool=>[.p false (bP a)]) (fun _=>True) (fun a=>nU (jB a))):=aaq aiL fun a _=>aoi a
def three:gy:=⟨2,[⟨[(0,true)],0⟩,⟨[(1,true)],150⟩,⟨[(0,false),(1,false)],0⟩]⟩
def aoV (n:Int) (b:Bool):PV:=.seq 1 (bf 2 [iP n,bP b])
def sZ:PV:=.agg [iP 2,.seq 3 (bf 2 [aoV 0 true,iP 0,aoV 1 true,iP 150,.seq 2 (bf 2 [iP 0,bP false,iP 1,bP false]),iP 0])]
theorem ak5:aM Tryz.prog 57 (iq (fun _:Unit=>[]) (fun _=>True) (fun _=>sZ)):=by
 refine iZ [4000002,4000005,4000009,4000011] ?_
 refine aW (Tb:=tab) mixed aB Tryz.func57 rfl rfl ?_
 rintro (u:Unit) hpre
 refine ai (ai rfl (ai rfl rfl)) ?_
 refine ai (ai (fun h=>absurd (show false=true from h) (by decide)) ?_) trivial
 show aC _ (sZ)
 rw[show sZ=sZ from rfl]
 exact (ai rfl (ai rfl (fun _ _=>rfl)))
theorem alj:fQ sZ (.agg (sqK three)):=by
 refine oQ (aZ (.refl _) (aZ (fO fun k hk=>?_) jo))
 match k,hk with
 | 0,_=>exact oZ (fO fun k hk=>by match k,hk with | 0,_=>exact bW.rfl' _) (.refl _)
 | 1,_=>exact oZ (fO fun k hk=>by match k,hk with | 0,_=>exact bW.rfl' _) (.refl _)
 | 2,_=>exact oZ (fO fun k hk=>by match k,hk with | 0,_=>exact bW.rfl' _ | 1,_=>exact bW.rfl' _) (.refl _)
theorem alD:aM Tryz.prog 57 (iq (fun _:Unit=>[]) (fun _=>True) (fun _=>.agg (sqK three))):=aaq ak5 fun _ _=>alj
def vrX (n:Int):Ex:=.node 1 n []
def c3:bC:=⟨2,[[115,116,97,114,116]],[⟨[],0⟩,⟨[(0,true)],0⟩,⟨[(1,true)],0⟩,⟨[],150⟩,⟨[(0,false),(1,false)],0⟩],
 [⟨[0],[1],vrX 4⟩,⟨[1],[2],vrX 1⟩,⟨[2],[3],vrX 3⟩,⟨[3],[4],vrX 8⟩,⟨[4],[0],.node 3 0 [vrX 0,vrX 2]⟩]⟩
def al7:List UInt8:=[115,116,101,112,32,48,58,10,115,116,101,112,32,49,58,32,65,43,10,115,116,101,112,32,50,58,32,66,43,10,115,116,101,112,32,51,58,32,49,53,48,10,115,116,101,112,32,52,58,32,65,45,32,66,45,10,48,32,62,32,49,58,32,115,116,97,114,116,10,49,32,62,32,50,58,32,97,49,10,50,32,62,32,51,58,32,98,49,10,51,32,62,32,52,58,32,121,51,10,52,32,62,32,48,58,32,97,48,32,38,32,98,48,10]
theorem aoL:ofC three=c3:=by kernel_rfl
theorem ap4:kY three=0:=by decide +kernel
theorem apm:cK c3=0:=by decide +kernel
theorem anQ:ajn c3=al7:=by decide +kernel
theorem aph:mJ (lU c3)=[[false,false,false,false,true],[false,false,false,true,false],[false,false,true,false,false],[false,true,false,false,false],[true,false,false,false,false]]:=by decide +kernel
theorem ao3:mJ (lU (jB false))=[[false,true,true],[true,false,false]]:=by decide +kernel
theorem ex3:rQ c3=0:=by decide +kernel
theorem aqR:rQ (jB false)=0:=by decide +kernel
theorem aqC:rQ (jB true)=0:=by decide +kernel
theorem aoC:qL (jB true)=([0,1,0],true):=by decide +kernel
theorem alT:lF c3∧∀t∈c3.trs,t.wh.size≤120:=by
 refine ⟨⟨fun s hs=>?_,fun t ht=>?_⟩,fun t ht=>?_⟩
 ·have:∀s∈c3.sts,s.st.length≤2:=by decide
  have:=this s hs;omega
 ·have:∀t∈c3.trs,t.fr.length≤2∧t.to.length≤2∧t.wh.size≤10:=by decide +kernel
  have:=this t ht
  exact ⟨by omega,by omega,by omega⟩
 ·have:∀t∈c3.trs,t.wh.size≤10:=by decide +kernel
  have:=this t ht;omega
theorem aqu:∀t∈c3.trs,abo t.wh:=by
 intro t ht
 simp only[c3,ahF,List.mem_nil_iff,or_false] at ht
 rcases ht with rfl | rfl | rfl | rfl | rfl
 ·exact .inl rfl
 ·exact .inl rfl
 ·exact .inl rfl
 ·exact .inl rfl
 ·refine .inr ⟨rfl,fun y hy=>?_⟩
  simp only[ahF,List.mem_nil_iff,or_false,Ex.args] at hy
  rcases hy with rfl | rfl<;>rfl
theorem okF (a:Bool):lF (jB a)∧ajp (jB a):=by
 have h1:∀a,∀s∈(jB a).sts,s.st.length≤2:=by decide
 have h2:∀a,∀t∈(jB a).trs,t.fr.length≤2∧t.to.length≤2∧t.wh.size≤10:=by decide +kernel
 refine ⟨⟨fun s hs=>?_,fun t ht=>?_⟩,?_⟩
 ·have:=h1 a s hs;omega
 ·have:=h2 a t ht;exact ⟨by omega,by omega,by omega⟩
 ·cases a<;>exact ⟨by decide,by decide⟩
def mF:List (List Bool):=[[false,true,true],[true,false,false]]
section
variable {z : Int} (hz : z = 0)
include hz
theorem aol:aM Tryz.prog 18 (iq (fun _:Unit=>[uW three]) (fun _=>True) (fun _=>.tup [nU c3,iP z])):=
 jH xP three trivial (by show PV.tup [nU (ofC three),iP (kY three)]=_;rw[hz,aoL,ap4])
theorem apH:aM Tryz.prog 24 (fnG (fun _:Unit=>[kE c3]) (fun _=>True) (fun _=>.tup [sP al7,iP z])):=by
 have h:aM Tryz.prog 24 (fnG (fun _:Unit=>[kE c3]) (fun _=>True) (fun _=>tN c3)):=⟨ab1.1,fun _ _ E vs w hg hh hA=>ab1.2 c3 ⟨alT.1,fun _ t ht=>⟨alT.2 t ht,aqu t ht⟩⟩ E vs w hg hh hA⟩
 have e:tN c3=.tup [sP al7,iP z]:=by unfold tN;rw[if_pos apm,apm,anQ,hz]
 rw[e] at h;exact h
theorem aoN:aM Tryz.prog 29 (iq (fun _:Unit=>[kE c3]) (fun _=>True) (fun _=>.tup [bbP [[false,false,false,false,true],[false,false,false,true,false],[false,false,true,false,false],[false,true,false,false,false],[true,false,false,false,false]],iP z])):=
 jH aaO c3 alT.1 (by show pU c3=_;unfold pU;rw[hz,aph,ex3])
theorem ape:aM Tryz.prog 29 (iq (fun _:Unit=>[kE (jB false)]) (fun _=>True) (fun _=>.tup [bbP mF,iP z])):=
 jH aaO (jB false) (okF false).1 (by show pU (jB false)=_;unfold pU;rw[hz,ao3,aqR];rfl)
theorem apo:aM Tryz.prog 13 (iq (fun _:Unit=>[kE (jB true)]) (fun _=>True) (fun _=>.tup [bP false,oK [0,1,0],iP z])):=
 jH ano (jB true) (okF true).1 (by show wT (jB true)=_;unfold wT;rw[if_pos aqC,aoC,hz];rfl)
end
def rwM:PV:=.seq 2 (bf 1 [.seq 3 (bf 1 [bP false,bP true,bP true]),.seq 3 (bf 1 [bP true,bP false,bP false])])
theorem apt:fQ rwM (bbP mF):=fO fun k hk=>by
 match k,hk with
 | 0,_=>exact afW (fO fun k hk=>by match k,hk with | 0,_=>exact bW.rfl' _ | 1,_=>exact bW.rfl' _ | 2,_=>exact bW.rfl' _)
 | 1,_=>exact afW (fO fun k hk=>by match k,hk with | 0,_=>exact bW.rfl' _ | 1,_=>exact bW.rfl' _ | 2,_=>exact bW.rfl' _)
theorem smM:ajD mF:=⟨by decide,fun m hm=>by
 have:∀m∈mF,m.length≤3:=by decide
 have:=this m hm
 omega⟩
theorem al9:aM Tryz.prog 33 (bM (fun _:Unit=>[bbA mF,.p false rwM]) (fun _=>True) (fun _=>bP true)):=
 amb (y5 ajj (mF,mF) smM (by show bP (decide (mF=mF))=_;rw[decide_eq_true rfl];rfl)) fun _ _=>⟨.inl rfl,.inr ⟨_,_,rfl,rfl,apt⟩,trivial⟩
theorem aoT:aM Tryz.prog 59 (bM (fun _:Unit=>[isA [0,1,0],isA [0,1,0]]) (fun _=>True) (fun _=>bP true)):=
 y5 anM ([0,1,0],[0,1,0]) (by decide) rfl
def apU:Spec:=fnG (fun _:Unit=>[]) (fun _=>True) (fun _=>bP true)
theorem acW:aM Tryz.prog 12 apU:=by
 refine iZ [4000061,4000062,4000063,4000072] ?_
 refine aW (Tb:=tab) mixed aB Tryz.func12 rfl rfl ?_
 rintro ⟨⟩ hpre
 refine ai (ai rfl (ai rfl rfl)) ?_
 obtain ⟨z,hz⟩:∃z:Int,z=0:=⟨0,rfl⟩
 refine ei _ (ai (alD) (ei (()) (ei [] (ai (a4 (ai (fun _=>Or.inl rfl) (ai nof (Or.inl rfl)))) (ai (by exact trivial) (ai trivial (ai (trivial) ?_)))))))
 refine ei _ (ai ((aol hz)) (ei (()) (ei [] (ai (a4 (ai (fun _=>Or.inl rfl) (ai nof (Or.inl rfl)))) (ai (by exact (ai rfl (ai rfl (fun _ _=>rfl)))) (ai trivial (ai (trivial) ?_)))))))
 refine ei _ (ai ((apH hz)) (ei (()) (ei [] (ai (a4 (ai (fun _=>Or.inl rfl) (ai nof (Or.inr rfl)))) (ai (by exact (ai rfl (ai (ai rfl (fun _ _=>rfl)) (ai (ai rfl (fun _ _=>rfl)) (ai rfl (fun _ _=>rfl)))))) (ai trivial (ai (trivial) ?_)))))))
 refine ei _ (ai ((aoN hz)) (ei (()) (ei [] (ai (a4 (ai (fun _=>Or.inl rfl) (ai nof (Or.inl rfl)))) (ai (by exact (ai rfl (ai (ai rfl (fun _ _=>rfl)) (ai (ai rfl (fun _ _=>rfl)) (ai rfl (fun _ _=>rfl)))))) (ai trivial (ai (trivial) ?_)))))))
 refine ei _ (ai (ahJ) (ei (false) (ei [] (ai (a4 (ai (fun _=>Or.inl rfl) (ai nof (Or.inl rfl)))) (ai (by exact rfl) (ai trivial (ai (trivial) ?_)))))))
 refine ei _ (ai (ahG) (ei (jB false) (ei [] (ai (a4 (ai (fun _=>Or.inl rfl) (ai nof (Or.inl rfl)))) (ai (by exact (ai rfl (ai (ai rfl (fun _ _=>rfl)) (ai (ai rfl (fun _ _=>rfl)) (ai rfl (fun _ _=>rfl)))))) (ai trivial (ai ((okF false).2) ?_)))))))
 refine ei _ (ai ((ape hz)) (ei (()) (ei [] (ai (a4 (ai (fun _=>Or.inl rfl) (ai nof (Or.inl rfl)))) (ai (by exact (ai rfl (ai (ai rfl (fun _ _=>rfl)) (ai (ai rfl (fun _ _=>rfl)) (ai rfl (fun _ _=>rfl)))))) (ai trivial (ai (trivial) ?_)))))))
 refine ei _ (ai (ahJ) (ei (true) (ei [] (ai (a4 (ai (fun _=>Or.inl rfl) (ai nof (Or.inl rfl)))) (ai (by exact rfl) (ai trivial (ai (trivial) ?_)))))))
 refine ei _ (ai (ahG) (ei (jB true) (ei [] (ai (a4 (ai (fun _=>Or.inl rfl) (ai nof (Or.inl rfl)))) (ai (by exact (ai rfl (ai (ai rfl (fun _ _=>rfl)) (ai (ai rfl (fun _ _=>rfl)) (ai rfl (fun _ _=>rfl)))))) (ai trivial (ai ((okF true).2) ?_)))))))
 refine ei _ (ai ((apo hz)) (ei (()) (ei [] (ai (a4 (ai (fun _=>Or.inl rfl) (ai nof (Or.inl rfl)))) (ai (by exact (ai rfl (ai (ai rfl (fun _ _=>rfl)) (ai (ai rfl (fun _ _=>rfl)) (ai rfl (fun _ _=>rfl)))))) (ai trivial (ai (trivial) ?_)))))))
 refine bE (b:=true) (by simp only[hz,Int.add_zero,aoI];rfl) (fun _=>?_) (fun h=>absurd h (by decide))
 refine ei _ (ai (al9) (ei (()) (ei [] (ai (a4 (ai (fun _=>Or.inl rfl) (ai nof (Or.inl rfl)))) (ai ?_ (ai trivial (ai ?_ ?_)))))))
 ·exact (ai (ai rfl (fun _ _=>rfl)) (ai rfl (fun _ _=>rfl)))
 ·trivial
 refine ei _ (ai (aoT) (ei (()) (ei [] (ai (a4 (ai (fun _=>Or.inl rfl) (ai nof (Or.inl rfl)))) (ai ?_ (ai trivial (ai ?_ ?_)))))))
 ·refine (ai (ai rfl (fun _ _=>rfl)) (ai rfl ?_))
  (intro k hk;have hk:k<3:=hk;match k,hk with | 0,_=>rfl | 1,_=>rfl | 2,_=>rfl)
 ·trivial
 refine ai (ai (fun _=>trivial) ?_) trivial
 exact rfl
theorem adT:∀l:List Sk,sizes (l.map fun y=>nL (gP y))=l.length
 | []=>by simp[sizes]
 | y :: l=>by
  rw[amH,sizes,adT l,ah6]
  show (Ex.node 1 (gP y) []).size+l.length=_
  rw[Ex.size,sizes];omega
theorem aeD:∀l:List Sk,fU (l.map fun y=>nL (gP y))≤1
 | []=>by simp[fU]
 | y :: l=>by
  rw[amH,fU]
  have:=aeD l
  have h:(nL (gP y)).deep=1:=by show (Ex.node 1 (gP y) []).deep=1;rw[Ex.deep,fU]
  omega
theorem vQ (n:Int):iF (nL n)=true:=vO.2 ⟨by show (Ex.node 1 n []).size≤256;rw[Ex.size,sizes];omega,by show (Ex.node 1 n []).deep≤16;rw[Ex.deep,fU];omega⟩
theorem acN {l:List Sk} (h:l.length≤6):iF (.node 3 0 (l.map fun y=>nL (gP y)))=true:=by
 have h1:=adT l
 have h2:=aeD l
 exact vO.2 ⟨by rw[Ex.size];omega,by rw[Ex.deep];omega⟩
theorem acX {l:List Sk} (h:l.length≤6):iF (adP l)=true:=by
 match l,h with
 | [y],_=>exact vQ _
 | [],h=>exact acN h
 | a :: b :: l,h=>exact acN h
def okQ (q:SX):Prop:=q.1.st.length≤6∧iF q.2=true
theorem aoF {s:gy} (h:∀x∈s.sts,x.st.length≤6):∀q∈sU s,okQ q:=by
 have key:∀(l:List Stp) (p:List SX),(∀x∈l,x.st.length≤6)→(∀q∈p,okQ q)→∀q∈l.foldl (abF s.act) p,okQ q:=by
  intro l
  induction l with
  | nil=>intro p _ h;exact h
  | cons x l ih=>
   intro p hx h
   rw[arz]
   refine ih _ (fun y hy=>hx y (by simp[hy])) fun q hq=>?_
   have hx0:=hx x (by simp)
   unfold abF at hq
   split at hq
   ·rcases ahq.1 hq with hq | hq
    ·rcases ahq.1 hq with hq | hq
     ·exact h q hq
     ·simp only[agL] at hq;subst hq;exact ⟨hx0,acX hx0⟩
    ·simp only[agL] at hq;subst hq;exact ⟨aef _,vQ _⟩
   ·rcases ahq.1 hq with hq | hq
    ·exact h q hq
    ·simp only[agL] at hq;subst hq;exact ⟨hx0,acX hx0⟩
 exact key s.sts _ h fun q hq=>by simp only[agL] at hq;subst hq;exact ⟨aef _,vQ _⟩
theorem anz {s:gy} (h:kY s=0):eD s=0∧(sU s).length≤24:=by
 unfold kY at h
 split at h
 ·rename_i h1;exact absurd h h1
 ·rename_i h1
  split at h
  ·cases h
  ·rename_i h2
   rw[abh,akn] at h2
   exact ⟨aoJ.1 h1,by omega⟩
theorem adY (s:gy):ako (ofC s):=by
 unfold ofC
 split
 ·rename_i h
  obtain ⟨h1,h2⟩:=anz h
  obtain ⟨_,_,hck⟩:=seq_ok h1
  have hq:=aoF (s:=s) fun x hx=>(lT (hck x hx)).1.2
  refine ⟨⟨?_,?_⟩,?_,fun x hx=>?_,fun t ht=>?_⟩
  ·show ((sU s).map (·.1)).length≤_;rw[akn];omega
  ·show ((List.range (sU s).length).map (sV (sU s))).length≤_;rw[akn,ar9];omega
  ·show 1≤1000000;omega
  ·have hx:x∈(sU s).map (·.1):=hx
   obtain ⟨q,hq1,rfl⟩:=aqs.1 hx
   have:=(hq q hq1).1;omega
  ·have ht:t∈(List.range (sU s).length).map (sV (sU s)):=ht
   obtain ⟨k,hk,rfl⟩:=aqs.1 ht
   have hk:=ar0.1 hk
   exact ⟨by show 1≤1000000;omega,by show 1≤1000000;omega,(hq _ (aee (bT sx0 hk))).2⟩
 ·exact ⟨⟨aef _,aef _⟩,aef _,(fun x hx=>nomatch (show x∈([]:List Stp) from hx)),(fun t ht=>nomatch (show t∈([]:List kr) from ht))⟩
def aqF:Spec:=fnG (fun s:gy=>[uW s]) (fun _=>True) (fun _=>bP true)
theorem ajA:aM Tryz.prog 4 aqF:=by
 refine aW (Tb:=tab) mixed aB Tryz.func4 rfl rfl ?_
 rintro (s:gy) hpre
 refine ai (ai rfl (ai rfl rfl)) ?_
 refine ei _ (ai (alb) (ei (s) (ei [] (ai (a4 (ai (fun _=>Or.inl rfl) (ai nof (Or.inl rfl)))) (ai (by exact (ai rfl (ai rfl (fun _ _=>rfl)))) (ai trivial (ai (trivial) ?_)))))))
 refine bE (b:=!oI s) rfl (fun h=>?_) (fun h=>?_)
 ·refine ei _ (ai (acW) (ei (()) (ei [] (ai (a4 (ai (fun _=>Or.inl rfl) (ai nof (Or.inr rfl)))) (ai (by exact trivial) (ai trivial (ai (trivial) ?_)))))))
  refine ai (ai (fun _=>trivial) ?_) trivial
  exact rfl
 refine ei _ (ai (xP) (ei (s) (ei [] (ai (a4 (ai (fun _=>Or.inl rfl) (ai nof (Or.inl rfl)))) (ai (by exact (ai rfl (ai rfl (fun _ _=>rfl)))) (ai trivial (ai (trivial) ?_)))))))
 refine ei _ (ai (adn) (ei (s) (ei [] (ai (a4 (ai (fun _=>Or.inl rfl) (ai nof (Or.inl rfl)))) (ai (by exact (ai rfl (ai rfl (fun _ _=>rfl)))) (ai trivial (ai (trivial) ?_)))))))
 refine ei (.seq [0,1,2,4,3,5,6,7,8,9,10,11,12]) (ai (by kernel_rfl) ?_)
 refine ei _ (ai (acW) (ei (()) (ei [] (ai (a4 (ai (fun _=>Or.inl rfl) (ai nof (Or.inr rfl)))) (ai (by exact trivial) (ai trivial (ai (trivial) ?_)))))))
 refine ei _ (ai (aoa) (ei (ofC s) (ei [] (ai (a4 (ai (fun _=>Or.inl rfl) (ai nof (Or.inl rfl)))) (ai (by exact (ai rfl (ai (ai rfl (fun _ _=>rfl)) (ai (ai rfl (fun _ _=>rfl)) (ai rfl (fun _ _=>rfl)))))) (ai trivial (ai ((adY s).1) ?_)))))))
 refine ei _ (ai (alv) (ei (ofC s) (ei [] (ai (a4 (ai (fun _=>Or.inl rfl) (ai nof (Or.inl rfl)))) (ai (by exact (ai (ai rfl (ai (ai rfl (fun _ _=>rfl)) (ai (ai rfl (fun _ _=>rfl)) (ai rfl (fun _ _=>rfl))))) (ai rfl (ai (ai rfl (fun _ _=>rfl)) (ai (ai rfl (fun _ _=>rfl)) (ai rfl (fun _ _=>rfl))))))) (ai trivial (ai (adY s) ?_)))))))
 refine ai (ai (fun _=>trivial) ?_) trivial
 show aC _ (bP true)
 rw[(beq_self_eq_true (kY s)).symm]
 exact rfl
end Go.Sx.Pe
namespace Go.Sx.Pe
open Go Go.Proofs Go.Sx.Pn Go.ChangeShapes Go.WideShapes Go.ChangeAt Go.RowKit Go.Deep Go.Lib
theorem aj4 {H:Type} {enc:TypeId×Value→H} {P:Program} {f:Func} {s:ChangeSpec} {S:List TypeId} (hS:Closed P S) {tb:TypeId} (hb:P.underlying tb=some .bool) (hres:f.resultTypes=#[tb])
  {W W':World} {args:Array Value} {ds:List (DataW H)} {before:List MemPlace} (hW:DataW.Whole enc P f.params.toList s.vars false W args.toList ds [] before) (hv:s.vars=[])
  (hA:DataW.TrodAll enc P W 0 (fun _=>true) true f.params.toList args.toList ds before) (hts:∀t∈f.params.toList,t∈S) (hfn:s.fn H (ds++[])={ results:=[.lit (.bool true)],args:=ds,vars:=[] }) (hg:Below W.heap.size W W') :
  s.post enc P f false true false false W args (.bool true) W':=by
 have hlt:=hW.lt
 have hold:∀p∈before,(fun b=>decide (b<W.heap.size)) p.block=true:=fun p hp=>by simpa using hlt p hp
 have hargs:∀sp:Nat→Bool,(∀p∈before,sp p.block=true)→DataW.TrodAll enc P W' 0 sp true f.params.toList args.toList ds before:=fun sp hsp=>zy hS hg.block hts hA hsp
 have hrt:(Value.bool true).resultList f.resultTypes.size=[.bool true]:=by rw[hres];rfl
 have hr:∀(b:Nat) (sp:Nat→Bool) (hd:Bool),DataW.TrodAll enc P W' b sp hd f.resultTypes.toList ((Value.bool true).resultList f.resultTypes.size) [.lit (.bool true)] []:=fun b sp hd=>by
  rw[hrt,hres];exact trodAll_cons_mk (shut_bool hb true) trodAll_mk0
 refine ⟨ds,[],before,[],before,[],hW,by rw[hfn];exact hr _ _ _,by rw[hfn];exact hargs _ hold,by rw[hfn,hv];rfl,World.keptBut_mono (fun p hp=>⟨hp,.inr (.inl hp)⟩) (hg.frame (·∈before)),fun h=>by cases h⟩
theorem ang:ownKnob Tryz.prog.godebug=none:=by kernel_rfl
theorem an9 {d1 d2 d4 d5:DataW Unit} {n1 n2 n4 n5:String} {W:World} (h:laidMet Tryz.prog [(n1,d1),(n2,d2),("internal/strconv.uint64pow10",Go.Proofs.YteenedbiifampaaGreatDoor.Rows.laid_internal_strconv_uint64pow10),(n4,d4),(n5,d5)] W):∀p∈glP,fE W p.1=some p.2:=by
 have h3:TabIs Tryz.prog W "internal/strconv.uint64pow10" .u64 Lib.pow10Tab:=
  tabIs_of_head (rest:=[(n4,d4),(n5,d5)]) (show Tryz.prog.globalNamed "internal/strconv.uint64pow10"=some 0 by kernel_rfl) (show (Tryz.prog.globals[0]?).map (·.type)=some 275 by kernel_rfl) Tryz.underlying275 Tryz.underlying252 (by kernel_rfl) (by kernel_rfl) (laidMet.tail (laidMet.tail h))
 intro p hp
 rw[agL.1 hp]
 have h4:World.var? Tryz.prog W "internal/strconv.uint64pow10"=some p10:=h3
 unfold World.var? at h4
 rw[show Tryz.prog.globalNamed "internal/strconv.uint64pow10"=some 0 by kernel_rfl] at h4
 exact h4
def agf (vs:List Value):Obj→Obj
 | .cells _ t frozen=>.cells vs.toArray t frozen
 | o=>o
def u8s (l:List Nat):List Value:=l.map fun n:Nat=>Value.int .u8 (n:Int)
noncomputable def ze (os:Os):World:=
 { World.holding Tryz.prog os ⟨#[],#[],[]⟩ with heap:=((((((World.holding Tryz.prog os ⟨#[],#[],[]⟩).heap.modify 2 (agf (u8s Lib.deBruijn32tab))).modify 3 (agf (u8s Lib.deBruijn64tab))).modify 0 (agf p10.toList)).modify 5 (agf (u8s ([128,191,160,191,128,159,144,191,128,143]++List.replicate 22 0)))).modify 4 (agf (u8s Go.Pinned.utf8FirstZ))) }
theorem aob {E:Env} {v:Value} {d d':PV} (h:aK E v (.p false d)) (e:fQ d d'):aK E v (.p false d'):=by
 cases h with | p _ _ _ hp=>exact .p _ _ _ (qo e hp)
theorem qH {P:Program} {t:TypeId} {fs:Array Field} {n:Nat} {l:List PV} {ts:List TypeId} (hu:P.underlying t=some (.struct fs)) (hts:fs.toList.map (·.type)=ts) (h:Shape P n t l) :
  ∃(n':Nat) (ls:List (List PV)),n=n'+1∧l=ls.flatten∧agJ P n' ts ls:=by
 cases n with
 | zero=>exact h.elim
 | succ n=>
  unfold Shape at h;rw[hu] at h
  obtain ⟨ls,rfl,h1,h2⟩:=h
  refine ⟨n,ls,rfl,rfl,aeE ts ls (by rw[h1,←hts];simp) fun i t x ht hx=>?_⟩
  subst hts
  simp only[ahO,ad3,aq4] at ht
  obtain ⟨f,hf,rfl⟩:=ht
  exact h2 i f x hf hx
theorem afG {P:Program} {t e:TypeId} {n:Nat} {l:List PV} (hu:P.underlying t=some (.slice e)) (h:Shape P n t l):∃(n' m:Nat) (f:Nat→List PV),n=n'+1∧l=[.seq m f]∧∀j,j<m→Shape P n' e (f j):=by
 cases n with
 | zero=>exact h.elim
 | succ n=>unfold Shape at h;rw[hu] at h;obtain ⟨m,f,h1,h2,h3⟩:=h;exact ⟨n,m,f,rfl,h2,h3⟩
theorem ajR {α:Type} (d:α) {g:α→List PV} {m:Nat} {f:Nat→List PV} (h:∀j,j<m→∃x,bW (f j) (g x)):∃L:List α,L.length=m∧∀j,j<m→bW (f j) (g (L.getD j d)):=by
 have h1:∀j,∃x:α,j<m→bW (f j) (g x):=fun j=>by
  by_cases hj:j<m
  ·obtain ⟨x,hx⟩:=h j hj;exact ⟨x,fun _=>hx⟩
  ·exact ⟨d,fun h=>absurd h hj⟩
 obtain ⟨c,hc⟩:=Classical.axiomOfChoice h1
 refine ⟨(List.range m).map c,by simp,fun j hj=>?_⟩
 have:((List.range m).map c).getD j d=c j:=by simp[aaM,hj]
 rw[this];exact hc j hj
theorem acV {α:Type} (d:α) {g:α→List PV} {P:Program} {t e:TypeId} {n:Nat} {l:List PV} (hu:P.underlying t=some (.slice e)) (he:∀k x,k<n→Shape P k e x→∃y,bW x (g y)) (h:Shape P n t l):∃L:List α,bW l [.seq L.length (fun j=>g (L.getD j d))]:=by
 obtain ⟨n',m,f,rfl,rfl,hf⟩:=afG hu h
 obtain ⟨L,rfl,hL⟩:=ajR d fun j hj=>he n' (f j) (Nat.lt_succ_self _) (hf j hj)
 exact ⟨L,afW (fO hL)⟩
theorem ain:∀{a b c d:List PV},bW a b→bW c d→bW (a++c) (b++d)
 | [],[],_,_,_,h=>h
 | x :: a,y :: b,c,d,h,k=>aZ (h.2 0 x y rfl rfl) (ain ⟨by simpa using h.1,fun j s s' hs hs'=>h.2 (j+1) s s' hs hs'⟩ k)
 | [],_ :: _,_,_,h,_=>by have:=h.1;simp at this
 | _ :: _,[],_,_,h,_=>by have:=h.1;simp at this
theorem y8 {a b a' b':List PV} (h1:bW a a') (h2:bW b b'):bW [a,b].flatten (a'++b'):=by
 have:[a,b].flatten=a++b:=by simp
 rw[this];exact ain h1 h2
theorem ae3 {n:Nat} {l:List PV} (h:Shape Tryz.prog n 3 l):∃m:Int,bW l [iP m]:=by
 obtain ⟨m,_,rfl⟩:=akk Tryz.underlying3 h
 exact ⟨m,bW.rfl' _⟩
theorem anj {n:Nat} {l:List PV} (h:Shape Tryz.prog n 4 l):∃b:Bool,bW l [bP b]:=by
 obtain ⟨m,rfl⟩:=aiz Tryz.underlying4 h
 exact ⟨m,bW.rfl' _⟩
theorem apX {n:Nat} {l:List PV} (h:Shape Tryz.prog n 94 l):∃x:Sk,bW l (skK x):=by
 obtain ⟨n',ls,rfl,rfl,h2⟩:=qH (ts:=[3,4]) Tryz.underlying94 (by decide) h
 match ls,h2 with
 | [a,b],⟨ha,hb,_⟩=>
  obtain ⟨x,hx⟩:=ae3 ha
  obtain ⟨y,hy⟩:=anj hb
  exact ⟨(x,y),y8 hx hy⟩
theorem apa {n:Nat} {l:List PV} (h:Shape Tryz.prog n 87 l):∃L:List Sk,bW l [wU L]:=acV aV (g:=skK) Tryz.underlying87 (fun _ _ _ h=>apX h) h
theorem anD {n:Nat} {l:List PV} (h:Shape Tryz.prog n 95 l):∃x:Stp,bW l (uX x):=by
 obtain ⟨n',ls,rfl,rfl,h2⟩:=qH (ts:=[87,3]) Tryz.underlying95 (by decide) h
 match ls,h2 with
 | [a,b],⟨ha,hb,_⟩=>
  obtain ⟨x,hx⟩:=apa ha
  obtain ⟨y,hy⟩:=ae3 hb
  exact ⟨⟨x,y⟩,y8 hx hy⟩
theorem amk {n:Nat} {l:List PV} (h:Shape Tryz.prog n 41 l):∃L:List Stp,bW l [aiM L]:=acV st0 (g:=uX) Tryz.underlying41 (fun _ _ _ h=>anD h) h
def abO:List TypeId:=[3,4,9,29,72,22,94,87,95,41,43,108,23,79,77,81,24,26]
theorem xI:Closed Tryz.prog abO:=by
 intro t ht
 simp only[abO,ahF,List.mem_nil_iff,or_false] at ht
 rcases ht with rfl | rfl | rfl | rfl | rfl | rfl | rfl | rfl | rfl | rfl | rfl | rfl | rfl | rfl | rfl | rfl | rfl | rfl<;>kernel_rfl
section
variable {w : World} {r : Reach} {b : Nat} {v : Value} {n : Nat} {l : List PV}
theorem an7 (hv:Value.okWide Tryz.prog w r b 43 v) (hs:Shape Tryz.prog n 43 l) (hr:Rel (fE w) v.cells.toList l):∃s:gy,aK (E0 w) v (uW s):=by
 obtain ⟨cs,hc⟩:=akK Tryz.underlying43 hv
 have hS:=apj hc hr
 obtain ⟨n',ls,rfl,rfl,h2⟩:=qH (ts:=[3,41]) Tryz.underlying43 (by decide) hs
 match ls,h2 with
 | [a,b],⟨ha,hb,_⟩=>
  obtain ⟨x,hx⟩:=ae3 ha
  obtain ⟨y,hy⟩:=amk hb
  exact ⟨⟨x,y⟩,aob hS (oQ (y8 hx hy))⟩
end
end Go.Sx.Pe
namespace Go.Proofs.YteenedbiifampaaGreatDoor.chartDraws
open Go.ChangeShapes Go.WideShapes Go.ChangeAt Go.RowKit Go.Joins Go.Deep Go.Sx Go.Sx.Pn Go.Sx.Pe
set_option maxRecDepth 100000 in
theorem contract (H:Type) (enc:TypeId×Value→H) (W:World) (base:Nat) (args:Array Value) (ds gs:List (DataW H)) (before:List MemPlace)
  (hval:∀(j:Nat) t v,Tryz.f4.params[j]?=some t→args[j]?=some v→Value.okWide Tryz.prog W .any base t v)
  (hW:DataW.Whole enc Tryz.prog Tryz.f4.params.toList Rows.chartDrawsSpec.vars false W args.toList ds gs before) (hL:laidMetH Tryz.prog Rows.chartDrawsRow.laid W) :
  Calls Tryz.prog 4 args W fun e W'=>∃v,e=.returned v∧Rows.chartDrawsSpec.post enc Tryz.prog Tryz.f4 false true false false W args v W':=by
 have hW':=hW
 obtain ⟨p,q,hA0,hV,rfl,hfz,hnd⟩:=hW
 obtain ⟨rfl,rfl⟩:=trodVars_none hV
 have hA:DataW.TrodAll enc Tryz.prog W 0 (fun _=>true) true Tryz.f4.params.toList args.toList ds p:=hA0
 have hA1:=hA
 rw[Tryz.params4] at hA hval
 clear hA0
 obtain ⟨v0,vs0,d0,ds0,p0,q0,hargs0,rfl,rfl,⟨fu0,h0⟩,r0⟩:=trodAll_cons hA
 obtain ⟨rfl,rfl,rfl⟩:=trodAll_nil r0
 obtain rfl:args=#[v0]:=by cases args;simp_all
 obtain ⟨l0,s0,e0⟩:=ae6 xI fu0 43 _ _ (by decide) h0
 obtain ⟨a0,S0⟩:=an7 (hval 0 _ v0 rfl rfl) s0 e0
 simp only[apD] at hW' hA1
 refine (agI ajA a0 trivial W (an9 hL) _ (ajs (vs:=[v0]) (ai S0 trivial))).mono fun e W' ⟨he,hg⟩=>?_
 subst he
 exact ⟨_,rfl,aj4 xI Tryz.underlying4 (by kernel_rfl) hW' rfl hA1 (by rw[Tryz.params4];decide) rfl hg⟩
theorem laid_met (os:Os):laidMet Tryz.prog Rows.chartDrawsRow.laid ((ze os).forCall (fun _ _=>0) ⟨#[],#[.agg #[.int .i64 0,.slice none 0 0]],[]⟩).memory:=
 laidMet_of_run' 8 (by kernel_rfl) (by kernel_rfl)
theorem reads (os:Os) {H:Type} (enc:TypeId×Value→H):∃places,DataW.whole enc Tryz.prog ((ze os).forCall (fun _ _=>0) ⟨#[],#[.agg #[.int .i64 0,.slice none 0 0]],[]⟩).memory Tryz.f4.params.toList Rows.chartDrawsSpec.vars false (Array.toList (α:=Value) #[.agg #[.int .i64 0,.slice none 0 0]]) 8=some ([.agg [.lit (.int .i64 0),.nil]],[],places):=
 ⟨[],by kernel_rfl⟩
set_option maxRecDepth 100000 in
theorem lifted (os:Os) (started:os.Started) (H:Type) (enc:TypeId×Value→H) (F:Stop.Interp) :
  ReturnsInHanded {} Tryz.checked os 4 .any ((OpenSpec.ofChange Rows.chartDrawsSpec).preRow enc Tryz.prog Tryz.f4 Rows.chartDrawsRow.domain false Rows.chartDrawsRow.laid) (((OpenSpec.ofChange Rows.chartDrawsSpec).at F).post enc Tryz.prog Tryz.f4 false true false false):=by
 obtain ⟨places,hx⟩:=reads os enc
 refine returnsInHanded_of_row (C:=Tryz.checked) (s:=OpenSpec.ofChange Rows.chartDrawsSpec) ang started (by kernel_rfl) Tryz.func4
  (witness_row_at (enc:=enc) (C:=Tryz.checked) false (ze os) #[.agg #[.int .i64 0,.slice none 0 0]] rfl (by kernel_rfl) (by kernel_rfl) (by kernel_rfl)
   (OpenSpec.preRow_of_cond 8 hx (by kernel_rfl) (fun k hk=>by cases hk) (by kernel_rfl) (laid_met os))) ?_
 intro W base args ds gs before hval hW _ _ _ hL _ _
 exact contract H enc W base args ds gs before hval hW hL
theorem said:Rows.ChartDrawsSaid:=
 OpenClaim.holds_of_cond 4 Tryz.f4 rfl rfl rfl rfl rfl rfl rfl ⟨rfl,rfl,rfl,rfl,rfl⟩ rfl rfl rfl rfl rfl (by kernel_rfl) Tryz.func4 (by kernel_rfl)
  (of_decide_eq_true (by kernel_rfl)) (by unfold Func.isWrapper;first | (rw[if_pos (by decide +kernel)];kernel_rfl) | (rw[if_neg (by decide +kernel)];exact ⟨rfl,rfl⟩))
  (fun os started H enc _ F=>by rw[OpenClaim.pre_eq_preRow];exact lifted os started H enc F)
theorem plain (f:FuncId) (fn:Func) (hf:Tryz.pinned.checked.prog.funcNamed "pneumatic/pneumaticlaw35.ChartDraws"=some f) (hfn:Tryz.pinned.checked.prog.funcs[f]?=some fn) :
  false=Tryz.pinned.checked.prog.looks []∧∀(j:Nat) t,fn.params[j]?=some t→Tryz.pinned.checked.prog.wantsStandIn t=false:=by
 obtain rfl:f=4:=Option.some.inj ((show Tryz.prog.funcNamed "pneumatic/pneumaticlaw35.ChartDraws"=some 4 by kernel_rfl).symm.trans hf) |>.symm
 obtain rfl:fn=Tryz.f4:=(Option.some.inj (Tryz.func4.symm.trans hfn)).symm
 refine ⟨by kernel_rfl,fun j t ht=>?_⟩
 rw[Tryz.params4] at ht
 have hm:∀t∈#[43],Tryz.prog.wantsStandIn t=false:=by decide +kernel
 exact hm t (arq ht)
theorem card:Rows.ChartDrawsCardSaid:=
 Claim7.holds_tied_plain_at .later [] _ _ _ _ said (fun _ h=>by cases h) (by kernel_rfl) (fun _ h=>by cases h) chartDraws_row_tie rfl ⟨rfl,rfl⟩ (by kernel_rfl) rfl plain (by kernel_rfl)
end Go.Proofs.YteenedbiifampaaGreatDoor.chartDraws
