/- The card of ChartCycles: for every input the law answers true, and its arguments read as they did. -/
import Derived.Test.YteenedbiifampaaGreatDoorY5
set_option maxHeartbeats 1000000
set_option maxRecDepth 4000
set_option linter.unusedSimpArgs false
set_option linter.unusedVariables false
set_option linter.unusedSectionVars false
namespace Go.Sx.Pe
open Go Go.Proofs Go.Sx.Pn Go.RowKit Go.Sort
theorem ak5 (n : Nat) (hn : n ≤ 1000000) : aK Tryz.prog 99 (aol n) := by
  refine ⟨⟨Tryz.f99, Tryz.func99, rfl, rfl⟩, fun (l : List (List Bool)) hpre E vs w _ hh hA => ?_⟩
  obtain ⟨hbig, hlen⟩ := hpre
  have hbig : l.length ≤ 1000000000 := hbig
  have hob : (gV [rP l]).obj 0 = some (.row 72 1 l.length (fun k => [kW (l.getD k [])])) := rfl
  obtain ⟨hs1, hs2⟩ := hA
  obtain ⟨v, fv, rfl⟩ : ∃ v fv, vs = #[v, fv] := by
    have h1 : vs.size = 2 := hs1
    exact ⟨vs[0]'(by omega), vs[1]'(by omega), by
      apply Array.ext
      · simp [h1]
      · intro i hi hi2
        match i, hi2 with
        | 0, _ => rfl
        | 1, _ => rfl⟩
  have hv := hs2 0 v (.row 0) rfl rfl
  have hf := hs2 1 fv (.fn 100 []) rfl rfl
  obtain rfl : fv = .func (.func 100) #[] #[] := by
    cases hf with
    | fn _ us _ hl he => 
      have : us = #[] := Array.eq_empty_of_size_eq_zero (by simpa using hl)
      rw [this]
  have hR := hh.ob 0 _ hob
  have hrep := hR
  cases hv with
  | row _ _ hd0 hsl =>
  cases hR with
  | row _ _ _ _ v' xs u hhd hw hmax hl hc he =>
  rw [hd0] at hhd
  obtain rfl := Option.some.inj hhd
  have hnone : ∀ (p : Option Addr) (cap : Nat), Calls Tryz.prog 99 #[.slice p 0 cap, .func (.func 100) #[] #[]] w fun e w' => e = .returned (.tuple #[]) ∧ w' = w := fun p cap =>
    AnyF.slices_SortFunc_none (P := Tryz.prog) (ρ := Tryz.w9) { Tryz.alj with } p cap _ w
  by_cases h0 : l = []
  · subst h0
    have hw2 := hw.2
    obtain ⟨p, cap, rfl⟩ : ∃ p cap, v = .slice p 0 cap := by
      rcases hw2 with ⟨rfl, _⟩ | ⟨g, cap, cur, rfl, _⟩
      · exact ⟨_, _, rfl⟩
      · exact ⟨_, _, rfl⟩
    refine (hnone p cap).mono ?_
    rintro e w' ⟨rfl, rfl⟩
    exact ⟨.tuple #[], E, rfl, .tup _ _ rfl (fun k u s hu => by simp at hu), hh⟩
  have hpos : 0 < l.length := atv.2 h0
  rcases hw.2 with ⟨rfl, hn0⟩ | ⟨g, cap, cur, rfl, _⟩
  · exact absurd hn0 (by omega)
  obtain ⟨_, cur, u', hA⟩ := hrep.jL hd0
  -- the elements, with what they stand for
  let α : Type := { p : Value × List Bool // p.2.length = n ∧ p.1.oneCell' = true ∧ aL E.mem p.1 (kW p.2) }
  have hel : ∀ j, j < l.length → cur[j]? = some (u' j 0) ∧ (u' j 0).oneCell' = true ∧ aL E.mem (u' j 0) (kW (l.getD j [])) := fun j hj => by
    have c1 := hA.hc j 0 (kW (l.getD j [])) hj rfl
    have c2 := hA.he j 0 (kW (l.getD j [])) hj rfl
    rw [anW, arO] at c1
    exact ⟨c1.1, c1.2, c2⟩
  have mem : ∀ j, j < l.length → (l.getD j []).length = n := fun j hj => hlen _ (acH (bH [] hj))
  let el : Fin l.length → α := fun j => ⟨(u' j 0, l.getD j []), mem j j.2, (hel j j.2).2.1, (hel j j.2).2.2⟩
  haveI : Inhabited α := ⟨el ⟨0, hpos⟩⟩
  let enc : α → Value := fun x => x.1.1
  have h1 : ∀ a, (enc a).oneCell' = true := fun a => a.2.2.1
  let d : Array α := Array.ofFn el
  have hds : d.size = l.length := Array.size_ofFn
  have hdat : ∀ j (hj : j < l.length), d[j]! = el ⟨j, hj⟩ := fun j hj => by
    rw [getElem!_pos d j (by rw [hds]; exact hj)]
    simp [d]
  let cf : α → α → Int := fun x y => gK x.1.2 y.1.2
  have hlt : ∀ x y : α, ltOf cf x y = true ↔ oD x.1.2 y.1.2 := fun x y => by
    show decide (gK x.1.2 y.1.2 < 0) = true ↔ _
    rw [decide_eq_true_iff]; rfl
  have hltf : ∀ x y : α, ltOf cf x y = false ↔ ¬ oD x.1.2 y.1.2 := fun x y => by rw [← hlt, atn]
  have hO : SWO (ltOf cf) := {
    irrefl := fun x => (hltf x x).2 (aj7 _)
    trans := fun x y z h k => (hlt x z).2 (xq (x.2.1.trans y.2.1.symm) (y.2.1.trans z.2.1.symm) ((hlt x y).1 h) ((hlt y z).1 k))
    ntrans := fun x y z h k => (hltf x z).2 (ac1 x.2.1 y.2.1 z.2.1 ((hltf x y).1 h) ((hltf y z).1 k)) }
  have hg : g < w.heap.size := (acn.1 hA.heap).1
  have hnc := hA.hn
  have hsz := hA.size
  -- the world with another order
  have hW : ∀ (m : Nat) (os : Array Obj) (dk : Array α), dk.size = l.length → bn (kg w E [rP l] 0) E ((gV [rP l]).bW 0 (some (rP (dk.toList.map fun x => x.1.2)))) (sortWorld enc w g 0 m dk os) := by
    intro m os dk hdk
    have hw1 : (putRow enc (Sort.ahead w m) g 0 dk).heap[g]? = some (.cells (putCells enc 0 dk cur) 72 (0, 0)) := by
      show (w.heap.modify g (onCells _))[g]? = _
      rw [aq0, if_pos rfl, hA.heap]; rfl
    have hw2 : ∀ k, k ≠ g → (putRow enc (Sort.ahead w m) g 0 dk).heap[k]? = w.heap[k]? := fun k hk => by
      show (w.heap.modify g (onCells _))[k]? = _
      rw [aq0, if_neg fun e => hk e.symm]
    have hbang : ∀ k, k < l.length → (dk.toList.map fun x : α => x.1.2).getD k [] = (dk[k]!).1.2 := fun k hk => by
      rw [aa7, ais, aeD, acy (by omega), getElem!_pos dk k (by omega)]; rfl
    have hlm : (dk.toList.map fun x : α => x.1.2).length = l.length := by rw [ajh, aku, hdk]
    have hat : ∀ j, j < l.length → (putCells enc 0 dk cur)[j]? = some (enc dk[j]!) := fun j hj => by
      rw [ahR, if_pos (by omega), if_pos (by omega)]
    have hh2 : bn (kg w E [rP l] 0) E ((gV [rP l]).bW 0 (some (rP (dk.toList.map fun x => x.1.2)))) (putRow enc (Sort.ahead w m) g 0 dk) := by
      refine hh.write (i := 0) (b := g) hob (by simp [Env.blk, hd0, aF]) (afM _)
        (.row 72 1 _ _ _ ((putCells enc 0 dk cur).toList.take (l.length * 1)) (fun j _ => enc dk[j]!) hd0 ?_ (by rw [hlm]; exact hA.hmax) (fun j _ => rfl) ?_ ?_) rfl rfl rfl (by simp) hw2
      · rw [hlm]
        refine ⟨?_, .inr ⟨g, cap, _, rfl, ae4 _, hw1, hA.hn, hA.hcap, by rw [x9]; exact hA.size, rfl⟩⟩
        have h3 : (putCells enc 0 dk cur).toList.length = cap * 1 := by rw [aku, x9]; exact hA.size
        rw [aik, h3]
        omega
      · intro j k s hj hs
        rw [hlm] at hj
        have hk : k = 0 := by
          have := (abd.1 hs).1
          simpa using this
        subst hk
        rw [ai3, if_pos (by omega), aeD, anW, arO]
        exact ⟨hat j hj, h1 _⟩
      · intro j k s hj hs
        rw [hlm] at hj
        have hk : k = 0 := by
          have := (abd.1 hs).1
          simpa using this
        subst hk
        simp only [atc, Option.some.injEq] at hs
        subst hs
        rw [hbang j hj]
        exact (dk[j]!).2.2.2
    exact hh2.below (w' := sortWorld enc w g 0 m dk os) ⟨rfl, rfl, rfl, by simp [sortWorld], fun k hk => by
      show (_ ++ os)[k]? = _
      rw [alA hk]⟩
  have hcmp : CmpLays1 Tryz.prog 100 #[] enc cf g 0 d.size w := CmpReads.lays fun m os dk hdk x y => by
    have hm := (hW m os dk (by rw [hdk, hds])).mem
    refine (ahJ x.1.2 y.1.2 x.1.1 y.1.1 _ (x.2.1.trans y.2.1.symm) (by rw [x.2.1]; exact hn) (anZ hm x.2.2.2) (anZ hm y.2.2.2)).mono ?_
    rintro e w' ⟨rfl, rfl⟩
    exact ⟨rfl, 0, rfl⟩
  have hH : Holds enc w g 0 d := fun j hj => by
    have hj : j < l.length := by omega
    refine ⟨?_, ?_⟩
    · simp only [World.cell?, hA.heap, agC]
      rw [hdat j hj]; exact (hel j hj).1
    · simp [World.frozen?, hA.heap]
  have hsort := Any.slices_SortFunc (P := Tryz.prog) (ρ := Tryz.w9) Tryz.alj enc h1 cf hO 100 #[] g 0 cap d w (enters_of Tryz.func100 (by kernel_rfl) rfl) hcmp hH hg (by omega)
  rw [hds] at hsort
  refine Calls.mono hsort ?_
  rintro e w' ⟨rfl, d', m, os, hp, hs, rfl⟩
  have hd's : d'.size = l.length := hp.1.trans hds
  have hl' : (d'.toList.map fun x : α => x.1.2) = jH l := by
    have hpd : d'.toList.Perm d.toList := by
      have := hp.2.2
      rwa [show d'.extract 0 l.length = d' by rw [← hd's]; simp, show d.extract 0 l.length = d by rw [← hds]; simp] at this
    have hdl : (d.toList.map fun x : α => x.1.2) = l := by
      apply List.ext_getElem?
      intro k
      rw [ais, aeD]
      by_cases hk : k < l.length
      · rw [acy (by omega), abb hk]
        simp only [d, Array.getElem_ofFn, alC, Option.some.injEq]
        show l.getD k [] = _
        rw [aa7, abb hk]; rfl
      · rw [alv (by omega), aqY (by omega)]; rfl
    have hperm : (d'.toList.map fun x : α => x.1.2).Perm l := by
      have := hpd.map fun x : α => x.1.2
      rwa [hdl] at this
    refine acT (n := n) (hperm.trans (qX l).symm) (fun y hy => hlen y (hperm.mem_iff.1 hy)) ?_ (amo hlen)
    unfold aaf
    rw [List.pairwise_map, asE]
    intro i j hi hj hij
    have hi : i < d'.size := by simpa using hi
    have hj : j < d'.size := by simpa using hj
    have := hs i j (ae4 _) hij (by omega)
    rw [hltf, getElem!_pos d' i hi, getElem!_pos d' j hj] at this
    exact this
  have hfin := hW m os d' hd's
  rw [hl'] at hfin
  refine ⟨.tuple #[], E, rfl, .tup _ _ rfl (fun k u s hu => by simp at hu), ?_⟩
  have key : ∀ (st : St), (∀ i o, st.obj i = some o → ((gV [rP l]).bW 0 (some (rP (jH l)))).obj i = some o) → st.no = 1 → st.k = none → bn (kg w E [rP l] 0) E st (sortWorld enc w g 0 m d' os) := fun st ho hno hk => by
    have hkk := hfin.kk
    exact ⟨fun i o h => hfin.ob i o (ho i o h), fun i j o o' b h1 h2 => hfin.sep i j o o' b (ho i o h1) (ho j o' h2), fun i o b h => hfin.own i o b (ho i o h), hfin.mem, hfin.mem0, hfin.memnew, fun i hi => hfin.new i (by rw [hno] at hi; exact hi), hfin.base, hfin.fr, hfin.hd0, by rw [hno]; exact hfin.mno, hfin.mkh, by rw [hk]; exact hkk⟩
  refine key _ (fun i o ho => ?_) rfl rfl
  have e1 : St.obj ⟨[], [(0, some (rP (jH l)))], 1, none⟩ i = some o := ho
  rw [kK (no := 1) (c := none)] at e1
  have e2 := kK (gV [rP l]).fr (gV [rP l]).ob 1 1 (c := none) (c' := none) 0 (some (rP (jH l))) i
  refine Eq.trans e2 ?_
  by_cases hi : 0 = i
  · rw [if_pos hi] at e1 ⊢; exact e1
  · rw [if_neg hi] at e1
    simp [St.obj, look] at e1
end Go.Sx.Pe
namespace Go.Sx.Pe
open Go Go.Proofs Go.Sx.Pn
def bbP (l:List (List Bool)):PV:=.seq l.length (fun k=>[kW (l.getD k [])])
def bbR (l:List (List Bool)):LV:=.rw 72 1 l.length (fun k=>[kW (l.getD k [])])
def gX (c:aW):List (List Bool):=(jh c).map (·.1)
def nX (c:aW):PV:=.tup [bbP (jH (gX c)),iP (l9 c)]
theorem apb (a:List (List Bool)) (x:List Bool):∀k,k<a.length+1→bJ a.length (fun k=>[kW (a.getD k [])]) (bg 1 [kW x]) k=[kW ((a++[x]).getD k [])]:=by
 intro k hk
 unfold bJ
 by_cases h:k<a.length
 ·rw[if_pos h]
  show [kW (a.getD k [])]=_
  rw[aa7,aa7,aeM h]
 ·obtain rfl:k=a.length:=by omega
  rw[if_neg h,arK,aa7,afK (afM _),arK];rfl
theorem amt:aK Tryz.prog 98 (bQ (fun a:aW×List Bool=>[kU a.1,tu a.2]) (fun a=>a.1.sts.length≤24∧a.2.length=a.1.sts.length) (fun a=>kW a.2)):=by
 refine ⟨aiT.1,fun ⟨c,m⟩ hp E vs w hg hh hA=>?_⟩
 obtain ⟨h1,h2⟩:=hp
 have h1:c.sts.length≤24:=h1
 have h2:m.length=c.sts.length:=h2
 have e1:tu (bT m)=tu m:=by unfold tu ow;rw[aaO]
 have key:=aiT.2 (c,bT m) ⟨h1,oh (by omega)⟩ E vs w hg hh (by
  show jP E vs [kU c,tu (bT m)]
  rw[e1];exact hA)
 refine key.mono fun e w' ⟨v,E',h3,h4,h5⟩=>⟨v,E',h3,?_,h5⟩
 have e2:(bT m).take c.sts.length=m:=by unfold bT;rw[←h2,List.take_left'];rfl
 show aL _ v (kW m)
 rw[←e2];exact h4
theorem vG:aK Tryz.prog 29 (iV (fun c:aW=>[kU c]) jf nX):=by
 refine aX (Tb:=tab) mixed aA Tryz.func29 rfl rfl ?_
 rintro (c:aW) hpre
 refine ai (ai rfl (ai rfl rfl)) ?_
 have ho:jf c:=hpre
 refine ei _ (ai (vE) (ei (c) (ei [] (ai (a4 (ai (fun _=>Or.inl rfl) (ai nof (Or.inl rfl)))) (ai (by exact (ai rfl (ai (ai rfl (fun _ _=>rfl)) (ai (ai rfl (fun _ _=>rfl)) (ai rfl (fun _ _=>rfl)))))) (ai trivial (ai (ho) ?_)))))))
 refine bI (p:=l9 c=0) (dh (by omega)) (fun h1=>?_) (fun h1=>?_)
 ·have e:gX c=[]:=by
   unfold gX jh
   unfold l9 at h1
   split
   ·rename_i h
    rw[if_pos h] at h1
    cases ee:pF c with
    | none=>rfl
    | some l=>rw[ee] at h1;exact absurd rfl h1
   ·rfl
  refine ai (ai (fun h=>absurd (show false=true from h) (by decide)) ?_) trivial
  show aB _ (nX c)
  rw[nX,e]
  exact (ai rfl rfl)
 obtain ⟨hc,hx⟩:=aac h1
 obtain ⟨hg,hl,hw⟩:=tq h1
 have h24:=(iO hc).2.2.1.2
 have hA:nX c=.tup [bbP (jH (gX c)),iP 0]:=by unfold nX;rw[h1]
 have hml:(gX c).length=(jh c).length:=ajh _
 have htk:∀k,k<(jh c).length→(gX c).take (k+1)=(gX c).take k++[((jh c).getD k au).1]:=fun k hk=>by
  rw[aU [] (by omega)]
  congr 2
  unfold gX
  rw[aa7,aa7,ais,abb hk];rfl
 refine ei (bF.inv { X:=Nat,up:=fun k=>[(21,.s (iA k)),(7,bbR ((gX c).take k))],uo:=fun k=>[],inv:=fun k=>k≤(jh c).length∧(True),meas:=fun k=>(jh c).length-k,x0:=0 }) ?_
 refine ai (ai (ai (by exact (a4 (ai rfl rfl))) (ai (by exact (ai (ai (ai (fun _=>rfl) (iE (by simp only[zz,reduceCtorEq];rfl))) rfl) rfl)) (by exact trivial))) rfl) (ai (ai (ae4 _) ?_) ?_)
 ·trivial
 intro (k:Nat) ⟨hk,_⟩
 have hkl:((gX c).take k).length=k:=by rw[aik];omega
 refine ah (p:=k<(jh c).length) (av (by omega)) (fun h2=>?_) (fun h2=>?_)
 ·refine ai (ai (abq _) (iN (n:=(jh c).length) (by omega))) (ai rfl ?_)
  refine ei (eO ((jh c).getD k au).1) (ai (acZ _) ?_)
  have hgk:=hg _ (acH (bH au h2))
  refine ei _ (ai (amt) (ei ((c,((jh c).getD k au).1)) (ei [] (ai (a4 (ai (fun _=>Or.inl rfl) (ai nof (Or.inl rfl)))) (ai (by exact (ai (ai rfl (ai (ai rfl (fun _ _=>rfl)) (ai (ai rfl (fun _ _=>rfl)) (ai rfl (fun _ _=>rfl))))) (ai rfl (fun _ _=>rfl)))) (ai trivial (ai (⟨h24,hgk.1⟩) ?_)))))))
  refine ai (mxL (n:=((gX c).take k).length+1) (by omega) (by decide)) (ai (aH 1 rfl) ?_)
  refine ei (k+1) (ai (ai rfl rfl) (ai (ai (ai rfl (ai (ai rfl rfl) (ai (ai rfl rfl) (ai (ai (ai (ai (fun _=>rfl) (aO (by omega))) rfl) (ai rfl (ai rfl (ai ?_ ?_)))) trivial)))) rfl) (ai (ai (iL (by omega)) trivial) (iM (by omega)))))
  ·rw[htk k h2,aas];rfl
  ·rw[htk k h2];exact apb _ _
 ·obtain rfl:k=(jh c).length:=by omega
  rw[show (gX c).take (jh c).length=gX c from asB (by omega)]
  refine ei _ (ai (ak5 c.sts.length (by omega)) (ei (gX c) (ei [1] (ai (ai rfl (ai rfl (ai rfl (ai rfl (ai nof (ai nof (Or.inl rfl))))))) (ai (by exact (ai rfl (ai rfl trivial))) (ai (by exact (ai rfl (ai rfl (ai rfl (fun _ _=>rfl))))) (ai (⟨by show (gX c).length≤1000000000;omega,fun x hx=>by obtain ⟨y,hy,rfl⟩:=aq4.1 hx;exact (hg y hy).1⟩) ?_)))))))
  refine ai (ai (fun h=>absurd (show false=true from h) (by decide)) ?_) trivial
  show aB _ (nX c)
  rw[hA]
  exact (ai (ai rfl (fun _ _=>rfl)) rfl)
def arC:Spec:=bQ (fun a:List (Int)×List (Int)=>[isA a.1,isA a.2]) (fun a=>a.1.length≤1000000) (fun a=>bP (decide (a.1=a.2)))
theorem apu:aK Tryz.prog 59 arC:=by
 refine aX (Tb:=tab) mixed aA Tryz.func59 rfl rfl ?_
 rintro (a:List (Int)×List (Int)) hpre
 refine ai (ai rfl (ai rfl rfl)) ?_
 have hl:a.1.length≤1000000:=hpre
 refine bI (p:=a.1.length=a.2.length) (dh (by omega)) (fun h1=>?_) (fun h1=>?_)
 ·refine ai (ai (fun _=>trivial) ?_) trivial
  show aB _ (bP (decide (a.1=a.2)))
  rw[decide_eq_false (fun h=>h1 (congrArg List.length h))]
  exact rfl
 refine ei (bF.inv { X:=Nat,up:=fun k=>[(13,.s (iA k))],uo:=fun k=>[],inv:=fun k=>k≤a.1.length∧(a.1.take k=a.2.take k),meas:=fun k=>a.1.length-k,x0:=0 }) ?_
 refine ai (ai (ai (by exact (a4 (ai rfl rfl))) (ai (by exact (ai (ai (fun _=>rfl) (iE (by simp only[zz,reduceCtorEq];rfl))) rfl)) (by exact trivial))) rfl) (ai (ai (ae4 _) ?_) ?_)
 ·rfl
 intro (k:Nat) ⟨hk,hall⟩
 refine ah (p:=k<a.1.length) (av (by omega)) (fun h4=>?_) (fun h4=>?_)
 ·refine ei (.seq [0,1,2,3,4,5,6,7,8]) (ai (by kernel_rfl) ?_)
  refine ai (ai (abq _) (iN (n:=a.1.length) (by omega))) (ai rfl ?_)
  refine ai (ai (abq _) (iN (n:=a.2.length) (by omega))) (ai rfl ?_)
  refine bI (p:=a.1.getD k 0=a.2.getD k 0) (by exact bne_iff_ne) (fun h5=>?_) (fun h5=>?_)
  ·refine ai (ai (fun _=>trivial) ?_) trivial
   show aB _ (bP (decide (a.1=a.2)))
   rw[decide_eq_false (fun h=>h5 (by rw[h]))]
   exact rfl
  refine ei (k+1) (ai (ai rfl rfl) (ai (ai (ai rfl (ai (ai rfl rfl) (ai (ai rfl rfl) (ai (ai (ai (fun _=>rfl) (aO (by omega))) rfl) trivial)))) rfl) (ai (ai (iL (by omega)) ?_) (iM (by omega)))))
  exact wY 0 h4 (by omega) hall h5
 ·obtain rfl:k=a.1.length:=by omega
  rw[aga,h1,aga] at hall
  refine ai (ai (fun _=>trivial) ?_) trivial
  show aB _ (bP (decide (a.1=a.2)))
  rw[decide_eq_true hall]
  exact rfl
def arn:Spec:=bQ (fun a:List (Bool)×List (Bool)=>[vZ a.1,vZ a.2]) (fun a=>a.1.length≤1000000) (fun a=>bP (decide (a.1=a.2)))
theorem aph:aK Tryz.prog 37 arn:=by
 refine aX (Tb:=tab) mixed aA Tryz.func37 rfl rfl ?_
 rintro (a:List (Bool)×List (Bool)) hpre
 refine ai (ai rfl (ai rfl rfl)) ?_
 have hl:a.1.length≤1000000:=hpre
 refine bI (p:=a.1.length=a.2.length) (dh (by omega)) (fun h1=>?_) (fun h1=>?_)
 ·refine ai (ai (fun _=>trivial) ?_) trivial
  show aB _ (bP (decide (a.1=a.2)))
  rw[decide_eq_false (fun h=>h1 (congrArg List.length h))]
  exact rfl
 refine ei (bF.inv { X:=Nat,up:=fun k=>[(13,.s (iA k))],uo:=fun k=>[],inv:=fun k=>k≤a.1.length∧(a.1.take k=a.2.take k),meas:=fun k=>a.1.length-k,x0:=0 }) ?_
 refine ai (ai (ai (by exact (a4 (ai rfl rfl))) (ai (by exact (ai (ai (fun _=>rfl) (iE (by simp only[zz,reduceCtorEq];rfl))) rfl)) (by exact trivial))) rfl) (ai (ai (ae4 _) ?_) ?_)
 ·rfl
 intro (k:Nat) ⟨hk,hall⟩
 refine ah (p:=k<a.1.length) (av (by omega)) (fun h4=>?_) (fun h4=>?_)
 ·refine ei (.seq [0,1,2,3,4,5,6,7,8]) (ai (by kernel_rfl) ?_)
  refine ai (ai (abq _) (iN (n:=a.1.length) (by omega))) (ai rfl ?_)
  refine ai (ai (abq _) (iN (n:=a.2.length) (by omega))) (ai rfl ?_)
  refine bI (p:=a.1.getD k false=a.2.getD k false) (by exact bne_iff_ne) (fun h5=>?_) (fun h5=>?_)
  ·refine ai (ai (fun _=>trivial) ?_) trivial
   show aB _ (bP (decide (a.1=a.2)))
   rw[decide_eq_false (fun h=>h5 (by rw[h]))]
   exact rfl
  refine ei (k+1) (ai (ai rfl rfl) (ai (ai (ai rfl (ai (ai rfl rfl) (ai (ai rfl rfl) (ai (ai (ai (fun _=>rfl) (aO (by omega))) rfl) trivial)))) rfl) (ai (ai (iL (by omega)) ?_) (iM (by omega)))))
  exact wY false h4 (by omega) hall h5
 ·obtain rfl:k=a.1.length:=by omega
  rw[aga,h1,aga] at hall
  refine ai (ai (fun _=>trivial) ?_) trivial
  show aB _ (bP (decide (a.1=a.2)))
  rw[decide_eq_true hall]
  exact rfl
def arl:Spec:=bQ (fun a:List (Sk)×List (Sk)=>[aed a.1,aed a.2]) (fun a=>a.1.length≤1000000) (fun a=>bP (decide (a.1=a.2)))
theorem aiw:aK Tryz.prog 44 arl:=by
 refine aX (Tb:=tab) mixed aA Tryz.func44 rfl rfl ?_
 rintro (a:List (Sk)×List (Sk)) hpre
 refine ai (ai rfl (ai rfl rfl)) ?_
 have hl:a.1.length≤1000000:=hpre
 refine bI (p:=a.1.length=a.2.length) (dh (by omega)) (fun h1=>?_) (fun h1=>?_)
 ·refine ai (ai (fun _=>trivial) ?_) trivial
  show aB _ (bP (decide (a.1=a.2)))
  rw[decide_eq_false (fun h=>h1 (congrArg List.length h))]
  exact rfl
 refine ei (bF.inv { X:=Nat,up:=fun k=>[(13,.s (iA k))],uo:=fun k=>[],inv:=fun k=>k≤a.1.length∧(a.1.take k=a.2.take k),meas:=fun k=>a.1.length-k,x0:=0 }) ?_
 refine ai (ai (ai (by exact (a4 (ai rfl rfl))) (ai (by exact (ai (ai (fun _=>rfl) (iE (by simp only[zz,reduceCtorEq];rfl))) rfl)) (by exact trivial))) rfl) (ai (ai (ae4 _) ?_) ?_)
 ·rfl
 intro (k:Nat) ⟨hk,hall⟩
 refine ah (p:=k<a.1.length) (av (by omega)) (fun h4=>?_) (fun h4=>?_)
 ·refine ei (.seq [0,1,2,3,4,5,6,7,8]) (ai (by kernel_rfl) ?_)
  refine ai (ai (abq _) (iN (n:=a.1.length) (by omega))) (ai rfl ?_)
  refine ai (ai (abq _) (iN (n:=a.2.length) (by omega))) (ai rfl ?_)
  refine bI (p:=a.1.getD k aR=a.2.getD k aR) (by exact asq _ _) (fun h5=>?_) (fun h5=>?_)
  ·refine ai (ai (fun _=>trivial) ?_) trivial
   show aB _ (bP (decide (a.1=a.2)))
   rw[decide_eq_false (fun h=>h5 (by rw[h]))]
   exact rfl
  refine ei (k+1) (ai (ai rfl rfl) (ai (ai (ai rfl (ai (ai rfl rfl) (ai (ai rfl rfl) (ai (ai (ai (fun _=>rfl) (aO (by omega))) rfl) trivial)))) rfl) (ai (ai (iL (by omega)) ?_) (iM (by omega)))))
  exact wY aR h4 (by omega) hall h5
 ·obtain rfl:k=a.1.length:=by omega
  rw[aga,h1,aga] at hall
  refine ai (ai (fun _=>trivial) ?_) trivial
  show aB _ (bP (decide (a.1=a.2)))
  rw[decide_eq_true hall]
  exact rfl
theorem agM (f:Nat→List PV) (k:Nat) {g:Nat→List PV} (hg:g 0=f k):∀j,j<k+1→bJ k f g j=f j:=by
 intro j hj
 unfold bJ
 by_cases h:j<k
 ·rw[if_pos h]
 ·obtain rfl:j=k:=by omega
  rw[if_neg h,arK,hg]
def anQ (c:aW):Prop:=c.sts.length≤1000000∧c.trs.length≤1000000
def stF (c:aW) (k:Nat):List PV:=stK (c.sts.getD k st0)
def trF (c:aW) (k:Nat):List PV:=trK (c.trs.getD k bB)
theorem aiy:aK Tryz.prog 14 (iV (fun c:aW=>[kU c]) anQ (fun c=>sU c)):=by
 refine aX (Tb:=tab) mixed aA Tryz.func14 rfl rfl ?_
 rintro (c:aW) hpre
 refine ai (ai rfl (ai rfl rfl)) ?_
 obtain ⟨hs,ht⟩:=hpre
 have hs:c.sts.length≤1000000:=hs
 have ht:c.trs.length≤1000000:=ht
 refine ei (bF.inv { X:=Nat,up:=fun k=>[(16,.s (iA k))],uo:=fun k=>[⟨2,36,[.s (iA c.act),.s (.p false (ssP c.ins)),.rw 89 2 k (stF c),.s abQ]⟩],inv:=fun k=>k≤c.sts.length∧(True),meas:=fun k=>c.sts.length-k,x0:=0 }) ?_
 refine ai (ai (ai (by exact (a4 (ai rfl rfl))) (ai ?_ ?_)) rfl) (ai (ai (ae4 _) ?_) ?_)
 ·exact (ai (ai (fun _=>rfl) (iE (by simp only[zz,reduceCtorEq];rfl))) rfl)
 ·exact (ai (ai (ai (ai nof rfl) rfl) (ai (ai (ai nof (ai rfl (fun _ _=>rfl))) rfl) (ai rfl (ai (ai nof rfl) rfl)))) trivial)
 ·trivial
 intro (k:Nat) ⟨hk,_⟩
 refine ah (p:=k<c.sts.length) (av (by omega)) (fun h1=>?_) (fun h1=>?_)
 ·refine ai (ai (abq _) (iN (n:=c.sts.length) (by omega))) (ai rfl ?_)
  refine ai (mxL (n:=k+1) (by omega) (by decide)) (ai (lt1 rfl) ?_)
  refine ei (k+1) (ai (ai rfl rfl) (ai (ai (ai rfl (ai (ai rfl rfl) (ai (ai rfl rfl) (ai (ai (ai (fun _=>rfl) (aO (by omega))) rfl) (ai (ai (ai (ai nof rfl) rfl) (ai (ai (ai nof (ai rfl (fun _ _=>rfl))) rfl) (ai (ai rfl (ai rfl (ai rfl ?_))) (ai (ai nof rfl) rfl)))) trivial))))) rfl) (ai (ai (iL (by omega)) trivial) (iM (by omega)))))
  exact agM (stF c) k rfl
 obtain rfl:k=c.sts.length:=by omega
 refine ei (bF.inv { X:=Nat,up:=fun k=>[(34,.s (iA k))],uo:=fun k=>[⟨2,36,[.s (iA c.act),.s (.p false (ssP c.ins)),.rw 89 2 c.sts.length (stF c),.rw 123 5 k (trF c)]⟩],inv:=fun k=>k≤c.trs.length∧(True),meas:=fun k=>c.trs.length-k,x0:=0 }) ?_
 refine ai (ai (ai (by exact (a4 (ai rfl rfl))) (ai ?_ ?_)) rfl) (ai (ai (ae4 _) ?_) ?_)
 ·exact (ai (ai (fun _=>rfl) (iE (by simp only[zz,reduceCtorEq];rfl))) rfl)
 ·exact (ai (ai (ai (ai nof rfl) rfl) (ai (ai (ai nof (ai rfl (fun _ _=>rfl))) rfl) (ai (ai rfl (ai rfl (ai rfl (fun _ _=>rfl)))) rfl))) trivial)
 ·trivial
 intro (k:Nat) ⟨hk,_⟩
 refine ah (p:=k<c.trs.length) (av (by omega)) (fun h1=>?_) (fun h1=>?_)
 ·refine ai (ai (abq _) (iN (n:=c.trs.length) (by omega))) (ai rfl ?_)
  refine ai (mxL (n:=k+1) (by omega) (by decide)) (ai (lt1 rfl) ?_)
  refine ei (k+1) (ai (ai rfl rfl) (ai (ai (ai rfl (ai (ai rfl rfl) (ai (ai rfl rfl) (ai (ai (ai (fun _=>rfl) (aO (by omega))) rfl) (ai (ai (ai (ai nof rfl) rfl) (ai (ai (ai nof (ai rfl (fun _ _=>rfl))) rfl) (ai (ai rfl (ai rfl (ai rfl (fun _ _=>rfl)))) (ai rfl (ai rfl (ai rfl ?_)))))) trivial))))) rfl) (ai (ai (iL (by omega)) trivial) (iM (by omega)))))
  exact agM (trF c) k rfl
 obtain rfl:k=c.trs.length:=by omega
 refine ai (ai (fun h=>absurd (show false=true from h) (by decide)) ?_) trivial
 show aB _ (sU c)
 rw[show sU c=.agg [iP c.act,ssP c.ins,.seq c.sts.length (stF c),.seq c.trs.length (trF c)] from rfl]
 exact (ai rfl (ai (ai rfl (fun _ _=>rfl)) (ai (ai rfl (fun _ _=>rfl)) (ai rfl (fun _ _=>rfl)))))
def bbA (l:List (List Bool)):SV:=.p false (bbP l)
def adk (l:List (List Bool)):Prop:=l.length≤1000000∧∀m∈l,m.length≤1000000
theorem ajL:aK Tryz.prog 33 (bQ (fun a:List (List Bool)×List (List Bool)=>[bbA a.1,bbA a.2]) (fun a=>adk a.1) (fun a=>bP (decide (a.1=a.2)))):=by
 refine aX (Tb:=tab) mixed aA Tryz.func33 rfl rfl ?_
 rintro (a:List (List Bool)×List (List Bool)) hpre
 refine ai (ai rfl (ai rfl rfl)) ?_
 obtain ⟨hl,hm⟩:=hpre
 have hl:a.1.length≤1000000:=hl
 refine bI (p:=a.1.length=a.2.length) (dh (by omega)) (fun h1=>?_) (fun h1=>?_)
 ·refine ai (ai (fun _=>trivial) ?_) trivial
  show aB _ (bP (decide (a.1=a.2)))
  rw[decide_eq_false (fun h=>h1 (congrArg List.length h))]
  exact rfl
 refine ei (bF.inv { X:=Nat,up:=fun k=>[(5,.s (iA k))],uo:=fun k=>[],inv:=fun k=>k≤a.1.length∧(a.1.take k=a.2.take k),meas:=fun k=>a.1.length-k,x0:=0 }) ?_
 refine ai (ai (ai (by exact (a4 (ai rfl rfl))) (ai (by exact (ai (ai (fun _=>rfl) (iE (by simp only[zz,reduceCtorEq];rfl))) rfl)) (by exact trivial))) rfl) (ai (ai (ae4 _) ?_) ?_)
 ·rfl
 intro (k:Nat) ⟨hk,hall⟩
 refine ah (p:=k<a.1.length) (av (by omega)) (fun h4=>?_) (fun h4=>?_)
 ·refine ei (.seq [0,1,2,3,4,5,6,7,8,9]) (ai (by kernel_rfl) ?_)
  refine ai (ai (abq _) (iN (n:=a.1.length) (by omega))) (ai rfl ?_)
  refine ai (ai (abq _) (iN (n:=a.2.length) (by omega))) (ai rfl ?_)
  refine ei _ (ai (anO) (ei ((a.1.getD k [],a.2.getD k [])) (ei [] (ai (a4 (ai (fun _=>Or.inl rfl) (ai nof (Or.inl rfl)))) (ai (by exact (ai (ai rfl (fun _ _=>rfl)) (ai rfl (fun _ _=>rfl)))) (ai trivial (ai (hm _ (acH (bH [] h4))) ?_)))))))
  refine bI (p:=a.1.getD k []=a.2.getD k []) (by (show (!decide (a.1.getD k []=a.2.getD k []))=true↔_;simp)) (fun h5=>?_) (fun h5=>?_)
  ·refine ai (ai (fun _=>trivial) ?_) trivial
   show aB _ (bP (decide (a.1=a.2)))
   rw[decide_eq_false (fun h=>h5 (by rw[h]))]
   exact rfl
  refine ei (k+1) (ai (ai rfl rfl) (ai (ai (ai rfl (ai (ai rfl rfl) (ai (ai rfl rfl) (ai (ai (ai (fun _=>rfl) (aO (by omega))) rfl) trivial)))) rfl) (ai (ai (iL (by omega)) ?_) (iM (by omega)))))
  exact wY [] h4 (by omega) hall h5
 ·obtain rfl:k=a.1.length:=by omega
  rw[aga,h1,aga] at hall
  refine ai (ai (fun _=>trivial) ?_) trivial
  show aB _ (bP (decide (a.1=a.2)))
  rw[decide_eq_true hall]
  exact rfl
def bE (l:List Stp):List Sk:=l.flatMap (·.st)
def lG (s:fQ):Bool:=decide (s.sts.length≤128)&&s.sts.all fun x=>decide (x.st.length≤40)
theorem amL:aK Tryz.prog 17 (bQ (fun s:fQ=>[yj s]) (fun _=>True) (fun s=>bP (lG s))):=by
 refine aX (Tb:=tab) mixed aA Tryz.func17 rfl rfl ?_
 rintro (s:fQ) hpre
 refine ai (ai rfl (ai rfl rfl)) ?_
 refine ah (p:=128<s.sts.length) (av (by omega)) (fun h1=>?_) (fun h1=>?_)
 ·refine ai (ai (fun _=>trivial) ?_) trivial
  show aB _ (bP (lG s))
  rw[show lG s=false by unfold lG;rw[decide_eq_false (by omega)];rfl]
  exact rfl
 refine ei (bF.inv { X:=Nat,up:=fun k=>[(3,.s (iA k))],uo:=fun k=>[],inv:=fun k=>k≤s.sts.length∧(∀y∈s.sts.take k,y.st.length≤40),meas:=fun k=>s.sts.length-k,x0:=0 }) ?_
 refine ai (ai (ai (by exact (a4 (ai rfl rfl))) (ai (by exact (ai (ai (fun _=>rfl) (iE (by simp only[zz,reduceCtorEq];rfl))) rfl)) (by exact trivial))) rfl) (ai (ai (ae4 _) ?_) ?_)
 ·exact fun y hy=>absurd hy (by simp)
 intro (k:Nat) ⟨hk,hall⟩
 refine ah (p:=k<s.sts.length) (av (by omega)) (fun h4=>?_) (fun h4=>?_)
 ·refine ai (ai (abq _) (iN (n:=s.sts.length) (by omega))) (ai rfl ?_)
  refine ah (p:=40<(s.sts.getD k st0).st.length) (by simp only[zz,reduceCtorEq];omega) (fun h2=>?_) (fun h2=>?_)
  ·refine ai (ai (fun _=>trivial) ?_) trivial
   show aB _ (bP (lG s))
   rw[show lG s=false by unfold lG;rw[Bool.and_eq_false_iff];right;rw[atF];exact ⟨_,acH (bH st0 h4),fun h=>absurd (of_decide_eq_true h) (by omega)⟩]
   exact rfl
  refine ei (k+1) (ai (ai rfl rfl) (ai (ai (ai rfl (ai (ai rfl rfl) (ai (ai rfl rfl) (ai (ai (ai (fun _=>rfl) (aO (by omega))) rfl) trivial)))) rfl) (ai (ai (iL (by omega)) ?_) (iM (by omega)))))
  intro y hy
  rw[aU st0 h4] at hy
  rcases ahi.1 hy with hy | hy
  ·exact hall y hy
  ·simp only[agb] at hy;subst hy;omega
 ·obtain rfl:k=s.sts.length:=by omega
  rw[aga] at hall
  refine ai (ai (fun _=>trivial) ?_) trivial
  show aB _ (bP (lG s))
  rw[show lG s=true by unfold lG;rw[decide_eq_true (by omega),arL,alM];exact fun y hy=>decide_eq_true (hall y hy)]
  exact rfl
theorem alg {a b:List Sk}:∀k,k<a.length+b.length→bJ a.length (fun k=>vY (a.getD k aR)) (fun k=>vY (b.getD k aR)) k=vY ((a++b).getD k aR):=by
 intro k hk
 unfold bJ
 rw[aa7 (l:=a++b),List.getElem?_append]
 by_cases h:k<a.length
 ·rw[if_pos h,if_pos h]
  show vY (a.getD k aR)=_
  rw[aa7]
 ·rw[if_neg h,if_neg h]
  show vY (b.getD (k-a.length) aR)=_
  rw[aa7]
theorem aad {l:List Stp} {n:Nat} (h:∀x∈l,x.st.length≤n):(bE l).length≤l.length*n:=by
 induction l with
 | nil=>simp[bE]
 | cons x l ih=>
  have h1:=h x (by simp)
  have h2:=ih fun y hy=>h y (by simp[hy])
  show (x.st++bE l).length≤_
  rw[aas,ait,aqW];omega
theorem alU {s:fQ} (h:lG s=true):s.sts.length≤128∧∀x∈s.sts,x.st.length≤40:=by
 unfold lG at h
 rw[afT,alM] at h
 exact ⟨of_decide_eq_true h.1,fun x hx=>of_decide_eq_true (h.2 x hx)⟩
theorem ake:aK Tryz.prog 46 (iV (fun s:fQ=>[yj s]) (fun s=>lG s=true) (fun s=>nZ (bE s.sts))):=by
 refine aX (Tb:=tab) mixed aA Tryz.func46 rfl rfl ?_
 rintro (s:fQ) hpre
 refine ai (ai rfl (ai rfl rfl)) ?_
 obtain ⟨hn,hx⟩:=alU hpre
 refine ei (bF.inv { X:=Nat,up:=fun k=>[(4,.s (iA k)),(3,skR (bE (s.sts.take k)))],uo:=fun k=>[],inv:=fun k=>k≤s.sts.length∧(True),meas:=fun k=>s.sts.length-k,x0:=0 }) ?_
 refine ai (ai (ai (by exact (a4 (ai rfl rfl))) (ai (by exact (ai (ai (ai (fun _=>rfl) (iE (by simp only[zz,reduceCtorEq];rfl))) rfl) rfl)) (by exact trivial))) rfl) (ai (ai (ae4 _) ?_) ?_)
 ·trivial
 intro (k:Nat) ⟨hk,_⟩
 refine ah (p:=k<s.sts.length) (av (by omega)) (fun h1=>?_) (fun h1=>?_)
 ·refine ai (ai (abq _) (iN (n:=s.sts.length) (by omega))) (ai rfl ?_)
  have hl:=aad (l:=s.sts.take k) (n:=40) fun x h=>hx x (as5 h)
  rw[aik] at hl
  have hk40:=hx _ (acH (bH st0 h1))
  have e:bE (s.sts.take (k+1))=bE (s.sts.take k)++(s.sts.getD k st0).st:=by rw[aU st0 h1];unfold bE;rw[as7];simp
  refine ai (mxL (n:=(bE (s.sts.take k)).length+(s.sts.getD k st0).st.length) (by omega) (by decide)) (ai (fun _ _=>rfl) ?_)
  refine ei (k+1) (ai (ai rfl rfl) (ai (ai (ai rfl (ai (ai rfl rfl) (ai (ai rfl rfl) (ai (ai (ai (ai (fun _=>rfl) (aO (by omega))) rfl) (ai rfl (ai rfl (ai ?_ ?_)))) trivial)))) rfl) (ai (ai (iL (by omega)) trivial) (iM (by omega)))))
  all_goals rw[e]
  ·rw[aas];rfl
  ·exact alg
 ·obtain rfl:k=s.sts.length:=by omega
  have e:s.sts.take s.sts.length=s.sts:=aga
  refine ai (ai (fun h=>absurd (show false=true from h) (by decide)) ?_) trivial
  show aB _ (nZ (bE s.sts))
  rw[show nZ (bE s.sts)=nZ (bE (s.sts.take s.sts.length)) by rw[e]]
  exact (ai rfl (fun _ _=>rfl))
def alB (c:aW):Prop:=anQ c∧c.ins.length≤1000000∧(∀x∈c.sts,x.st.length≤1000000)∧∀t∈c.trs,t.fr.length≤1000000∧t.to.length≤1000000∧tF t.wh=true
def p10:Array Value:=(Lib.pow10Tab.map fun z=>Value.int .u64 z).toArray
def glP:List (Nat×Array Value):=[(0,p10)]
def fnG {α:Type} (args:α→List SV) (pre:α→Prop) (res:α→PV):Spec:={ A:=α,args:=args,objs:=fun _=>[],pre:=pre,res:=res,objs':=fun _=>[],fresh:=true,ro:=0,gl:=glP }
theorem ar8 {w:World} (h:∀p∈glP,∃T fr,w.heap[p.1]?=some (.cells p.2 T fr)):Lib.TabIs Tryz.prog w "internal/strconv.uint64pow10" .u64 Lib.pow10Tab:=by
 obtain ⟨T,fr,hw⟩:=h _ (agb.2 rfl)
 have hg:Tryz.prog.globalNamed "internal/strconv.uint64pow10"=some 0:=by kernel_rfl
 show World.var? _ w _=_
 unfold World.var?
 rw[hg]
 show (match w.heap[0]? with | some (.cells cs _ _)=>some cs | _=>none)=_
 rw[show w.heap[0]?=some (.cells p10 T fr) from hw]
 rfl
theorem af7:aK Tryz.prog 79 (fnG (fun n:Nat=>[iA n]) (fun n=>n≤1000000) (fun n=>sP (dec n))):=
 aiv (gl:=glP) Tryz.func79 rfl rfl (vals:=fun n:Nat=>[.int .i64 n]) (pre:=fun n=>n≤1000000) (ret:=fun n=>.string (strOf (dec n))) (fun _ _=>rfl) fun n hn w h=>by
  refine (Tryz.strconv_Itoa n (by omega) (by have:n≤1000000:=hn;omega) w (ar8 h)).mono fun e w' hh=>?_
  obtain ⟨h1,k,os,rfl⟩:=hh
  refine ⟨?_,?_⟩
  ·rw[h1]
   have:Lib.itoa (n:Int)=dec n:=by unfold Lib.itoa;rw[if_neg (by omega)];rfl
   rw[this];rfl
  ·exact ⟨rfl,rfl,rfl,by simp[Sort.grow],fun k hk=>by rw[Sort.heap_grow_old _ _ (by exact hk)];rfl⟩
def nN (x:Sk):List UInt8:=[UInt8.ofNat (65+x.1.toNat),if x.2 then 43 else 45]
theorem ajT:aK Tryz.prog 138 (bQ (fun x:Sk=>[skA x]) (fun x=>0≤x.1∧x.1<6) (fun x=>sP (nN x))):=by
 refine aX (Tb:=tab) mixed aA Tryz.func138 rfl rfl ?_
 rintro ⟨n,b⟩ hpre
 refine ai (ai rfl (ai rfl rfl)) ?_
 obtain ⟨h0,h6⟩:=hpre
 have h0:0≤n:=h0
 have h6:n<6:=h6
 obtain ⟨d,rfl⟩:∃d:Nat,n=(d:Int):=⟨n.toNat,by omega⟩
 have hv:IntKind.i32.wrap (IntKind.i64.wrap (65+(d:Int)))=((65+d:Nat):Int):=by
  rw[wrI (n:=65+(d:Int)) (by omega) (by omega)]
  simp[IntKind.wrap,IntKind.bits,IntKind.signed]<;>omega
 refine ai (by show 0≤IntKind.i32.wrap (IntKind.i64.wrap (65+(d:Int)))∧IntKind.i32.wrap (IntKind.i64.wrap (65+(d:Int)))<128;rw[hv];omega) ?_
 have hx:(⟨#[UInt8.ofNat (IntKind.i32.wrap (IntKind.i64.wrap (65+(d:Int)))).toNat]⟩:ByteArray)=strOf [UInt8.ofNat (65+d)]:=by rw[hv];rfl
 have hxs:(((((⟨#[UInt8.ofNat (IntKind.i32.wrap (IntKind.i64.wrap (65+(d:Int)))).toNat]⟩:ByteArray)).size+1:Nat)):Int)≤9223372036854775807:=by rw[hx,eF];show ((1+1:Nat):Int)≤_;decide
 refine aY (b:=b) rfl (fun h=>?_) (fun h=>?_)
 ·refine ai hxs ?_
  refine ai (ai (fun _=>trivial) ?_) trivial
  show aB _ (sP (nN ((d:Int),b)))
  rw[show nN ((d:Int),b)=[UInt8.ofNat (65+d)]++[43] by unfold nN;rw[h];rfl,show sP ([UInt8.ofNat (65+d)]++[43])=.val (.string ((⟨#[UInt8.ofNat (IntKind.i32.wrap (IntKind.i64.wrap (65+(d:Int)))).toNat]⟩:ByteArray)++strOf [43])) by rw[hx,dR];rfl]
  exact rfl
 ·refine ai hxs ?_
  refine ai (ai (fun _=>trivial) ?_) trivial
  show aB _ (sP (nN ((d:Int),b)))
  rw[show nN ((d:Int),b)=[UInt8.ofNat (65+d)]++[45] by unfold nN;rw[h];rfl,show sP ([UInt8.ofNat (65+d)]++[45])=.val (.string ((⟨#[UInt8.ofNat (IntKind.i32.wrap (IntKind.i64.wrap (65+(d:Int)))).toNat]⟩:ByteArray)++strOf [45])) by rw[hx,dR];rfl]
  exact rfl
def adP (x:Sk):Int:=if 0≤x.1∧x.1<6 then 0 else 2
theorem apl:aK Tryz.prog 137 (bQ (fun x:Sk=>[skA x]) (fun _=>True) (fun x=>iP (adP x))):=by
 refine aX (Tb:=tab) mixed aA Tryz.func137 rfl rfl ?_
 rintro (x:Sk) hpre
 refine ai (ai rfl (ai rfl rfl)) ?_
 refine ei _ (ai (aeV) (ei (x.1) (ei [] (ai (a4 (ai (fun _=>Or.inl rfl) (ai nof (Or.inl rfl)))) (ai (by exact rfl) (ai trivial (ai (trivial) ?_)))))))
 refine aY (b:=!(decide (0≤x.1)&&decide (x.1<6))) rfl (fun h=>?_) (fun h=>?_)
 ·have h:¬(0≤x.1∧x.1<6):=fun e=>by rw[decide_eq_true e.1,decide_eq_true e.2] at h;cases h
  refine ai (ai (fun _=>trivial) ?_) trivial
  show aB _ (iP (adP x))
  rw[adP,if_neg h]
  exact rfl
 ·have h:0≤x.1∧x.1<6:=by
   have h:(decide (0≤x.1)&&decide (x.1<6))=true:=by simpa using h
   rw[afT] at h
   exact ⟨of_decide_eq_true h.1,of_decide_eq_true h.2⟩
  refine ai (ai (fun _=>trivial) ?_) trivial
  show aB _ (iP (adP x))
  rw[adP,if_pos h]
  exact rfl
theorem agH:aK Tryz.prog 80 (iV (fun x:Sk=>[skA x]) (fun x=>0≤x.1∧x.1<6) (fun x=>.tup [sP (nN x),iP 0])):=by
 refine aX (Tb:=tab) mixed aA Tryz.func80 rfl rfl ?_
 rintro (x:Sk) hpre
 refine ai (ai rfl (ai rfl rfl)) ?_
 obtain ⟨h0,h6⟩:=hpre
 have h0:0≤x.1:=h0
 have h6:x.1<6:=h6
 refine ei _ (ai (apl) (ei (x) (ei [] (ai (a4 (ai (fun _=>Or.inl rfl) (ai nof (Or.inl rfl)))) (ai (by exact (ai rfl rfl)) (ai trivial (ai (trivial) ?_)))))))
 refine bI (p:=adP x=0) (dh (by omega)) (fun h=>?_) (fun h=>?_)
 ·exact absurd (if_pos ⟨h0,h6⟩) h
 refine ei _ (ai (ajT) (ei (x) (ei [] (ai (a4 (ai (fun _=>Or.inl rfl) (ai nof (Or.inl rfl)))) (ai (by exact (ai rfl rfl)) (ai trivial (ai (⟨h0,h6⟩) ?_)))))))
 refine ai (ai (fun _=>(by exact (ai trivial trivial))) ?_) trivial
 exact (ai rfl rfl)
def spI (l:List Int):List UInt8:=l.flatMap fun x=>dec x.toNat++[32]
theorem vX {n:Nat} (h:n<100):(dec n).length≤2:=by
 have:∀n:Fin 100,(Lib.decDigits n.1).length≤2:=by decide +kernel
 exact this ⟨n,h⟩
theorem aop {l:List Int} (h:jk 100 l):(spI l).length≤3*l.length:=by
 induction l with
 | nil=>simp[spI]
 | cons x l ih=>
  have h1:0≤x∧x<100:=h x (by simp)
  have h2:=ih fun y hy=>h y (by simp[hy])
  have h3:=vX (n:=x.toNat) (by omega)
  show ((dec x.toNat++[32])++spI l).length≤_
  simp only[aas,ait,al7];omega
theorem aJ {μ:Nat→Option (Array Value)} {u v:Value} (h:aL μ u (.val v)):u=v:=by cases h;rfl
def aoj (a:List (List UInt8)×List UInt8):Prop:=a.1.length≤1000000∧(Lib.join a.1 a.2).length≤140737488355328
theorem apt:aK Tryz.prog 143 (bQ (fun a:List (List UInt8)×List UInt8=>[ssA a.1,sA a.2]) aoj (fun a=>sP (Lib.join a.1 a.2))):=by
 refine ⟨⟨_,Tryz.func143,rfl,rfl⟩,fun a hpre E vs w _ hh hA=>?_⟩
 obtain ⟨l,sep⟩:=a
 obtain ⟨hll,hpre⟩:=hpre
 have hll:l.length≤1000000:=hll
 have hpre:(Lib.join l sep).length≤140737488355328:=hpre
 obtain ⟨hsz,hA⟩:=hA
 have hsz:vs.size=2:=hsz
 have hp:∀{u:Value} {d:PV},aI E u (.p false d)→aL (E.m false) u d:=fun hx=>by cases hx with | p _ _ _ hp=>exact hp
 have h0:aL (E.m false) (vs[0]'(by omega)) (ssP l):=hp (hA 0 _ _ (acy (by omega)) rfl)
 have h1:vs[1]'(by omega)=.string (strOf sep):=aJ (hp (hA 1 _ (sA sep) (acy (by omega)) rfl))
 have hvs:vs=#[vs[0]'(by omega),.string (strOf sep)]:=by
  apply asZ
  intro k
  match k with
  | 0=>rw[acy (by omega)];rfl
  | 1=>rw[acy (by omega),h1];rfl
  | k+2=>rw[alv (by omega)];simp
 generalize hv0:vs[0]'(by omega)=v0 at *
 clear h1 hv0 hA
 subst hvs
 have key:∀{n:Nat} {f:Nat→List PV},aL (E.m false) v0 (.seq n f)→n=l.length→f=(fun k=>[sP (l.getD k [])])→Calls Tryz.prog 143 #[v0,.string (strOf sep)] w fun e w'=>e=.returned (.string (strOf (Lib.join l sep)))∧Go.RowKit.Below w.heap.size w w':=by
  intro n f h hn hf
  cases h with
  | nil=>
   obtain rfl:l=[]:=an6.1 hn.symm
   exact (Tryz.strings_Join_none none 0 (strOf sep) w).mono fun e w' ⟨h1,h2⟩=>by subst h2;exact ⟨h1,RowKit.Below.refl _ _⟩
  | emp a c=>
   obtain rfl:l=[]:=an6.1 hn.symm
   exact (Tryz.strings_Join_none (some a) c (strOf sep) w).mono fun e w' ⟨h1,h2⟩=>by subst h2;exact ⟨h1,RowKit.Below.refl _ _⟩
  | seq b o _ cap sz _ cs u hm hcap hmax hl hc he=>
   subst hn;subst hf
   obtain ⟨T,fr,hw⟩:=hh.mem _ _ hm
   have hcell:∀(j:Nat) x,(l.map strOf)[j]?=some x→w.cell? ⟨b,o+j,none⟩=some (.string x):=by
    intro j x hx
    rw[ais] at hx
    obtain ⟨y,hy,rfl⟩:=asC.1 hx
    have hj:j<l.length:=(abd.1 hy).1
    have hg:l.getD j []=y:=by rw[aa7,hy];rfl
    have hs1:1=sz:=hl j hj
    subst hs1
    have h2:=hc j 0 (sP (l.getD j [])) hj rfl
    have h3:=aJ (he j 0 (sP (l.getD j [])) hj rfl)
    rw[h3,hg] at h2
    have h4:=h2.1
    rw[anW,arO] at h4
    simp[World.cell?,hw,h4]
   have e:(l.map strOf).map (·.data.toList)=l:=by
    rw[List.map_map]
    exact (List.map_congr_left fun x _=>rfl).trans (List.map_id l)
   have hb:b<w.heap.size:=by
    rcases aqQ b w.heap.size with h | h
    ·exact h
    ·rw[alv h] at hw;cases hw
   have:=Tryz.strings_Join b o cap (l.map strOf) (strOf sep) w hcell hb (by rw[ajh];omega) (by rw[ajh];exact hcap) (by rw[e];exact hpre)
   rw[ajh,e] at this
   exact this.mono fun e w' ⟨h1,h2⟩=>⟨h1,h2⟩
 exact (key h0 rfl rfl).mono fun e w' ⟨he,hw⟩=>⟨_,E,he,.val _,hh.below hw⟩
def l7 (l:List Int):List (List UInt8):=l.map fun x=>dec x.toNat
def inT (l:List Int):List UInt8:=Lib.join (l7 l) [32]
theorem aiZ:∀{l:List Int},l≠[]→spI l=inT l++[32]
 | [],h=>absurd rfl h
 | [x],_=>by show (dec x.toNat++[32])++[]=_;simp[inT,l7,Lib.join]
 | x :: y :: l,_=>by
  have:=aiZ (l:=y :: l) (by simp)
  show (dec x.toNat++[32])++spI (y :: l)=_
  rw[this]
  simp[inT,l7,Lib.join,List.intercalate_cons_cons]
theorem adC {l:List Int} (h:jk 100 l):(inT l).length≤3*l.length:=by
 by_cases hl:l=[]
 ·subst hl;simp[inT,l7,Lib.join]
 ·have:=aop h
  rw[aiZ hl,aas] at this;omega
theorem acP:aK Tryz.prog 83 (bQ (fun l:List Int=>[isA l]) (fun l=>jk 100 l∧l.length≤1000) (fun l=>sP (inT l))):=by
 refine aX (Tb:=tab) mixed aA Tryz.func83 rfl rfl ?_
 rintro (l:List Int) hpre
 refine ai (ai rfl (ai rfl rfl)) ?_
 obtain ⟨hx,hl⟩:=hpre
 have hx:jk 100 l:=hx
 have hl:l.length≤1000:=hl
 refine ei (bF.inv { X:=Nat,up:=fun k=>[(8,.s (iA k)),(3,ssR (l7 (l.take k)))],uo:=fun k=>[],inv:=fun k=>k≤l.length∧(True),meas:=fun k=>l.length-k,x0:=0 }) ?_
 refine ai (ai (ai (by exact (a4 (ai rfl rfl))) (ai (by exact (ai (ai (ai (fun _=>rfl) (iE (by simp only[zz,reduceCtorEq];rfl))) rfl) rfl)) (by exact trivial))) rfl) (ai (ai (ae4 _) ?_) ?_)
 ·trivial
 intro (k:Nat) ⟨hk,_⟩
 have hdl:(l7 (l.take k)).length=k:=by unfold l7;rw[ajh,aik];omega
 refine ah (p:=k<l.length) (av (by omega)) (fun h1=>?_) (fun h1=>?_)
 ·refine ai (ai (abq _) (iN (n:=l.length) (by omega))) (ai rfl ?_)
  have hk1:=vT hx h1
  obtain ⟨d,hd⟩:∃d:Nat,l.getD k 0=(d:Int):=⟨(l.getD k 0).toNat,by omega⟩
  have e:l7 (l.take (k+1))=l7 (l.take k)++[dec d]:=by rw[aU 0 h1];unfold l7;rw[arI,hd];rfl
  refine ei _ (ai (wJ) (ei (d) (ei [] (ai (a4 (ai (fun _=>Or.inl rfl) (ai nof (Or.inl rfl)))) (ai ?_ (ai (by exact trivial) (ai ((by show d<100;omega)) ?_)))))))
  ·exact (iE (by simp only[zz,reduceCtorEq];omega))
  refine ai (afr (by show (l7 (l.take k)).length+1≤10000;omega)) (ai (aH 1 rfl) ?_)
  refine ei (k+1) (ai (ai rfl rfl) (ai (ai (ai rfl (ai (ai rfl rfl) (ai (ai rfl rfl) (ai (ai (ai (ai (fun _=>rfl) (aO (by omega))) rfl) (ai rfl (ai rfl (ai ?_ ?_)))) trivial)))) rfl) (ai (ai (iL (by omega)) trivial) (iM (by omega)))))
  all_goals rw[e]
  ·rw[aas];rfl
  ·exact fun j hj=>aaX (a:=l7 (l.take k)) (b:=[dec d]) (n:=(l7 (l.take k)).length) (f:=fun k=>[sP ((l7 (l.take _)).getD k [])]) rfl (fun _ _=>rfl) (aia rfl) j (by rw[aas];exact hj)
 ·obtain rfl:k=l.length:=by omega
  have et:l.take l.length=l:=aga
  refine ei _ (ai (apt) (ei ((l7 (l.take l.length),[32])) (ei [] (ai (ai rfl (ai rfl (ai rfl (ai rfl (ai (fun _=>Or.inl rfl) (ai (fun _=>ai rfl rfl) (Or.inl rfl))))))) (ai (by exact (ai (ai rfl (fun _ _=>rfl)) rfl)) (ai trivial (ai (⟨by show (l7 (l.take l.length)).length≤1000000;omega,by show (Lib.join (l7 (l.take l.length)) [32]).length≤140737488355328;rw[et];have:=adC hx;unfold inT at this;omega⟩) ?_)))))))
  refine ai (ai (fun _=>trivial) ?_) trivial
  show aB _ (sP (inT l))
  rw[show inT l=Lib.join (l7 (l.take l.length)) [32] by rw[et];rfl]
  exact rfl
def three:fQ:=⟨2,[⟨[(0,true)],0⟩,⟨[(1,true)],150⟩,⟨[(0,false),(1,false)],0⟩]⟩
def aqN (n:Int) (b:Bool):PV:=.seq 1 (bg 2 [iP n,bP b])
def ug:PV:=.agg [iP 2,.seq 3 (bg 2 [aqN 0 true,iP 0,aqN 1 true,iP 150,.seq 2 (bg 2 [iP 0,bP false,iP 1,bP false]),iP 0])]
theorem al3:aK Tryz.prog 57 (iV (fun _:Unit=>[]) (fun _=>True) (fun _=>ug)):=by
 refine iT [4000002,4000005,4000009,4000011] ?_
 refine aX (Tb:=tab) mixed aA Tryz.func57 rfl rfl ?_
 rintro (u:Unit) hpre
 refine ai (ai rfl (ai rfl rfl)) ?_
 refine ai (ai (fun h=>absurd (show false=true from h) (by decide)) ?_) trivial
 show aB _ (ug)
 rw[show ug=ug from rfl]
 exact (ai rfl (ai rfl (fun _ _=>rfl)))
theorem amN:gT ug (.agg (sqK three)):=by
 refine vP (bG (.refl _) (bG (iB fun k hk=>?_) mY))
 match k,hk with
 | 0,_=>exact aef (iB fun k hk=>by match k,hk with | 0,_=>exact dw.rfl' _) (.refl _)
 | 1,_=>exact aef (iB fun k hk=>by match k,hk with | 0,_=>exact dw.rfl' _) (.refl _)
 | 2,_=>exact aef (iB fun k hk=>by match k,hk with | 0,_=>exact dw.rfl' _ | 1,_=>exact dw.rfl' _) (.refl _)
theorem amA:aK Tryz.prog 57 (iV (fun _:Unit=>[]) (fun _=>True) (fun _=>.agg (sqK three))):=adY al3 fun _ _=>amN
theorem aaj:∀l:List Sk,sizes (l.map fun y=>je (eP y))=l.length
 | []=>by simp[sizes]
 | y :: l=>by
  rw[ak3,sizes,aaj l,ait]
  show (Ex.node 1 (eP y) []).size+l.length=_
  rw[Ex.size,sizes];omega
theorem zm:∀l:List Sk,jB (l.map fun y=>je (eP y))≤1
 | []=>by simp[jB]
 | y :: l=>by
  rw[ak3,jB]
  have:=zm l
  have h:(je (eP y)).deep=1:=by show (Ex.node 1 (eP y) []).deep=1;rw[Ex.deep,jB]
  omega
theorem xJ (n:Int):tF (je n)=true:=wK.2 ⟨by show (Ex.node 1 n []).size≤256;rw[Ex.size,sizes];omega,by show (Ex.node 1 n []).deep≤16;rw[Ex.deep,jB];omega⟩
theorem adf {l:List Sk} (h:l.length≤6):tF (.node 3 0 (l.map fun y=>je (eP y)))=true:=by
 have h1:=aaj l
 have h2:=zm l
 exact wK.2 ⟨by rw[Ex.size];omega,by rw[Ex.deep];omega⟩
theorem ac3 {l:List Sk} (h:l.length≤6):tF (zx l)=true:=by
 match l,h with
 | [y],_=>exact xJ _
 | [],h=>exact adf h
 | a :: b :: l,h=>exact adf h
def okQ (q:SX):Prop:=q.1.st.length≤6∧tF q.2=true
theorem alD {s:fQ} (h:∀x∈s.sts,x.st.length≤6):∀q∈fu s,okQ q:=by
 have key:∀(l:List Stp) (p:List SX),(∀x∈l,x.st.length≤6)→(∀q∈p,okQ q)→∀q∈l.foldl (kG s.act) p,okQ q:=by
  intro l
  induction l with
  | nil=>intro p _ h;exact h
  | cons x l ih=>
   intro p hx h
   rw[asG]
   refine ih _ (fun y hy=>hx y (by simp[hy])) fun q hq=>?_
   have hx0:=hx x (by simp)
   unfold kG at hq
   split at hq
   ·rcases ahi.1 hq with hq | hq
    ·rcases ahi.1 hq with hq | hq
     ·exact h q hq
     ·simp only[agb] at hq;subst hq;exact ⟨hx0,ac3 hx0⟩
    ·simp only[agb] at hq;subst hq;exact ⟨ae4 _,xJ _⟩
   ·rcases ahi.1 hq with hq | hq
    ·exact h q hq
    ·simp only[agb] at hq;subst hq;exact ⟨hx0,ac3 hx0⟩
 exact key s.sts _ h fun q hq=>by simp only[agb] at hq;subst hq;exact ⟨ae4 _,xJ _⟩
theorem aoD {s:fQ} (h:pK s=0):dY s=0∧(fu s).length≤24:=by
 unfold pK at h
 split at h
 ·rename_i h1;exact absurd h h1
 ·rename_i h1
  split at h
  ·cases h
  ·rename_i h2
   rw[xP,ajh] at h2
   exact ⟨an3.1 h1,by omega⟩
theorem alm (s:fQ):alB (ofC s):=by
 unfold ofC
 split
 ·rename_i h
  obtain ⟨h1,h2⟩:=aoD h
  obtain ⟨_,_,hck⟩:=seq_ok h1
  have hq:=alD (s:=s) fun x hx=>(jI (hck x hx)).1.2
  refine ⟨⟨?_,?_⟩,?_,fun x hx=>?_,fun t ht=>?_⟩
  ·show ((fu s).map (·.1)).length≤_;rw[ajh];omega
  ·show ((List.range (fu s).length).map (sN (fu s))).length≤_;rw[ajh,ath];omega
  ·show 1≤1000000;omega
  ·have hx:x∈(fu s).map (·.1):=hx
   obtain ⟨q,hq1,rfl⟩:=aq4.1 hx
   have:=(hq q hq1).1;omega
  ·have ht:t∈(List.range (fu s).length).map (sN (fu s)):=ht
   obtain ⟨k,hk,rfl⟩:=aq4.1 ht
   have hk:=as2.1 hk
   exact ⟨by show 1≤1000000;omega,by show 1≤1000000;omega,(hq _ (acH (bH uO hk))).2⟩
 ·exact ⟨⟨ae4 _,ae4 _⟩,ae4 _,(fun x hx=>nomatch (show x∈([]:List Stp) from hx)),(fun t ht=>nomatch (show t∈([]:List kM) from ht))⟩
theorem ani {l:List Mk} {m:List Bool}:ny l m=true↔∃y∈l,y.1=m:=by
 unfold ny
 rw[arN]
 constructor
 ·rintro ⟨y,hy,h⟩;exact ⟨y,hy,of_decide_eq_true h⟩
 ·rintro ⟨y,hy,h⟩;exact ⟨y,hy,decide_eq_true h⟩
theorem anA {l t:List Mk} {a:Nat} (h:a<l.length):(l++t).getD a au=l.getD a au:=by
 rw[aa7,aa7,aeM h]
def amm:Spec:=bQ (fun a:List Bool×List Bool=>[vZ a.1,.p false (.pt [kW a.2] 0)]) (fun a=>a.1.length≤1000000) (fun a=>bP (decide (a.1=a.2)))
def abL (l:List (List Bool)) (m:List Bool):Bool:=l.any fun x=>decide (x=m)
def ali (a:List (List Bool)×List Bool):Prop:=adk a.1
theorem apm {g:Nat} (hg:aK Tryz.prog g amm):aK Tryz.prog 105 (bQ (fun a:List (List Bool)×List Bool=>[bbA a.1,.p false (.fn g [.pt [kW a.2] 0])]) ali (fun a=>iP (fZ (fun x=>decide (x=a.2)) a.1))):=by
 refine aX (Tb:=tab) mixed aA Tryz.func105 rfl rfl ?_
 rintro (a:List (List Bool)×List Bool) hpre
 refine ai (ai rfl (ai rfl rfl)) ?_
 obtain ⟨hl,hx⟩:=hpre
 have hl:a.1.length≤1000000:=hl
 refine ei (bF.inv { X:=Nat,up:=fun k=>[(8,.s (iA k))],uo:=fun k=>[],inv:=fun k=>k≤a.1.length∧(∀y∈a.1.take k,decide (y=a.2)=false),meas:=fun k=>a.1.length-k,x0:=0 }) ?_
 refine ai (ai (ai (by exact (a4 (ai rfl rfl))) (ai (by exact (ai (ai (fun _=>rfl) (iE (by simp only[zz,reduceCtorEq];rfl))) rfl)) (by exact trivial))) rfl) (ai (ai (ae4 _) ?_) ?_)
 ·exact fun y hy=>absurd hy (by simp)
 intro (k:Nat) ⟨hk,hall⟩
 refine ah (p:=k<a.1.length) (av (by omega)) (fun h1=>?_) (fun h1=>?_)
 ·refine ai (ai (abq _) (iN (n:=a.1.length) (by omega))) (ai rfl ?_)
  refine ei _ (ai (hg) (ei ((a.1.getD k [],a.2)) (ei [] (ai (a4 (ai (fun _=>Or.inl rfl) (ai nof (Or.inl rfl)))) (ai (by exact (ai (ai rfl (fun _ _=>rfl)) (ai rfl rfl))) (ai trivial (ai (hx _ (acH (bH [] h1))) ?_)))))))
  refine aY (b:=decide (a.1.getD k []=a.2)) rfl (fun h2=>?_) (fun h2=>?_)
  ·refine ai (ai (fun _=>trivial) ?_) trivial
   show aB _ (iP (fZ (fun x=>decide (x=a.2)) a.1))
   rw[ni (d:=[]) h1 h2 hall]
   exact rfl
  refine ei (k+1) (ai (ai rfl rfl) (ai (ai (ai rfl (ai (ai rfl rfl) (ai (ai rfl rfl) (ai (ai (ai (fun _=>rfl) (aO (by omega))) rfl) trivial)))) rfl) (ai (ai (iL (by omega)) ?_) (iM (by omega)))))
  intro y hy
  rw[aU [] h1] at hy
  rcases ahi.1 hy with hy | hy
  ·exact hall y hy
  ·simp only[agb] at hy;subst hy;exact h2
 ·obtain rfl:k=a.1.length:=by omega
  rw[aga] at hall
  refine ai (ai (fun _=>trivial) ?_) trivial
  show aB _ (iP (fZ (fun x=>decide (x=a.2)) a.1))
  rw[oC hall]
  exact rfl
theorem aoC {g:Nat} (hg:aK Tryz.prog g amm):aK Tryz.prog 35 (bQ (fun a:List (List Bool)×List Bool=>[bbA a.1,.p false (.fn g [.pt [kW a.2] 0])]) ali (fun a=>bP (abL a.1 a.2))):=by
 refine aX (Tb:=tab) mixed aA Tryz.func35 rfl rfl ?_
 rintro (a:List (List Bool)×List Bool) hpre
 refine ai (ai rfl (ai rfl rfl)) ?_
 refine ei _ (ai ((apm hg)) (ei (a) (ei [] (ai (a4 (ai (fun _=>Or.inl rfl) (ai nof (Or.inl rfl)))) (ai (by exact (ai (ai rfl (fun _ _=>rfl)) (ai rfl rfl))) (ai trivial (ai (hpre) ?_)))))))
 refine ai (ai (fun _=>trivial) ?_) trivial
 show aB _ (bP (abL a.1 a.2))
 rw[show abL a.1 a.2=decide (0≤fZ (fun x=>decide (x=a.2)) a.1) from (mK (fun x=>decide (x=a.2)) a.1).symm]
 exact rfl
end Go.Sx.Pe
namespace Go.Sx.Pe
open Go Go.Proofs Go.RowKit Go.Sx.Pn
theorem cell_of {w:World} {b:Nat} {vs:Array Value} {T:TypeId} {off:Nat} {v:Value} (h:w.heap[b]?=some (.cells vs T (0,0))) (hv:vs[off]?=some v):w.cell? ⟨b,off,none⟩=some v:=by
 simp[World.cell?,h,hv]
theorem ahl {w:World} {b:Nat} {vs:Array Value} {T:TypeId} (h:w.heap[b]?=some (.cells vs T (0,0))):w.shape? b=some (T,vs.size):=by
 simp[World.shape?,h]
theorem ak9 {w:World} {b off:Nat} {vs:Array Value} {T:TypeId} (h:w.heap[b]?=some (.cells vs T (0,0))):w.frozen? ⟨b,off,none⟩=false:=by
 simp[World.frozen?,h]
set_option maxRecDepth 100000 in
theorem am9 (b:Nat) (w:World) (h0:w.cell? ⟨b,0,none⟩=some (.pointer (some ⟨b,0,none⟩))) :
  Calls Tryz.prog 135 #[.pointer (some ⟨b,0,none⟩)] w fun e w'=>e=.returned (.tuple #[])∧w'=w:=by
 obtain ⟨j,hj,_⟩:=asC.1 (show (Tryz.prog.info? 143).map (·.size)=some 2 by kernel_rfl)
 go_enter Tryz.func135,Tryz.ntmps135
 go_wp2
 rw[Lib.run_neq_ptr_same w _ Tryz.underlying140 hj]
 go_wp2
 go_end0
 exact ⟨rfl,rfl⟩
set_option maxRecDepth 100000 in
theorem akZ (T n b:Nat) (hlies:liesAt Tryz.prog Tryz.prog.depth T (n / Tryz.prog.cellsOf T) 0 143 1=true) (hn:0<n) (w:World) (h0:w.cell? ⟨b,0,none⟩=some (.pointer none)) (hsh:w.shape? b=some (T,n)) (hfz:w.frozen? ⟨b,0,none⟩=false) :
  Calls Tryz.prog 135 #[.pointer (some ⟨b,0,none⟩)] w fun e w'=>e=.returned (.tuple #[])∧w'=w.setCell ⟨b,0,none⟩ (.pointer (some ⟨b,0,none⟩)):=by
 obtain ⟨j,hj,hjs⟩:=asC.1 (show (Tryz.prog.info? 143).map (·.size)=some 2 by kernel_rfl)
 go_enter Tryz.func135,Tryz.ntmps135
 go_wp2
 rw[Lib.run_to_unsafe w ⟨b,0,none⟩ Tryz.underlying140 Tryz.underlying226 hj (by rw[hjs];decide) hsh hn]
 simp only[Result.andThen]
 rw[Oper.upon_value]
 go_wp2
 rw[run_callFunc_extern Tryz.func166 (by kernel_rfl) (by kernel_rfl) (by kernel_rfl) (e:=Extern.AbiNoEscape.same) (by kernel_rfl)]
 rw[Lib.run_noEscape]
 simp only[Result.andThen]
 rw[Oper.upon_value]
 go_wp2
 rw[Lib.run_from_unsafe w ⟨b,0,none⟩ Tryz.underlying226 Tryz.underlying140 hj hsh hlies]
 simp only[Result.andThen]
 rw[Oper.upon_value]
 go_wp2
 go_end0
 exact ⟨rfl,rfl⟩
theorem agk (T n:Nat) (hlies:liesAt Tryz.prog Tryz.prog.depth T (n / Tryz.prog.cellsOf T) 0 143 1=true) (hn:0<n):ace Tryz.prog 135 T n:=
 ⟨⟨_,Tryz.func135,rfl,rfl⟩,fun b vs w hw hs=>⟨fun h0=>akZ T n b hlies hn w (cell_of hw h0) (by rw[ahl hw,hs]) (ak9 hw),fun h0=>am9 b w (cell_of hw h0)⟩⟩
theorem afv:ace Tryz.prog 135 143 2:=agk _ _ (by kernel_rfl) (by decide)
theorem aod:ace Tryz.prog 135 202 3:=agk _ _ (by kernel_rfl) (by decide)
set_option maxRecDepth 100000 in
theorem aiS (T n:Nat):an7 Tryz.prog 84 T n 5:=by
 refine ⟨⟨_,Tryz.func84,rfl,rfl⟩,fun b vs w g cap cur l hw hs h1 hg hnc hcm hcs hcell h0=>?_⟩
 have hl0:l.length≠0:=by simpa using h0
 have c1:w.drew.cell? ⟨b,1,none⟩=some (.slice (some ⟨g,0,none⟩) l.length cap):=cell_of (w:=w.drew) hw h1
 have hSD:(Builtin.unsafeSliceData_ #[141] 206 #[.slice (some ⟨g,0,none⟩) l.length cap]).run Tryz.prog w.drew=.ok (.pointer (some ⟨g,0,none⟩)) w.drew:=
  Lib.run_unsafeSliceData_row _ _ _ _ _ _ (by omega)
 have hUS:(Builtin.unsafeString_ #[206,3] 9 #[.pointer (some ⟨g,0,none⟩),.int .i64 l.length]).run Tryz.prog w.drew=.ok (.string ⟨l.toArray⟩) (w.drew.freeze ⟨g,0,none⟩ l.length):=by
  refine Lib.run_unsafeString_row w.drew 206 3 9 5 Tryz.underlying206 (by kernel_rfl) g cur.size (ahl (w:=w.drew) hg) l h0 (by omega) (by unfold maxLen at hcm;omega) ?_
  intro j x hx
  rw[Addr.add_lit]
  exact cell_of (w:=w.drew) hg (by rw[agC];exact hcell j x hx)
 have mixed:=mixed
 go_enter Tryz.func84,Tryz.ntmps84
 go_wp2
 go_region_o
 all_goals (go_wp2;go_ret;exact ⟨rfl,rfl⟩)
end Go.Sx.Pe
namespace Go.Sx.Pe
open Go Go.Proofs Go.Sx.Pn
def og (l:List UInt8):Ob:=.row 5 1 l.length (fun k=>[cP (l.getD k 0)])
def aqX:SV:=.p false (.val .nilIface)
theorem mX {a b:List UInt8} {n:Nat} {f g:Nat→List PV} (hn:n=a.length) (hf:∀k,k<a.length→f k=[cP (a.getD k 0)]) (hg:∀k,k<b.length→g k=[cP (b.getD k 0)]):∀k,k<(a++b).length→bJ n f g k=[cP ((a++b).getD k 0)]:=by
 intro k hk
 subst hn
 unfold bJ
 by_cases h:k<a.length
 ·rw[if_pos h,hf k h,aa7,aa7,aeM h]
 ·have hb:k-a.length<b.length:=by rw[aas] at hk;omega
  rw[if_neg h,hg _ hb,aa7,aa7,afK (by omega)]
theorem one_byte {c:UInt8}:∀k,k<[c].length→bg 1 [cP c] k=[cP ([c].getD k 0)]:=by
 intro k hk
 have hk:k<1:=hk
 obtain rfl:k=0:=by omega
 rfl
theorem u6 (l:List UInt8):∀k,jT (strOf l) k=[cP (l.getD k 0)]:=by
 intro k
 show [PV.val (.int .u8 ((strOf l).data.getD k 0).toNat)]=_
 have:(strOf l).data.getD k 0=l.getD k 0:=by
  show l.toArray.getD k 0=_
  simp[acW]
 rw[this];rfl
theorem ahz (l:List UInt8):(strOf l).size=l.length:=by
 show l.toArray.size=_
 simp
def adr:Bool→SV
 | true=>.own 0 0
 | false=>.p false (.val (.pointer none))
def bld (T:Nat) (rest:List SV) (st:Bool:=true):Ob:=.cells T (adr st :: .row 1 :: rest)
abbrev NM := List (List UInt8)
def wbG (T:Nat) (rest:NM→List SV):qD:={ A:=Bool×NM×List UInt8×UInt8,fix:=1,args:=fun a=>[.own 0 0,cA a.2.2.2],objs:=fun a=>[bld T (rest a.2.1) a.1,og a.2.2.1],pre:=fun a=>a.2.2.1.length≤1000000,res:=fun _=>aqX,objs':=fun a=>[bld T (rest a.2.1),og (a.2.2.1++[a.2.2.2])],inl:=[135] }
def wsG (T:Nat) (rest:NM→List SV):qD:={ A:=Bool×NM×List UInt8×List UInt8,fix:=1,args:=fun a=>[.own 0 0,sA a.2.2.2],objs:=fun a=>[bld T (rest a.2.1) a.1,og a.2.2.1],pre:=fun a=>a.2.2.1.length≤1000000∧a.2.2.2.length≤1000000,res:=fun a=>.tup [iA a.2.2.2.length,aqX],objs':=fun a=>[bld T (rest a.2.1),og (a.2.2.1++a.2.2.2)],inl:=[135] }
def noR:NM→List SV:=fun _=>[]
def nmR:NM→List SV:=fun l=>[ssA l]
theorem sQ:jK Tryz.prog 78 (wsG 143 noR):=by
 refine o8 (Tb:=tab) mixed aA Tryz.func78 rfl rfl ?_
 rintro ⟨st,a⟩ hpre
 refine ai (ai rfl (ai rfl rfl)) ?_
 have hl:a.2.1.length≤1000000:=hpre.1
 have hl2:a.2.2.length≤1000000:=hpre.2
 have hz:=ahz a.2.2
 cases st with
 | true=>
  refine sK afv rfl rfl rfl (.inl rfl) ?_
  refine ai (ai (ai rfl rfl) (ai (by show a.2.1.length+_≤_;rw[hz];unfold maxLen;omega) (by show a.2.1.length+_≤_;rw[hz];omega))) ?_
  refine ei [0,2] (ai (ai rfl (ai rfl rfl)) (ai ?_ ?_))
  ·exact (ai (iE (by simp only[zz,reduceCtorEq];rfl)) rfl)
  ·refine (ai (ai rfl (ai (ai rfl rfl) rfl)) (ai rfl (ai rfl (ai ?_ ?_))))
   ·show a.2.1.length+(strOf a.2.2).size=(a.2.1++a.2.2).length
    rw[hz,aas]
   ·exact mX rfl (fun _ _=>rfl) (fun k _=>u6 _ k)
 | false=>
  refine sK afv rfl rfl rfl (.inr ⟨_,rfl⟩) ?_
  refine ai (ai (ai rfl rfl) (ai (by show a.2.1.length+_≤_;rw[hz];unfold maxLen;omega) (by show a.2.1.length+_≤_;rw[hz];omega))) ?_
  refine ei [0,2] (ai (ai rfl (ai rfl rfl)) (ai ?_ ?_))
  ·exact (ai (iE (by simp only[zz,reduceCtorEq];rfl)) rfl)
  ·refine (ai (ai rfl (ai (ai rfl rfl) rfl)) (ai rfl (ai rfl (ai ?_ ?_))))
   ·show a.2.1.length+(strOf a.2.2).size=(a.2.1++a.2.2).length
    rw[hz,aas]
   ·exact mX rfl (fun _ _=>rfl) (fun k _=>u6 _ k)
theorem afI:jK Tryz.prog 78 (wsG 202 nmR):=by
 refine o8 (Tb:=tab) mixed aA Tryz.func78 rfl rfl ?_
 rintro ⟨st,a⟩ hpre
 refine ai (ai rfl (ai rfl rfl)) ?_
 have hl:a.2.1.length≤1000000:=hpre.1
 have hl2:a.2.2.length≤1000000:=hpre.2
 have hz:=ahz a.2.2
 cases st with
 | true=>
  refine sK aod rfl rfl rfl (.inl rfl) ?_
  refine ai (ai (ai rfl rfl) (ai (by show a.2.1.length+_≤_;rw[hz];unfold maxLen;omega) (by show a.2.1.length+_≤_;rw[hz];omega))) ?_
  refine ei [0,2] (ai (ai rfl (ai rfl rfl)) (ai ?_ ?_))
  ·exact (ai (iE (by simp only[zz,reduceCtorEq];rfl)) rfl)
  ·refine (ai (ai rfl (ai (ai rfl rfl) (ai rfl (ai rfl (fun _ _=>rfl))))) (ai rfl (ai rfl (ai ?_ ?_))))
   ·show a.2.1.length+(strOf a.2.2).size=(a.2.1++a.2.2).length
    rw[hz,aas]
   ·exact mX rfl (fun _ _=>rfl) (fun k _=>u6 _ k)
 | false=>
  refine sK aod rfl rfl rfl (.inr ⟨_,rfl⟩) ?_
  refine ai (ai (ai rfl rfl) (ai (by show a.2.1.length+_≤_;rw[hz];unfold maxLen;omega) (by show a.2.1.length+_≤_;rw[hz];omega))) ?_
  refine ei [0,2] (ai (ai rfl (ai rfl rfl)) (ai ?_ ?_))
  ·exact (ai (iE (by simp only[zz,reduceCtorEq];rfl)) rfl)
  ·refine (ai (ai rfl (ai (ai rfl rfl) (ai rfl (ai rfl (fun _ _=>rfl))))) (ai rfl (ai rfl (ai ?_ ?_))))
   ·show a.2.1.length+(strOf a.2.2).size=(a.2.1++a.2.2).length
    rw[hz,aas]
   ·exact mX rfl (fun _ _=>rfl) (fun k _=>u6 _ k)
def ar3 (T:Nat) (rest:NM→List SV):qD:={ A:=NM×List UInt8,fix:=1,args:=fun a=>[.own 0 0],objs:=fun a=>[bld T (rest a.1),og a.2],pre:=fun a=>True,res:=fun a=>iA a.2.length,objs':=fun a=>[bld T (rest a.1),og a.2] }
theorem ao9:jK Tryz.prog 142 (ar3 202 nmR):=by
 refine o8 (Tb:=tab) mixed aA Tryz.func142 rfl rfl ?_
 rintro (a:NM×List UInt8) hpre
 refine ai (ai rfl (ai rfl rfl)) ?_
 refine ei [0,1] (ai (ai rfl (ai rfl rfl)) (ai ?_ ?_))
 ·exact rfl
 ·exact (ai (ai rfl (ai (ai rfl rfl) (ai rfl (ai rfl (fun _ _=>rfl))))) (ai rfl (ai rfl (ai rfl (fun _ _=>rfl)))))
theorem ac6:jK Tryz.prog 81 (wbG 143 noR):=by
 refine o8 (Tb:=tab) mixed aA Tryz.func81 rfl rfl ?_
 rintro ⟨st,a⟩ hpre
 refine ai (ai rfl (ai rfl rfl)) ?_
 have hl:a.2.1.length≤1000000:=hpre
 cases st with
 | true=>
  refine sK afv rfl rfl rfl (.inl rfl) ?_
  refine ai (mxL (n:=a.2.1.length+1) (by omega) (by decide)) ?_
  refine ai (lt1 rfl) ?_
  refine ei [0,3] (ai (ai rfl (ai rfl rfl)) (ai ?_ ?_))
  ·exact rfl
  ·refine (ai (ai rfl (ai (ai rfl rfl) rfl)) (ai rfl (ai rfl (ai ?_ ?_))))
   ·show a.2.1.length+1=(a.2.1++[a.2.2]).length
    simp
   ·exact mX rfl (fun _ _=>rfl) one_byte
 | false=>
  refine sK afv rfl rfl rfl (.inr ⟨_,rfl⟩) ?_
  refine ai (mxL (n:=a.2.1.length+1) (by omega) (by decide)) ?_
  refine ai (lt1 rfl) ?_
  refine ei [0,3] (ai (ai rfl (ai rfl rfl)) (ai ?_ ?_))
  ·exact rfl
  ·refine (ai (ai rfl (ai (ai rfl rfl) rfl)) (ai rfl (ai rfl (ai ?_ ?_))))
   ·show a.2.1.length+1=(a.2.1++[a.2.2]).length
    simp
   ·exact mX rfl (fun _ _=>rfl) one_byte
def jd (sep:List UInt8):List (List UInt8)→List UInt8
 | []=>[]
 | [x]=>x
 | x :: y :: l=>x++(sep++jd sep (y :: l))
theorem ac2 (sep x:List UInt8):∀l:List (List UInt8),jd sep (l++[x])=if l=[] then x else jd sep l++(sep++x)
 | []=>rfl
 | [y]=>by rw[if_neg (by simp)];rfl
 | y :: z :: l=>by
  rw[if_neg (by simp)]
  show y++(sep++jd sep (z :: l++[x]))=y++(sep++jd sep (z :: l))++(sep++x)
  rw[ac2 sep x (z :: l),if_neg (by simp)]
  simp
def aag (o:Int):List UInt8:=if o=4 then [32,124,32] else [32,38,32]
def adD (b:Bool) (t:List UInt8):List UInt8:=if b then 40 :: (t++[41]) else t
def brA (o x:Int):Bool:=decide (x=4)||(decide (x=3)&&decide (o≠4))
mutual
def dN (nm:NM):Ex→List UInt8
 | .node o i l=>if o=0 then [if i=0 then 48 else 49] else if o=1 then nm.getD i.toNat [] else if o=2 then 33 :: (arE nm o l).headD [] else jd (aag o) (arE nm o l)
def arE (nm:NM) (o:Int):List Ex→List (List UInt8)
 | []=>[]
 | x :: l=>adD (brA o x.op) (dN nm x) :: arE nm o l
end
def lH (nm:NM) (o:Int) (x:Ex):List UInt8:=adD (brA o x.op) (dN nm x)
theorem aje (nm:NM) (o:Int):∀l:List Ex,arE nm o l=l.map (lH nm o)
 | []=>by rw[arE];rfl
 | x :: l=>by rw[arE,aje nm o l];rfl
theorem pO (nm:NM) (x:Ex):dN nm x=if x.op=0 then [if x.idx=0 then 48 else 49] else if x.op=1 then nm.getD x.idx.toNat [] else if x.op=2 then 33 :: (x.args.map (lH nm x.op)).headD [] else jd (aag x.op) (x.args.map (lH nm x.op)):=by
 obtain ⟨o,i,l⟩:=x;rw[dN,aje]
def wrB (o out:Int):Bool:=(decide (o=3)||decide (o=4))&&(decide (0≤out)&&(decide (o=4)||decide (out≠4)))
def oP (nm:NM) (x:Ex) (out:Int):List UInt8:=adD (wrB x.op out) (dN nm x)
theorem ah7 (nm:NM) (x:Ex) {o:Int} (h:0≤o):oP nm x o=lH nm o x:=by
 unfold oP lH
 have:wrB x.op o=brA o x.op:=by
  unfold wrB brA
  rw[decide_eq_true h,arL]
  by_cases h3:x.op=3
  ·rw[h3];simp
  ·by_cases h4:x.op=4
   ·rw[h4];simp
   ·rw[decide_eq_false h3,decide_eq_false h4];rfl
 rw[this]
theorem wB (b:Bool) (t:List UInt8):(adD b t).length≤t.length+2:=by unfold adD;split<;>simp
def abB (nm:NM):Prop:=∀k,(nm.getD k []).length≤100
theorem aam (sep:List UInt8):∀l:List (List UInt8),(jd sep l).length≤(l.map fun t=>t.length+sep.length).sum
 | []=>by simp[jd]
 | [x]=>by simp[jd]
 | x :: y :: l=>by
  have:=aam sep (y :: l)
  simp only[jd,aas,ak3,atB] at this ⊢
  omega
theorem agG (o:Int):(aag o).length=3:=by unfold aag;split<;>rfl
theorem ab1 {nm:NM} {o:Int}:∀(l:List Ex),(∀x∈l,(dN nm x).length+5≤110*x.size)→((l.map (lH nm o)).map fun t=>t.length+3).sum≤110*sizes l
 | [],_=>by simp
 | x :: l,h=>by
  have h1:=h x (by simp)
  have h2:=ab1 (nm:=nm) (o:=o) l fun y hy=>h y (by simp[hy])
  have h3:=wB (brA o x.op) (dN nm x)
  rw[sizes]
  simp only[ak3,atB] at h2 ⊢
  unfold lH at h2 ⊢
  omega
theorem abW {nm:NM} (hnm:abB nm):∀(n:Nat) (x:Ex),x.size≤n→(dN nm x).length+5≤110*x.size
 | 0,x,h=>by have:=size_pos x;omega
 | n+1,x,h=>by
  have hsz:=x.size_eq
  have ih:∀y∈x.args,(dN nm y).length+5≤110*y.size:=fun y hy=>abW hnm n y (by have:=qc hy;omega)
  have h4:=ab1 (nm:=nm) (o:=x.op) x.args ih
  rw[pO]
  split
  ·simp;omega
  ·split
   ·have:=hnm x.idx.toNat;omega
   ·split
    ·cases hc:x.args with
     | nil=>simp;omega
     | cons y l=>
      rw[hc,sizes] at hsz
      have h1:=ih y (by rw[hc];simp)
      have h3:=wB (brA x.op y.op) (dN nm y)
      simp only[ak3,List.headD_cons,ait]
      unfold lH
      omega
    ·have h5:=aam (aag x.op) (x.args.map (lH nm x.op))
     rw[agG] at h5
     omega
def jq (nm:NM) (base sep:List UInt8) (o:Int) (l:List Ex) (k:Nat):List UInt8:=base++jd sep ((l.take k).map (lH nm o))
theorem uY (nm:NM) (base sep:List UInt8) (o:Int) (l:List Ex):jq nm base sep o l 0=base:=by unfold jq;simp[jd]
theorem amJ {nm:NM} {base sep:List UInt8} {o:Int} {l:List Ex} (h:0<l.length):jq nm base sep o l 1=base++lH nm o (l.getD 0 gU):=by
 unfold jq;rw[aU gU h];rfl
theorem akG {nm:NM} {base sep:List UInt8} {o:Int} {l:List Ex} {k:Nat} (h:k+1<l.length):jq nm base sep o l (k+1+1)=jq nm base sep o l (k+1)++sep++lH nm o (l.getD (k+1) gU):=by
 unfold jq
 have hne:(l.take (k+1)).map (lH nm o)≠[]:=by
  cases l with
  | nil=>simp at h
  | cons y l=>simp
 rw[aU gU h,arI,List.map_singleton,ac2,if_neg hne]
 simp
theorem anG (nm:NM) (base sep:List UInt8) (o:Int) (l:List Ex):jq nm base sep o l l.length=base++jd sep (l.map (lH nm o)):=by unfold jq;rw[aga]
theorem ada (sep:List UInt8):∀l:List (List UInt8),l≠[]→(jd sep l).length+sep.length≤(l.map fun t=>t.length+sep.length).sum
 | [],h=>absurd rfl h
 | [x],_=>by simp[jd]
 | x :: y :: l,_=>by
  have:=ada sep (y :: l) (by simp)
  simp only[jd,aas,ak3,atB] at this ⊢
  omega
theorem am8 {nm:NM} (hnm:abB nm) {base sep:List UInt8} (hsep:sep.length=3) {o:Int} {l:List Ex} {k:Nat} (hk:k≤l.length):(jq nm base sep o l k).length+(if k=0 then 0 else 3)≤base.length+110*sizes (l.take k):=by
 have h4:=ab1 (nm:=nm) (o:=o) (l.take k) fun x _=>abW hnm x.size x (afM _)
 unfold jq
 rw[aas]
 cases k with
 | zero=>simp[jd,sizes]
 | succ k=>
  have hne:(l.take (k+1)).map (lH nm o)≠[]:=by
   cases l with
   | nil=>simp at hk
   | cons y l=>simp
  have h5:=ada sep _ hne
  rw[hsep] at h5
  rw[if_neg (by omega)]
  omega
structure WrA where
 st:Bool
 nm:NM
 bs:List UInt8
 x:Ex
 out:Int
def ajM (a:WrA):Prop:=l8 a.nm.length a.x∧a.x.size≤256∧abB a.nm∧a.nm.length≤256∧a.bs.length+110*a.x.size≤500000
def wrG (n:Nat):qD:={ A:=WrA,fix:=1,args:=fun a=>[.own 0 0,exA a.x,iA a.out],objs:=fun a=>[bld 202 (nmR a.nm) a.st,og a.bs],pre:=fun a=>ajM a∧a.x.size≤n,res:=fun _=>.tup [],objs':=fun a=>[bld 202 (nmR a.nm),og (a.bs++oP a.nm a.x a.out)],inl:=[141,81,78] }
def arZ (st:Bool):Nat→SV
 | 0=>adr st
 | _+1=>.own 0 0
theorem akm (c:UInt8) (h:uz c=true):gN c=true:=by
 unfold uz kX p9 am6 at h
 unfold gN fT
 simp only[ap3,afT,decide_eq_true_eq] at h ⊢
 omega
theorem ah3 (c:UInt8) (h:p9 c=true):fT c=true:=by
 unfold p9 at h
 unfold fT
 simp only[ap3,afT,decide_eq_true_eq] at h ⊢
 omega
theorem ajD {s:List UInt8} (h:iY s=0):s.length≤24∧resE s=false∧jA s=true:=by
 unfold iY at h
 split at h
 ·cases h
 rename_i h1
 split at h
 ·cases h
 rename_i h2
 split at h
 ·rename_i h3
  simp only[ap3,not_or,aof,atn,Bool.not_eq_false'] at h2
  obtain ⟨⟨h4,h5⟩,h6⟩:=h2
  refine ⟨by omega,h6,?_⟩
  unfold jA
  rw[alM.2 fun c hc=>akm c (alM.1 h3 c hc),h4,ah3 _ (by simpa using h5)];rfl
 ·cases h
def aaP (b:Bool) (s:List UInt8):Bool:=decide (s.length≤24)&&(jA s&&(resE s==b))
theorem aeQ {b:Bool} {s:List UInt8} (h:aaP b s=true):s.length≤24∧jA s=true∧resE s=b:=by
 unfold aaP at h
 simp only[afT,decide_eq_true_eq,beq_iff_eq] at h
 exact ⟨h.1,h.2.1,h.2.2⟩
theorem ane {n:Nat} (h:n≤6):(jm n).all (aaP true)=true∧(jm n).Nodup∧(jm n).all (fun s=>s.getD 0 0 != 121)=true:=by
 have:∀n:Fin 7,(jm n.1).all (aaP true)=true∧(jm n.1).Nodup∧(jm n.1).all (fun s=>s.getD 0 0 != 121)=true:=by decide +kernel
 exact this ⟨n,by omega⟩
theorem amS {n:Nat} (h:n≤24):(nu n).all (aaP true)=true∧(nu n).Nodup∧(nu n).all (fun s=>s.getD 0 0==121)=true:=by
 have:∀n:Fin 25,(nu n.1).all (aaP true)=true∧(nu n.1).Nodup∧(nu n.1).all (fun s=>s.getD 0 0==121)=true:=by decide +kernel
 exact this ⟨n,by omega⟩
theorem ajc {α:Type} [BEq α] [LawfulBEq α] {x:α} {l:List α}:l.any (fun y=>x==y)=false↔x∉l:=by
 rw[aqt]
 constructor
 ·intro h hx;exact h x hx (by simp)
 ·intro h y hy e;exact h (by rw[beq_iff_eq.1 e];exact hy)
theorem aj1 {α:Type} {l:List α} {k:Nat} {d:α} (hn:l.Nodup) (hk:k<l.length):l.getD k d∉l.take k:=by
 have h1:(l.take (k+1)).Nodup:=hn.sublist (List.take_sublist _ _)
 rw[aU d hk,atf] at h1
 intro hx
 exact h1.2.2 _ hx _ (agb.2 rfl) rfl
theorem aff {α:Type} {d:α}:∀{l:List α},(∀k,k<l.length→l.getD k d∉l.take k)→l.Nodup:=by
 intro l h
 rw[List.Nodup,asE]
 intro i j hi hj hij e
 refine h j hj ?_
 have e2:l.getD j d=l[j]:=by rw[aa7,abb hj];rfl
 rw[e2,←e]
 exact List.mem_iff_getElem.2 ⟨i,by rw[aik];omega,by simp⟩
theorem ah0 {l:List (List UInt8)} (h:gu l=0):(∀s∈l,s.length≤24∧resE s=false∧jA s=true)∧l.Nodup:=by
 unfold gu at h
 split at h
 ·cases h
 have h1:=kQ h
 have key:∀k,k<l.length→iY (l.getD k [])=0∧l.getD k []∉l.take k:=fun k hk=>by
  have h2:=h1 k hk
  unfold inE at h2
  split at h2
  ·rename_i h3;exact absurd h2 h3
  rename_i h3
  split at h2
  ·cases h2
  rename_i h4
  exact ⟨an3.1 h3,ajc.1 (arH.2 h4)⟩
 refine ⟨fun s hs=>?_,aff (d:=[]) fun k hk=>(key k hk).2⟩
 obtain ⟨k,hk,rfl⟩:=an4 hs
 have:=(key k hk).1
 rw[aa7,abb hk] at this
 exact ajD this
theorem qK {c:aW} (h:bO c=0):(∀s∈dD c,s.length≤24∧jA s=true)∧(dD c).Nodup∧((dD c).length:Int)=qy c∧(dD c).length≤52:=by
 obtain ⟨h1,h2,h3,_⟩:=iO h
 have hi:=ah0 h2
 have hil:=wI h2
 obtain ⟨a1,a2,a3⟩:=ane (n:=c.act.toNat) (by omega)
 obtain ⟨b1,b2,b3⟩:=amS (n:=c.sts.length) (by omega)
 have A:∀s∈jm c.act.toNat,s.length≤24∧jA s=true∧resE s=true:=fun s hs=>aeQ (alM.1 a1 s hs)
 have B:∀s∈nu c.sts.length,s.length≤24∧jA s=true∧resE s=true:=fun s hs=>aeQ (alM.1 b1 s hs)
 refine ⟨fun s hs=>?_,?_,?_,?_⟩
 ·unfold dD at hs
  simp only[ahi] at hs
  rcases hs with (hs | hs) | hs
  ·exact ⟨(A s hs).1,(A s hs).2.1⟩
  ·exact ⟨(hi.1 s hs).1,(hi.1 s hs).2.2⟩
  ·exact ⟨(B s hs).1,(B s hs).2.1⟩
 ·unfold dD
  rw[atf,atf]
  refine ⟨⟨a2,hi.2,fun x hx y hy e=>?_⟩,b2,fun x hx y hy e=>?_⟩
  ·subst e;have:=(A x hx).2.2;rw[(hi.1 x hy).2.1] at this;cases this
  ·subst e
   rcases ahi.1 hx with hx | hx
   ·have p:=alM.1 a3 x hx
    have q:=alM.1 b3 x hy
    rw[beq_iff_eq] at q
    rw[q] at p;cases p
   ·have:=(B x hy).2.2;rw[(hi.1 x hx).2.1] at this;cases this
 ·unfold dD qy
  rw[aas,aas,aaN,aaJ];omega
 ·unfold dD
  rw[aas,aas,aaN,aaJ];omega
theorem aj3 {c:aW} (h:bO c=0):kE (dD c)=0:=by
 obtain ⟨h1,h2,_,h3⟩:=qK h
 unfold kE
 rw[if_neg (by omega)]
 refine fq fun k hk=>?_
 have hm:(dD c).getD k []∈dD c:=acH (bH [] hk)
 have:=h1 _ hm
 unfold oM
 rw[if_neg (by rw[this.2];decide),if_neg (by omega),if_neg]
 rw[ajc.2 (aj1 h2 hk)];decide
theorem acv {nm:NM} {o:Int}:∀(l:List Ex),(∀x∈l,(dN nm x).length+5≤34*x.size)→((l.map (lH nm o)).map fun t=>t.length+3).sum≤34*sizes l
 | [],_=>by simp
 | x :: l,h=>by
  have h1:=h x (by simp)
  have h2:=acv (nm:=nm) (o:=o) l fun y hy=>h y (by simp[hy])
  have h3:=wB (brA o x.op) (dN nm x)
  rw[sizes]
  simp only[ak3,atB] at h2 ⊢
  unfold lH at h2 ⊢
  omega
theorem acu {nm:NM} (hnm:∀k,(nm.getD k []).length≤24):∀(n:Nat) (x:Ex),x.size≤n→(dN nm x).length+5≤34*x.size
 | 0,x,h=>by have:=size_pos x;omega
 | n+1,x,h=>by
  have hsz:=x.size_eq
  have ih:∀y∈x.args,(dN nm y).length+5≤34*y.size:=fun y hy=>acu hnm n y (by have:=qc hy;omega)
  have h4:=acv (nm:=nm) (o:=x.op) x.args ih
  rw[pO]
  split
  ·simp;omega
  ·split
   ·have:=hnm x.idx.toNat;omega
   ·split
    ·cases hc:x.args with
     | nil=>simp;omega
     | cons y l=>
      rw[hc,sizes] at hsz
      have h1:=ih y (by rw[hc];simp)
      have h3:=wB (brA x.op y.op) (dN nm y)
      simp only[ak3,List.headD_cons,ait]
      unfold lH
      omega
    ·have h5:=aam (aag x.op) (x.args.map (lH nm x.op))
     rw[agG] at h5
     omega
theorem afG {c:aW} (h:bO c=0) (k:Nat):((dD c).getD k []).length≤24:=by
 rcases aqQ k (dD c).length with hk | hk
 ·exact ((qK h).1 _ (acH (bH [] hk))).1
 ·rw[aa7,aqY hk];simp
theorem qj {a b:ByteArray} {l m:List UInt8} (ha:a=strOf l) (hb:b=strOf m) (h:l.length+m.length≤9223372036854775807):(((a.size+b.size:Nat)):Int)≤9223372036854775807:=by
 subst ha hb;rw[eF,eF];omega
def stepW:List UInt8:=[115,116,101,112,32]
def iH (l:List Sk):List UInt8:=l.flatMap fun y=>32 :: nN y
def tH (w:Int):List UInt8:=if 0<w then 32 :: dec w.toNat else []
def gB (k:Nat):List UInt8:=(stepW++dec k)++[58]
def lnK (k:Nat) (x:Stp):List UInt8:=((gB k++iH x.st)++tH x.wt)++[10]
def bK (l:List Stp):Nat→List UInt8
 | 0=>[]
 | k+1=>bK l k++lnK k (l.getD k st0)
def lnT (nm:NM) (t:kM):List UInt8:=(((((inT t.fr++[32,62,32])++inT t.to)++[58,32])++dN nm t.wh)++[10])
def nA (nm:NM) (l:List kM):Nat→List UInt8
 | 0=>[]
 | k+1=>nA nm l k++lnT nm (l.getD k bB)
def ajx (c:aW):List UInt8:=bK c.sts c.sts.length++nA (dD c) c.trs c.trs.length
def uX (c:aW):PV:=.tup [sP (if bO c=0 then ajx c else []),iP (bO c)]
theorem agE:∀(j n:Nat),n<10 ^ j→(adz n).length≤j
 | 0,n,h=>by
  have:n=0:=by rw[Nat.pow_zero] at h;omega
  subst this;simp[adz]
 | j+1,n,h=>by
  rw[alX]
  split
  ·simp
  ·have:=agE j (n / 10) (by rw[Nat.div_lt_iff_lt_mul (by decide)];rw[Nat.pow_succ] at h;exact h)
   rw[aas,List.length_singleton];omega
theorem abC {n:Nat} (h:n≤1000000):(dec n).length≤7:=by
 by_cases h0:n=0
 ·subst h0;have:=vX (n:=0) (by decide);omega
 ·have:=agE 7 n (by show n<10 ^ 7;omega)
  unfold adz at this
  rw[if_neg h0] at this;exact this
theorem ad3 (l:List Sk):(iH l).length=3*l.length:=by
 induction l with
 | nil=>rfl
 | cons x l ih=>
  show ((32 :: nN x)++iH l).length=_
  rw[aas,ih]
  simp[nN];omega
theorem aow {w:Int} (h:w≤1000000):(tH w).length≤8:=by
 unfold tH
 split
 ·have:=abC (n:=w.toNat) (by omega)
  rw[ait];omega
 ·simp
theorem alK {n:Int} {l:List Int} (h0:∀x∈l,0≤x∧x<n) (h1:∀k,0<k→k<l.length→l.getD (k-1) 0<l.getD k 0):(l.length:Int)≤max n 0:=by
 have key:∀k,k<l.length→(k:Int)≤l.getD k 0:=by
  intro k
  induction k with
  | zero=>intro hk;exact (h0 _ (acH (bH 0 hk))).1
  | succ k ih=>
   intro hk
   have:=h1 (k+1) (by omega) hk
   have:=ih (by omega)
   simp only[Nat.add_sub_cancel] at *
   omega
 rcases apT l.length with h | h
 ·omega
 ·have h2:=key (l.length-1) (by omega)
  have h3:=(h0 _ (acH (bH 0 (show l.length-1<l.length by omega)))).2
  omega
theorem ahp {n:Nat} {l:List Int} (h:kI n l=0) (hn:n≤24):l.length≤24:=by
 have h0:=(aaE h hn).2.1
 unfold kI at h
 split at h
 ·cases h
 have h1:=kQ h
 have:=alK (n:=(n:Int)) (l:=l) h0 fun k hk hl=>by
  have h2:=h1 k hl
  unfold uM at h2
  split at h2
  ·cases h2
  split at h2
  ·cases h2
  ·rename_i h3;omega
 omega
theorem aoi {act:Int} {x:Stp} (ha:1≤act∧act≤6) (h:iQ act x=0):x.st.length≤6∧vK 6 x.st∧0≤x.wt∧x.wt≤1000000:=by
 unfold iQ at h
 split at h
 ·rename_i h1;exact absurd h h1
 rename_i h1
 split at h
 ·cases h
 rename_i h2
 have h3:=kQ (an3.1 h1)
 have hk:∀k,k<x.st.length→(0≤(x.st.getD k aR).1∧(x.st.getD k aR).1<act)∧(0<k→(x.st.getD (k-1) aR).1<(x.st.getD k aR).1):=fun k hk=>by
  have h4:=h3 k hk
  unfold nJ at h4
  split at h4
  ·cases h4
  split at h4
  ·cases h4
  ·rename_i h5 h6;exact ⟨by omega,fun h7=>by omega⟩
 have hs:vK 6 x.st:=fun y hy=>by
  obtain ⟨k,hk1,rfl⟩:=an4 hy
  have:=(hk k hk1).1
  rw[aa7,abb hk1] at this
  have this:0≤x.st[k].1∧x.st[k].1<act:=this
  omega
 refine ⟨?_,hs,by omega,by omega⟩
 have gm:∀k,k<x.st.length→(x.st.map (·.1)).getD k 0=(x.st.getD k aR).1:=fun k hk1=>by
  rw[aa7,aa7,ais,abb hk1];rfl
 have:=alK (n:=6) (l:=x.st.map (·.1)) (fun y hy=>by
  obtain ⟨z,hz,rfl⟩:=aq4.1 hy
  exact hs z hz) fun k hk0 hkl=>by
   rw[ajh] at hkl
   rw[gm k hkl,gm (k-1) (by omega)]
   exact (hk k hkl).2 hk0
 rw[ajh] at this
 omega
theorem agT {c:aW} (h:bO c=0) {k:Nat} (hk:k<c.sts.length):(c.sts.getD k st0).st.length≤6∧vK 6 (c.sts.getD k st0).st∧0≤(c.sts.getD k st0).wt∧(c.sts.getD k st0).wt≤1000000:=by
 obtain ⟨h1,_,_,_,h5,_⟩:=iO h
 exact aoi h1 (h5 k hk)
theorem adL {k:Nat} (h:k<100):(gB k).length≤8:=by
 have:=vX h
 unfold gB stepW
 simp only[aas,ait,al7];omega
theorem aoY {k:Nat} {x:Stp} (h:k<100) (h1:x.st.length≤6) (h2:x.wt≤1000000):(lnK k x).length≤35:=by
 have h3:=adL h
 have h4:=ad3 x.st
 have h5:=aow h2
 unfold lnK
 simp only[aas,ait,al7];omega
theorem afU {c:aW} (h:bO c=0):∀{k:Nat},k≤c.sts.length→(bK c.sts k).length≤35*k
 | 0,_=>by simp[bK]
 | k+1,hk=>by
  have h1:=agT h (k:=k) (by omega)
  have h2:=(iO h).2.2.1
  have h3:=aoY (k:=k) (by omega) h1.1 h1.2.2.2
  have h4:=afU h (k:=k) (by omega)
  rw[bK,aas];omega
theorem ah4 {c:aW} (h:bO c=0) {k:Nat} (hk:k<c.trs.length):((c.trs.getD k bB).fr.length≤24∧(c.trs.getD k bB).to.length≤24)∧(c.trs.getD k bB).to≠[]∧(c.trs.getD k bB).wh.size≤256∧l8 (dD c).length (c.trs.getD k bB).wh:=by
 obtain ⟨_,_,h3,_,_,h6⟩:=iO h
 have h7:=h6 k hk
 have hw:=(oW h hk).2.2
 unfold lN at h7
 split at h7
 ·rename_i h8;exact absurd h7 h8
 rename_i h8
 split at h7
 ·rename_i h9;exact absurd h7 h9
 rename_i h9
 have h9:=an3.1 h9
 have hn:=(qK h).2.2.1
 obtain ⟨_,h10,h11⟩:=abr.1 hw
 refine ⟨⟨ahp (an3.1 h8) h3.2,ahp h9 h3.2⟩,?_,h10.1,by rw[hn];exact h11⟩
 have:=(aaE h9 h3.2).2.2
 intro e
 rw[e] at this;simp at this
theorem an9 {c:aW} (h:bO c=0):abB (dD c):=fun k=>aiK (afG h k) (by decide)
theorem xL {n:Nat} {l:List Int} (h:jk n l) (hn:n≤24):jk 100 l:=fun x hx=>by have:=h x hx;omega
theorem aiD {c:aW} (h:bO c=0) {k:Nat} (hk:k<c.trs.length):((inT (c.trs.getD k bB).fr).length≤72∧(inT (c.trs.getD k bB).to).length≤72)∧(dN (dD c) (c.trs.getD k bB).wh).length≤28160∧(lnT (dD c) (c.trs.getD k bB)).length≤28310:=by
 obtain ⟨h1,h2,h3,h4⟩:=ah4 h hk
 have h5:=oW h hk
 have h6:=adC (xL h5.1.1 (by decide))
 have h7:=adC (xL h5.2.1.1 (by decide))
 have h8:=abW (an9 h) _ _ (afM (c.trs.getD k bB).wh.size)
 refine ⟨⟨by omega,by omega⟩,by omega,?_⟩
 unfold lnT
 simp only[aas,ait,al7];omega
theorem agX {c:aW} (h:bO c=0):∀{k:Nat},k≤c.trs.length→(nA (dD c) c.trs k).length≤28310*k
 | 0,_=>by simp[nA]
 | k+1,hk=>by
  have h1:=aiD h (k:=k) (by omega)
  have h2:=agX h (k:=k) (by omega)
  rw[nA,aas];omega
def aq8:SV:=.p false (.val (.pointer none))
def ar5:Nat→SV
 | 0=>aq8
 | _+1=>.own 1 0
def adK (l:List UInt8) (k:Nat):List PV:=[cP (l.getD k 0)]
theorem lV {l m:List UInt8} (h:l=m) {n:Nat}:∀j,j<n→adK l j=adK m j:=fun j _=>by rw[h]
def qg:SV:=.p false (.val (.pointer none))
def aat:SV:=.p false (.val (.slice none 0 0))
theorem afF {P:Program} {f T:Nat} {A:Type} {args:A→List SV} {rest:A→List SV} {pre:A→Prop} {res:A→SV} {objs':A→List Ob}
  (h:jK P f { A:=A,fix:=1,args:=args,objs:=fun a=>[.cells T (qg :: .row 1 :: rest a),og []],pre:=pre,res:=res,objs':=objs' }) :
  jK P f { A:=A,fix:=1,args:=args,objs:=fun a=>[.cells T (qg :: aat :: rest a)],pre:=pre,res:=res,objs':=objs' }:=by
 refine ⟨h.1,fun a hp base E vs w hg H hA=>?_⟩
 have H:bn (zn w E [.cells T (qg :: aat :: rest a)] base 1) E (gV [.cells T (qg :: aat :: rest a)]) w:=H
 have hA:jP E vs (args a):=hA
 have hn1:∀i,1≤i→E.hd i=none:=fun i hi=>H.new i hi
 obtain ⟨E2,hE2⟩:∃E2:Env,E2={ E with hd:=fun i=>if i=1 then some (.slice none 0 0) else E.hd i }:=⟨_,rfl⟩
 have hd1:E2.hd 1=some (.slice none 0 0):=by rw[hE2];rfl
 have hdn:∀i,i≠1→E2.hd i=E.hd i:=fun i hi=>by rw[hE2];exact if_neg hi
 have hm:E2.mem=E.mem:=by rw[hE2]
 have ht:E2.tm=E.tm:=by rw[hE2]
 have hws:E2.ws=E.ws:=by rw[hE2]
 have hI:E2.I=E.I:=by rw[hE2]
 have hk:E2.k=E.k:=by rw[hE2]
 have hle:E.Le E2:=⟨fun i v hv=>by
  by_cases hi:i=1
  ·subst hi;rw[hn1 1 (afM _)] at hv;cases hv
  ·rw[hdn i hi];exact hv,fun b cs hb=>by rw[hm];exact hb,ht⟩
 have hbl:∀i,i≠1→E2.blk i=E.blk i:=fun i hi=>by unfold Env.blk;rw[hdn i hi]
 have hb1:E2.blk 1=none:=by unfold Env.blk;rw[hd1];rfl
 have hbor:kD E2.hd [.cells T (qg :: .row 1 :: rest a),og []] 0=kD E.hd [.cells T (qg :: aat :: rest a)] 0:=by
  funext b
  refine propext ⟨fun ⟨k,o,_,hk,hb⟩=>?_,fun ⟨k,o,_,hk,hb⟩=>?_⟩
  ·match k with
   | 0=>exact ⟨0,_,afM _,rfl,by rw[←hdn 0 (by decide)];exact hb⟩
   | 1=>rw[hd1] at hb;cases hb
   | k+2=>simp at hk
  ·match k with
   | 0=>exact ⟨0,_,afM _,rfl,by rw[hdn 0 (by decide)];exact hb⟩
   | k+1=>simp at hk
 have hobj:∀i o,(gV [.cells T (qg :: .row 1 :: rest a),og []]).obj i=some o→i=0∧o=.cells T (qg :: .row 1 :: rest a)∨i=1∧o=og []:=fun i o ho=>by
  rw[dF] at ho
  match i with
  | 0=>cases ho;exact .inl ⟨rfl,rfl⟩
  | 1=>cases ho;exact .inr ⟨rfl,rfl⟩
  | i+2=>simp at ho
 have ob0:(gV [.cells T (qg :: aat :: rest a)]).obj 0=some (.cells T (qg :: aat :: rest a)):=by rw[dF];rfl
 have HR:bn (zn w E2 [.cells T (qg :: .row 1 :: rest a),og []] base 1) E2 (gV [.cells T (qg :: .row 1 :: rest a),og []]) w:=by
  refine ⟨fun i o ho=>?_,fun i j o o' b ho ho' hb hb'=>?_,fun i o b ho hb=>?_,fun b cs hb=>H.mem b cs (by rw[←hm];exact hb),fun b cs hb=>hb,fun b cs hb=>.inl hb,fun i hi=>?_,?_,?_,fun k _=>rfl,by show 1≤2;decide,ae4 _,by rw[hk];exact H.kk⟩
  ·rcases hobj i o ho with ⟨rfl,rfl⟩ | ⟨rfl,rfl⟩
   ·cases (H.ob 0 _ ob0).mono hle with
    | cells b T vs cs hh hw hl h1 he=>
     refine .cells b T vs _ hh hw hl h1 fun k u s hu hs=>?_
     match k with
     | 0=>exact he 0 u s hu hs
     | 1=>
      cases hs
      have:=he 1 u aat hu rfl
      cases this with
      | p _ _ _ hp=>cases hp;exact .row 1 _ hd1 rfl
     | k+2=>exact he (k+2) u s hu hs
   ·exact .row 5 1 0 _ _ [] (fun _ _=>undef) hd1 ⟨rfl,.inl ⟨rfl,rfl⟩⟩ (ae4 _) (fun j hj=>absurd hj (ai8 _)) (fun j _ _ hj=>absurd hj (ai8 _)) (fun j _ _ hj=>absurd hj (ai8 _))
  ·rcases hobj i o ho with ⟨rfl,rfl⟩ | ⟨rfl,rfl⟩
   ·rcases hobj j o' ho' with ⟨rfl,rfl⟩ | ⟨rfl,rfl⟩
    ·rfl
    ·rw[hb1] at hb';cases hb'
   ·rw[hb1] at hb;cases hb
  ·rcases hobj i o ho with ⟨rfl,rfl⟩ | ⟨rfl,rfl⟩
   ·have:=H.own 0 _ b ob0 (by rw[←hbl 0 (by decide)];exact hb)
    unfold Env.mine at this ⊢
    rw[hm,hws,hI];exact this
   ·rw[hb1] at hb;cases hb
  ·have hi:2≤i:=hi
   rw[hdn i (by omega)];exact hn1 i (by omega)
  ·rw[ht];exact H.base
  ·obtain ⟨f1,f2,f3,f4,f5,f6,f7,f8,f9⟩:=H.fr
   refine ⟨f1,f2,f3,by rw[hws];exact f4,by rw[hws];exact f5,by rw[hws];exact f6,by rw[hws,hI];exact f7,by rw[hws,hI];exact f8,?_⟩
   obtain ⟨g1,g2,g3⟩:=f9
   exact ⟨by rw[hk];exact g1,by rw[hI];exact g2.trans hbor.symm,by rw[hws];exact g3⟩
 refine (h.2 a hp base E2 vs w (fun p hp=>by rw[hm];exact hg p hp) HR ⟨hA.1,fun k u s hu hs=>(hA.2 k u s hu hs).mono hle⟩).mono fun e w' ⟨v,E',he,hv,R⟩=>⟨v,E',he,hv,?_⟩
 obtain ⟨r1,r2,r3,r4,r5,r6,r7,r8,⟨f1,f2,f3,f4,f5,f6,f7,f8,g1,g2,g3⟩,r10,r11,r12,r13⟩:=R
 refine ⟨r1,r2,r3,r4,fun b cs hb=>r5 b cs (by show E2.mem b=some cs;rw[hm];exact hb),fun b cs hb=>(r6 b cs hb).imp (fun hb=>by show E.mem b=some cs;rw[←hm];exact hb) id,r7,r8,⟨f1,f2,f3,f4,f5,f6,f7,f8,g1,g2.trans hbor,g3⟩,fun k hk=>(r10 k hk).trans (hdn k (by have hk:k<1:=hk;omega)),r11,r12,r13⟩
theorem ami {sep:List UInt8} {l:List (List UInt8)} (hs:sep≠[]) (h:2≤l.length):jd sep l≠[]:=by
 match l with
 | x :: y :: l=>
  intro e
  have:(jd sep (x :: y :: l)).length=0:=by rw[e];rfl
  simp only[jd,aas] at this
  have:sep.length=0:=by omega
  exact hs (an6.1 this)
theorem amY {nm:NM} {x:Ex} (hg:l8 nm.length x) (hn:∀s∈nm,s≠[]):dN nm x≠[]:=by
 obtain ⟨hn0,_⟩:=(wP _ _).1 hg
 obtain ⟨ho,hle,hi⟩:=rZ hn0
 rw[pO]
 split
 ·simp
 rename_i h0
 split
 ·rename_i h1
  have ht:pX x.op nm.length=nm.length-1:=by unfold pX;rw[if_neg h0,if_pos h1]
  rw[ht] at hi
  exact hn _ (acH (bH [] (show x.idx.toNat<nm.length by omega)))
 rename_i h1
 split
 ·simp
 ·rename_i h2
  have:nE x.op=2:=by unfold nE;rw[if_neg h2,if_pos (by omega)]
  exact ami (by unfold aag;split<;>simp) (by rw[ajh];omega)
theorem ao4 {nm:NM} {x:Ex} {out:Int} (h:out<0):oP nm x out=dN nm x:=by
 unfold oP wrB
 rw[decide_eq_false (show ¬0≤out by omega),aqd,ata];rfl
def wrC (Q:WrA→Prop):qD:={ wrG 0 with pre:=fun a=>ajM a∧Q a }
theorem arR:jK Tryz.prog 141 (wrC fun a=>a.st=true∧a.x.op=1):=by
 refine o8 (Tb:=tab) mixed aA Tryz.func141 rfl rfl ?_
 rintro ⟨st,nm,bs,x,out⟩ hpre
 refine ai (ai rfl (ai rfl rfl)) ?_
 obtain ⟨⟨hg,hs,hnm,hnl,hlen⟩,hst,hQ⟩:=hpre
 obtain rfl:st=true:=hst
 have hg:l8 nm.length x:=hg
 have hnm:abB nm:=hnm
 have hlen:bs.length+110*x.size≤500000:=hlen
 obtain ⟨hn0,hga⟩:=(wP _ _).1 hg
 obtain ⟨ho,hle,hi⟩:=rZ hn0
 have hA:=pO nm x
 have hQ:x.op=1:=hQ
 refine ah (p:=x.op=0) (iI (by omega)) (fun h0=>?_) (fun h0=>?_)
 ·exact absurd h0 (by omega)
 rw[if_neg h0] at hA
 refine ah (p:=x.op=1) (iI (by omega)) (fun h1=>?_) (fun h1=>?_)
 ·rw[if_pos h1] at hA
  have hnk:(nm.getD x.idx.toNat []).length≤100:=hnm _
  have ht:pX x.op nm.length=nm.length-1:=by rw[h1];rfl
  rw[ht] at hi
  have hW:oP nm x out=nm.getD x.idx.toNat []:=by
   unfold oP wrB;rw[hA,h1];rfl
  refine ei (.one 0 (.one 1 (.one 2 (.one 3 (.one 4 (.one 5 (.one 6 (.one 7 (.one 8 (.one 9 (.one 10 (.wr 11 .done)))))))))))) (ai (by kernel_rfl) ?_)
  refine ai (ai hi.1 (by show x.idx<(nm.length:Int);omega)) ?_
  refine ai rfl ?_
  refine dV (afI) ((true,nm,bs,nm.getD x.idx.toNat [])) [0,1] (a4 (ai rfl rfl)) (Or.inl rfl) (by exact (ai (ai rfl rfl) rfl)) (by exact (ai (ai rfl (ai (ai rfl rfl) (ai rfl (ai rfl (fun _ _=>rfl))))) (ai rfl (ai rfl (ai rfl (fun _ _=>rfl)))))) (⟨by show bs.length≤1000000;omega,by show (nm.getD x.idx.toNat []).length≤1000000;exact aiK hnk (by decide)⟩) ?_
  refine ei [0,3] (ai (ai rfl (ai rfl rfl)) (ai (by exact trivial) ?_))
  refine (ai (ai rfl (ai (ai rfl rfl) (ai rfl (ai rfl (fun _ _=>rfl))))) (ai rfl (ai rfl (ai ?_ ?_))))
  ·exact congrArg List.length (congrArg (fun t=>bs++t) hW.symm)
  ·exact fun k _=>congrArg (fun l=>[cP (l.getD k 0)]) (congrArg (fun t=>bs++t) hW.symm)
 exact absurd hQ h1
theorem amD:jK Tryz.prog 141 (wrC fun a=>a.st=false∧a.x.op=1):=by
 refine o8 (Tb:=tab) mixed aA Tryz.func141 rfl rfl ?_
 rintro ⟨st,nm,bs,x,out⟩ hpre
 refine ai (ai rfl (ai rfl rfl)) ?_
 obtain ⟨⟨hg,hs,hnm,hnl,hlen⟩,hst,hQ⟩:=hpre
 obtain rfl:st=false:=hst
 have hg:l8 nm.length x:=hg
 have hnm:abB nm:=hnm
 have hlen:bs.length+110*x.size≤500000:=hlen
 obtain ⟨hn0,hga⟩:=(wP _ _).1 hg
 obtain ⟨ho,hle,hi⟩:=rZ hn0
 have hA:=pO nm x
 have hQ:x.op=1:=hQ
 refine ah (p:=x.op=0) (iI (by omega)) (fun h0=>?_) (fun h0=>?_)
 ·exact absurd h0 (by omega)
 rw[if_neg h0] at hA
 refine ah (p:=x.op=1) (iI (by omega)) (fun h1=>?_) (fun h1=>?_)
 ·rw[if_pos h1] at hA
  have hnk:(nm.getD x.idx.toNat []).length≤100:=hnm _
  have ht:pX x.op nm.length=nm.length-1:=by rw[h1];rfl
  rw[ht] at hi
  have hW:oP nm x out=nm.getD x.idx.toNat []:=by
   unfold oP wrB;rw[hA,h1];rfl
  refine ei (.one 0 (.one 1 (.one 2 (.one 3 (.one 4 (.one 5 (.one 6 (.one 7 (.one 8 (.one 9 (.one 10 (.wr 11 .done)))))))))))) (ai (by kernel_rfl) ?_)
  refine ai (ai hi.1 (by show x.idx<(nm.length:Int);omega)) ?_
  refine ai rfl ?_
  refine dV (afI) ((false,nm,bs,nm.getD x.idx.toNat [])) [0,1] (a4 (ai rfl rfl)) (Or.inl rfl) (by exact (ai (ai rfl rfl) rfl)) (by exact (ai (ai rfl (ai rfl (ai rfl (ai rfl (fun _ _=>rfl))))) (ai rfl (ai rfl (ai rfl (fun _ _=>rfl)))))) (⟨by show bs.length≤1000000;omega,by show (nm.getD x.idx.toNat []).length≤1000000;exact aiK hnk (by decide)⟩) ?_
  refine ei [0,3] (ai (ai rfl (ai rfl rfl)) (ai (by exact trivial) ?_))
  refine (ai (ai rfl (ai (ai rfl rfl) (ai rfl (ai rfl (fun _ _=>rfl))))) (ai rfl (ai rfl (ai ?_ ?_))))
  ·exact congrArg List.length (congrArg (fun t=>bs++t) hW.symm)
  ·exact fun k _=>congrArg (fun l=>[cP (l.getD k 0)]) (congrArg (fun t=>bs++t) hW.symm)
 exact absurd hQ h1
theorem asa:jK Tryz.prog 141 (wrC fun a=>a.st=false∧(a.x.op=3∧a.out<0)∧∀y∈a.x.args,y.op=1):=by
 refine o8 (Tb:=tab) mixed aA Tryz.func141 rfl rfl ?_
 rintro ⟨st,nm,bs,x,out⟩ hpre
 refine ai (ai rfl (ai rfl rfl)) ?_
 obtain ⟨⟨hg,hs,hnm,hnl,hlen⟩,hst,hQ,hv⟩:=hpre
 obtain rfl:st=false:=hst
 have hv:∀y∈x.args,y.op=1:=hv
 have hg:l8 nm.length x:=hg
 have hs:x.size≤256:=hs
 have hnm:abB nm:=hnm
 have hnl:nm.length≤256:=hnl
 have hlen:bs.length+110*x.size≤500000:=hlen
 have hsp:=size_pos x
 have hal:=af3 x
 have hsz:=x.size_eq
 obtain ⟨hn0,hga⟩:=(wP _ _).1 hg
 obtain ⟨ho,hle,hi⟩:=rZ hn0
 have hA:=pO nm x
 have hQ:x.op=3∧out<0:=hQ
 refine ah (p:=x.op=0) (iI (by omega)) (fun h0=>?_) (fun h0=>?_)
 ·exact absurd h0 (by omega)
 rw[if_neg h0] at hA
 refine ah (p:=x.op=1) (iI (by omega)) (fun h1=>?_) (fun h1=>?_)
 ·exact absurd h1 (by omega)
 rw[if_neg h1] at hA
 refine ah (p:=x.op=2) (iI (by omega)) (fun h2=>?_) (fun h2=>?_)
 ·exact absurd h2 (by omega)
 rw[if_neg h2] at hA
 have hl2:2≤x.args.length:=by
  have:nE x.op=2:=by unfold nE;rw[if_neg h2,if_pos (by omega)]
  omega
 have hW:oP nm x out=dN nm x:=by
  unfold oP wrB;rw[decide_eq_false (show ¬0≤out by omega)];simp[adD]
 refine ah (p:=0≤out) (gD (by omega)) (fun h3=>?_) (fun h3=>?_)
 ·exact absurd h3 (by omega)
 refine ah (p:=x.op=4) (iI (by omega)) (fun h4=>?_) (fun h4=>?_)
 ·exact absurd h4 (by omega)
 ·refine ei (bF.inv { X:=Nat,up:=fun k=>[(71,.s (iA k))],uo:=fun k=>[⟨0,202,[.s (arZ false k),.rw 5 1 (jq nm (bs) [32,38,32] x.op x.args k).length (fun j=>[cP ((jq nm (bs) [32,38,32] x.op x.args k).getD j 0)]),.s (ssA nm)]⟩],inv:=fun k=>k≤x.args.length∧(True),meas:=fun k=>x.args.length-k,x0:=0 }) ?_
  refine ai (ai (ai (by exact (a4 (ai rfl rfl))) (ai ?_ ?_)) rfl) (ai (ai (ae4 _) ?_) ?_)
  ·exact (ai (ai (fun _=>rfl) (iE (by simp only[zz,reduceCtorEq];rfl))) rfl)
  ·refine (ai (ai (ai (ai nof rfl) rfl) (ai (ai rfl (ai rfl (ai ?_ ?_))) (ai (ai nof (ai rfl (fun _ _=>rfl))) rfl))) trivial)
   ·exact congrArg List.length (uY nm (bs) [32,38,32] x.op x.args).symm
   ·exact fun j _=>congrArg (fun l=>[cP (l.getD j 0)]) (uY nm (bs) [32,38,32] x.op x.args).symm
  ·trivial
  intro (k:Nat) ⟨hk,_⟩
  have hpl:=am8 (nm:=nm) (base:=bs) (sep:=[32,38,32]) (o:=x.op) hnm rfl hk
  cases k with
  | zero=>
   have hk0:0<x.args.length:=by omega
   refine ah (p:=0<x.args.length) (av (by dsimp only;omega)) (fun h5=>?_) (fun h5=>?_)
   ·refine ai (ai (abq _) (iN (n:=x.args.length) (by omega))) (ai rfl ?_)
    have hy:x.args.getD 0 gU∈x.args:=acH (ajs hk0)
    have hms:=qc hy
    have hb0:=congrArg List.length (uY nm (bs) [32,38,32] x.op x.args)
    have hB:(bs).length≤bs.length+1:=by simp
    refine dV (amD) (⟨false,nm,jq nm (bs) [32,38,32] x.op x.args 0,x.args.getD 0 gU,x.op⟩) [0,3] (a4 (ai rfl rfl)) (Or.inl rfl) (by exact (ai (ai rfl rfl) (ai (ai (iE (by simp only[zz,reduceCtorEq])) (ai (iE (by simp only[zz,reduceCtorEq])) (ai rfl (exE _)))) rfl))) (by exact (ai (ai rfl (ai rfl (ai rfl (ai rfl (fun _ _=>rfl))))) (ai rfl (ai rfl (ai rfl (fun _ _=>rfl)))))) (ai ⟨hga _ hy,by show (x.args.getD 0 gU).size≤256;omega,hnm,hnl,by show (jq nm (bs) [32,38,32] x.op x.args 0).length+110*(x.args.getD 0 gU).size≤_;omega⟩ ⟨rfl,hv _ hy⟩) ?_
    have eN:jq nm (bs) [32,38,32] x.op x.args 0++oP nm (x.args.getD 0 gU) x.op=jq nm (bs) [32,38,32] x.op x.args (0+1):=by
     rw[ah7 nm _ ho.1,uY,amJ hk0]
    refine ei (0+1) (ai (ai rfl rfl) (ai (ai (ai rfl (ai (ai rfl rfl) (ai (ai rfl rfl) (ai (ai (ai (fun _=>rfl) (aO (by omega))) rfl) (ai (ai (ai (ai rfl rfl) rfl) (ai (ai rfl (ai rfl (ai ?_ ?_))) (ai (ai nof (ai rfl (fun _ _=>rfl))) rfl))) trivial))))) rfl) (ai (ai (iL (by omega)) trivial) (iM (by omega)))))
    ·exact congrArg List.length eN
    ·exact fun j _=>congrArg (fun l=>[cP (l.getD j 0)]) eN
   ·exact absurd hk0 h5
  | succ k=>
   refine ah (p:=k+1<x.args.length) (av (by dsimp only;omega)) (fun h5=>?_) (fun h5=>?_)
   ·refine ai (ai (abq _) (iN (n:=x.args.length) (by omega))) (ai rfl ?_)
    have hy:x.args.getD (k+1) gU∈x.args:=acH (ajs h5)
    have hms:=qc hy
    have hss:=ajk h5
    have hst:=akt x.args (k+1+1)
    have hB:(bs).length≤bs.length+1:=by simp
    rw[if_neg (by omega)] at hpl
    refine ah (p:=0<k+1) (av (by omega)) (fun h6=>?_) (fun h6=>?_)
    ·refine dV (afI) ((true,nm,jq nm (bs) [32,38,32] x.op x.args (k+1),[32,38,32])) [0,3] (a4 (ai rfl rfl)) (Or.inl rfl) (by exact (ai (ai rfl rfl) rfl)) (by exact (ai (ai rfl (ai (ai rfl rfl) (ai rfl (ai rfl (fun _ _=>rfl))))) (ai rfl (ai rfl (ai rfl (fun _ _=>rfl)))))) (⟨by show (jq nm (bs) [32,38,32] x.op x.args (k+1)).length≤1000000;omega,by show ([32,38,32]:List UInt8).length≤1000000;simp⟩) ?_
     refine dV (arR) (⟨true,nm,jq nm (bs) [32,38,32] x.op x.args (k+1)++[32,38,32],x.args.getD (k+1) gU,x.op⟩) [0,5] (a4 (ai rfl rfl)) (Or.inl rfl) (by exact (ai (ai rfl rfl) (ai (ai (iE (by simp only[zz,reduceCtorEq])) (ai (iE (by simp only[zz,reduceCtorEq])) (ai rfl (exE _)))) rfl))) (by exact (ai (ai rfl (ai (ai rfl rfl) (ai rfl (ai rfl (fun _ _=>rfl))))) (ai rfl (ai rfl (ai rfl (fun _ _=>rfl)))))) (ai ⟨hga _ hy,by show (x.args.getD (k+1) gU).size≤256;omega,hnm,hnl,by show (jq nm (bs) [32,38,32] x.op x.args (k+1)++[32,38,32]).length+110*(x.args.getD (k+1) gU).size≤_;rw[aas];show (jq nm (bs) [32,38,32] x.op x.args (k+1)).length+3+110*(x.args.getD (k+1) gU).size≤_;omega⟩ ⟨rfl,hv _ hy⟩) ?_
     have eN:jq nm (bs) [32,38,32] x.op x.args (k+1)++[32,38,32]++oP nm (x.args.getD (k+1) gU) x.op=jq nm (bs) [32,38,32] x.op x.args (k+1+1):=by
      rw[ah7 nm _ ho.1,akG h5]
     refine ei ((k+1)+1) (ai (ai rfl rfl) (ai (ai (ai rfl (ai (ai rfl rfl) (ai (ai rfl rfl) (ai (ai (ai (fun _=>rfl) (aO (by omega))) rfl) (ai (ai (ai (ai rfl rfl) rfl) (ai (ai rfl (ai rfl (ai ?_ ?_))) (ai (ai nof (ai rfl (fun _ _=>rfl))) rfl))) trivial))))) rfl) (ai (ai (iL (by omega)) trivial) (iM (by omega)))))
     ·exact congrArg List.length eN
     ·exact fun j _=>congrArg (fun l=>[cP (l.getD j 0)]) eN
    ·exact absurd (Nat.succ_pos k) h6
   ·have hke:k+1=x.args.length:=by omega
    have eT:jq nm (bs) [32,38,32] x.op x.args (k+1)=bs++dN nm x:=by
     rw[hke,anG,hA];unfold aag;rw[if_neg h4]
    refine ei [0,3] (ai (ai rfl (ai rfl rfl)) (ai (by exact trivial) ?_))
    refine (ai (ai rfl (ai (ai rfl rfl) (ai rfl (ai rfl (fun _ _=>rfl))))) (ai rfl (ai rfl (ai ?_ ?_))))
    ·exact congrArg List.length (eT.trans (congrArg (fun t=>bs++t) hW.symm))
    ·exact fun k _=>congrArg (fun l=>[cP (l.getD k 0)]) (eT.trans (congrArg (fun t=>bs++t) hW.symm))
def abZ (x:Ex):Prop:=x.op=1∨x.op=3∧∀y∈x.args,y.op=1
theorem ak2:jK Tryz.prog 141 (wrC fun a=>a.st=false∧a.out<0∧abZ a.x):=
 ⟨amD.1,fun a hp base E vs w hg hh hA=>by
  obtain ⟨h1,h2,h3,h4⟩:=hp
  rcases h4 with h4 | ⟨h4,h5⟩
  ·exact amD.2 a ⟨h1,h2,h4⟩ base E vs w hg hh hA
  ·exact asa.2 a ⟨h1,h2,⟨h4,h3⟩,h5⟩ base E vs w hg hh hA⟩
def apR (a:NM×Ex×Int):Prop:=ajM ⟨false,a.1,[],a.2.1,a.2.2⟩∧a.2.2<0∧abZ a.2.1
theorem ajS:jK Tryz.prog 141 { A:=NM×Ex×Int,fix:=1,args:=fun a=>[.own 0 0,exA a.2.1,iA a.2.2],objs:=fun a=>[.cells 202 (qg :: aat :: nmR a.1)],pre:=apR,res:=fun _=>.tup [],objs':=fun a=>[bld 202 (nmR a.1),og ([]++oP a.1 a.2.1 a.2.2)] }:=
 afF (T:=202) (rest:=fun a:NM×Ex×Int=>nmR a.1) ⟨ak2.1,fun a hp=>ak2.2 ⟨false,a.1,[],a.2.1,a.2.2⟩ ⟨hp.1,rfl,hp.2.1,hp.2.2⟩⟩
def ajb (a:Ex×NM):Prop:=kE a.2=0∧eH a.1 a.2.length=0∧(∀k,(a.2.getD k []).length≤100)∧(∀s∈a.2,s≠[])∧a.1.size≤256∧(dN a.2 a.1).length≤4096∧abZ a.1
theorem aj5:aK Tryz.prog 82 (bQ (fun a:Ex×NM=>[exA a.1,ssA a.2]) ajb (fun a=>.tup [sP (dN a.2 a.1),iP 0])):=by
 refine iT [141,142,84] ?_
 refine aX (Tb:=tab) mixed aA Tryz.func82 rfl rfl ?_
 rintro ⟨x,nm⟩ hpre
 refine ai (ai rfl (ai rfl rfl)) ?_
 obtain ⟨h1,h2,h3,h4,h5,h6,h7⟩:=hpre
 have h1:kE nm=0:=h1
 have h2:eH x nm.length=0:=h2
 have h3:∀k,(nm.getD k []).length≤100:=h3
 have h4:∀s∈nm,s≠[]:=h4
 have h5:x.size≤256:=h5
 have h6:(dN nm x).length≤4096:=h6
 obtain ⟨hn,_,hg⟩:=abr.1 h2
 have hnl:∀s∈nm,s.length≤1000000:=fun s hs=>by
  obtain ⟨k,hk,rfl⟩:=an4 hs
  have:=h3 k
  rw[aa7,abb hk] at this
  have this:(nm[k]).length≤100:=this
  omega
 refine ei _ (ai (amd) (ei (nm) (ei [] (ai (a4 (ai (fun _=>Or.inl rfl) (ai nof (Or.inl rfl)))) (ai (by exact (ai rfl (fun _ _=>rfl))) (ai trivial (ai (hnl) ?_)))))))
 refine bI (p:=kE nm=0) (dh (by omega)) (fun g1=>?_) (fun g1=>?_)
 ·exact absurd h1 g1
 refine ei _ (ai (afH) (ei ((x,(nm.length:Int))) (ei [] (ai (a4 (ai (fun _=>Or.inl rfl) (ai nof (Or.inl rfl)))) (ai (by exact (ai (ai rfl (ai rfl (ai rfl (fun _ _=>rfl)))) rfl)) (ai trivial (ai ((by show x.size≤1000000;omega)) ?_)))))))
 refine bI (p:=eH x nm.length=0) (dh (by dsimp only;omega)) (fun g2=>?_) (fun g2=>?_)
 ·exact absurd h2 g2
 refine dV (ajS) ((nm,x,-1)) [1] (a4 (ai rfl rfl)) (Or.inl rfl) (by exact (ai (ai rfl rfl) (ai (ai rfl (ai rfl (ai rfl (fun _ _=>rfl)))) rfl))) (by exact (ai rfl (ai rfl (ai rfl (ai rfl (fun _ _=>rfl)))))) (⟨⟨hg,h5,h3,by show nm.length≤256;omega,by show 0+110*x.size≤500000;omega⟩,(by show (-1:Int)<0;decide),h7⟩) ?_
 have eW:([]:List UInt8)++oP nm x (-1)=dN nm x:=by rw[ao4 (by decide)];rfl
 refine dV (ao9) ((nm,[]++oP nm x (-1))) [1,2] (a4 (ai rfl rfl)) (Or.inl rfl) (by exact (ai rfl rfl)) (by exact (ai (ai rfl (ai (ai rfl rfl) (ai rfl (ai rfl (fun _ _=>rfl))))) (ai rfl (ai rfl (ai rfl (fun _ _=>rfl)))))) (trivial) ?_
 refine ah (p:=4096<(([]:List UInt8)++oP nm x (-1)).length) (av (by dsimp only;omega)) (fun g3=>?_) (fun g3=>?_)
 ·rw[eW] at g3;exact absurd h6 (by omega)
 refine ak0 (aiS 202 3) rfl rfl rfl rfl ([]++oP nm x (-1)) rfl (by rw[eW];exact amY hg h4) (fun k _=>rfl) ?_
 refine ai (ai (fun _=>(by exact (ai trivial trivial))) ?_) trivial
 show aB _ (PV.tup [sP (dN nm x),iP 0])
 rw[show dN nm x=[]++oP nm x (-1) from eW.symm]
 exact (ai rfl rfl)
def aoE (c:aW):Prop:=jf c∧(bO c=0→∀t∈c.trs,t.wh.size≤120∧abZ t.wh)
theorem amU {c:aW} (h:bO c=0) (h2:∀t∈c.trs,t.wh.size≤120∧abZ t.wh) {k:Nat} (hk:k<c.trs.length):ajb ((c.trs.getD k bB).wh,dD c):=by
 have hn:=(qK h).2.2.1
 have hs:=h2 _ (acH (bH bB hk))
 refine ⟨aj3 h,?_,an9 h,fun s hm e=>?_,by show (c.trs.getD k bB).wh.size≤256;omega,?_,hs.2⟩
 ·show eH (c.trs.getD k bB).wh ((dD c).length:Int)=0
  rw[hn];exact (oW h hk).2.2
 ·have:=((qK h).1 s hm).2
  rw[e] at this;exact absurd this (by decide)
 ·have:=acu (afG h) _ _ (afM (c.trs.getD k bB).wh.size)
  show (dN (dD c) (c.trs.getD k bB).wh).length≤4096
  omega
set_option maxHeartbeats 4000000 in
theorem adi:aK Tryz.prog 24 (fnG (fun c:aW=>[kU c]) aoE uX):=by
 refine iT [78,81,84] ?_
 refine aX (Tb:=tab) mixed aA Tryz.func24 rfl rfl ?_
 rintro (c:aW) hpre
 refine ai (ai rfl (ai rfl rfl)) ?_
 obtain ⟨ho,h40⟩:=hpre
 have ho:jf c:=ho
 refine ei _ (ai (afA) (ei (c) (ei [] (ai (a4 (ai (fun _=>Or.inl rfl) (ai nof (Or.inl rfl)))) (ai (by exact (ai rfl (ai (ai rfl (fun _ _=>rfl)) (ai (ai rfl (fun _ _=>rfl)) (ai rfl (fun _ _=>rfl)))))) (ai trivial (ai (ho) ?_)))))))
 refine bI (p:=bO c=0) (dh (by omega)) (fun h1=>?_) (fun h1=>?_)
 ·refine ai (ai (fun _=>(by exact (ai trivial trivial))) ?_) trivial
  show aB _ (uX c)
  rw[uX,if_neg h1]
  exact (ai rfl rfl)
 have hc:bO c=0:=h1
 have h40:∀t∈c.trs,t.wh.size≤120∧abZ t.wh:=h40 hc
 obtain ⟨_,_,hs24,ht32,_⟩:=iO hc
 refine ei (bF.inv { X:=Nat,up:=fun k=>[(24,.s (iA k))],uo:=fun k=>[⟨1,143,[.s (ar5 k),.rw 5 1 (bK c.sts k).length (adK (bK c.sts k))]⟩],inv:=fun k=>k≤c.sts.length∧(True),meas:=fun k=>c.sts.length-k,x0:=0 }) ?_
 refine ai (ai (ai (by exact (a4 (ai rfl rfl))) (ai ?_ ?_)) rfl) (ai (ai (ae4 _) ?_) ?_)
 ·exact (ai (ai (fun _=>rfl) (iE (by simp only[zz,reduceCtorEq];rfl))) rfl)
 ·exact (ai (ai (ai (ai (fun _=>rfl) rfl) rfl) rfl) trivial)
 ·trivial
 intro (k:Nat) ⟨hk,_⟩
 have hL:=afU hc hk
 cases k with
 | zero=>
  refine ah (p:=(0:Nat)<c.sts.length) (av (by omega)) (fun h2=>?_) (fun h2=>?_)
  ·refine ai (ai (abq _) (iN (n:=c.sts.length) (by omega))) (ai rfl ?_)
   have hd:=vX (n:=(0:Nat)) (by omega)
   have hh:=adL (k:=(0:Nat)) (by omega)
   obtain ⟨g1,g2,g3,g4⟩:=agT hc h2
   refine ei _ (ai (wJ) (ei ((0:Nat)) (ei [] (ai (a4 (ai (fun _=>Or.inl rfl) (ai nof (Or.inl rfl)))) (ai (by exact rfl) (ai trivial (ai ((by show (0:Nat)<100;omega)) ?_)))))))
   refine ai (qj (l:=stepW) (m:=dec ((0:Nat))) rfl rfl (by show 5+_≤_;omega)) (ai (qj (l:=stepW++dec ((0:Nat))) (m:=[58]) (dR _ _) rfl (by rw[aas];show 5+_+1≤_;omega)) ?_)
   refine dV (sQ) ((false,[],bK c.sts ((0:Nat)),gB ((0:Nat)))) [1,2] (a4 (ai rfl rfl)) (Or.inl rfl) ?_ (by exact (ai (ai rfl (ai rfl rfl)) (ai rfl (ai rfl (ai rfl (fun _ _=>rfl)))))) (⟨by show (bK c.sts ((0:Nat))).length≤1000000;omega,by show (gB ((0:Nat))).length≤1000000;omega⟩) ?_
   ·exact (ai (ai rfl rfl) rfl)
   refine ei (bF.inv { X:=Nat,up:=fun j=>[(37,.s (iA j))],uo:=fun j=>[⟨1,143,[.s (.own 1 0),.rw 5 1 ((bK c.sts ((0:Nat))++gB ((0:Nat)))++iH ((c.sts.getD ((0:Nat)) st0).st.take j)).length (adK ((bK c.sts ((0:Nat))++gB ((0:Nat)))++iH ((c.sts.getD ((0:Nat)) st0).st.take j)))]⟩],inv:=fun j=>j≤(c.sts.getD ((0:Nat)) st0).st.length∧(True),meas:=fun j=>(c.sts.getD ((0:Nat)) st0).st.length-j,x0:=0 }) ?_
   refine ai (ai (ai (by exact (a4 (ai rfl rfl))) (ai ?_ ?_)) rfl) (ai (ai (ae4 _) ?_) ?_)
   ·exact (ai (ai (fun _=>rfl) (iE (by simp only[zz,reduceCtorEq];rfl))) rfl)
   ·refine (ai (ai (ai (ai rfl rfl) rfl) (ai rfl (ai rfl (ai ?_ ?_)))) trivial)
    ·show (bK c.sts ((0:Nat))++gB ((0:Nat))).length=((bK c.sts ((0:Nat))++gB ((0:Nat)))++[]).length
     rw[ap7]
    ·exact lV (by show _=_++[];rw[ap7])
   ·trivial
   intro (j:Nat) ⟨hj,_⟩
   have hT:=ad3 ((c.sts.getD ((0:Nat)) st0).st.take j)
   rw[aik] at hT
   refine ah (p:=j<(c.sts.getD ((0:Nat)) st0).st.length) (by simp only[zz,reduceCtorEq];omega) (fun h3=>?_) (fun h3=>?_)
   ·refine ai (ai (abq _) (iN (n:=(c.sts.getD ((0:Nat)) st0).st.length) (by omega))) (ai rfl ?_)
    have hw:(nN ((c.sts.getD ((0:Nat)) st0).st.getD j aR)).length=2:=rfl
    refine ei _ (ai (agH) (ei ((c.sts.getD ((0:Nat)) st0).st.getD j aR) (ei [] (ai (a4 (ai (fun _=>Or.inl rfl) (ai nof (Or.inl rfl)))) (ai (by exact (ai (iE (by simp only[zz,reduceCtorEq])) rfl)) (ai trivial (ai (uH g2 h3) ?_)))))))
    refine ai (qj (l:=[32]) (m:=nN ((c.sts.getD ((0:Nat)) st0).st.getD j aR)) rfl rfl (by rw[hw];decide)) ?_
    refine dV (sQ) ((true,[],(bK c.sts ((0:Nat))++gB ((0:Nat)))++iH ((c.sts.getD ((0:Nat)) st0).st.take j),[32]++nN ((c.sts.getD ((0:Nat)) st0).st.getD j aR))) [1,5] (a4 (ai rfl rfl)) (Or.inl rfl) ?_ (by exact (ai (ai rfl (ai (ai rfl rfl) rfl)) (ai rfl (ai rfl (ai rfl (fun _ _=>rfl)))))) (⟨by show ((bK c.sts ((0:Nat))++gB ((0:Nat)))++iH ((c.sts.getD ((0:Nat)) st0).st.take j)).length≤1000000;simp only[aas,ait,al7];omega,by show ([32]++nN ((c.sts.getD ((0:Nat)) st0).st.getD j aR)).length≤1000000;rw[aas,hw];decide⟩) ?_
    ·exact (ai (ai rfl rfl) rfl)
    have eN:((bK c.sts ((0:Nat))++gB ((0:Nat)))++iH ((c.sts.getD ((0:Nat)) st0).st.take j))++([32]++nN ((c.sts.getD ((0:Nat)) st0).st.getD j aR))=(bK c.sts ((0:Nat))++gB ((0:Nat)))++iH ((c.sts.getD ((0:Nat)) st0).st.take (j+1)):=by
     rw[aU aR h3]
     unfold iH
     rw[as7]
     simp
    refine ei (j+1) (ai (ai rfl rfl) (ai (ai (ai rfl (ai (ai rfl rfl) (ai (ai rfl rfl) (ai (ai (ai (fun _=>rfl) (aO (by omega))) rfl) (ai (ai (ai (ai rfl rfl) rfl) (ai rfl (ai rfl (ai ?_ ?_)))) trivial))))) rfl) (ai (ai (iL (by omega)) trivial) (iM (by omega)))))
    ·exact congrArg List.length eN
    ·exact lV eN
   obtain rfl:j=(c.sts.getD ((0:Nat)) st0).st.length:=by omega
   have et:(c.sts.getD ((0:Nat)) st0).st.take (c.sts.getD ((0:Nat)) st0).st.length=(c.sts.getD ((0:Nat)) st0).st:=aga
   rw[et] at hT
   refine ah (p:=0<(c.sts.getD ((0:Nat)) st0).wt) (av Iff.rfl) (fun h4=>?_) (fun h4=>?_)
   ·obtain ⟨w,hw⟩:∃w:Nat,(c.sts.getD ((0:Nat)) st0).wt=(w:Int):=⟨(c.sts.getD ((0:Nat)) st0).wt.toNat,by omega⟩
    have hd7:=abC (n:=w) (by omega)
    have e0:tH (c.sts.getD ((0:Nat)) st0).wt=[32]++dec w:=by unfold tH;rw[if_pos h4,hw];rfl
    refine ei _ (ai (af7) (ei (w) (ei [] (ai (a4 (ai (fun _=>Or.inl rfl) (ai nof (Or.inr rfl)))) (ai ?_ (ai (by exact trivial) (ai ((by show w≤1000000;omega)) ?_)))))))
    ·exact (iE (by simp only[zz,reduceCtorEq];omega))
    refine ai (qj (l:=[32]) (m:=dec w) rfl rfl (by show 1+_≤_;omega)) ?_
    refine dV (sQ) ((true,[],(bK c.sts ((0:Nat))++gB ((0:Nat)))++iH ((c.sts.getD ((0:Nat)) st0).st.take (c.sts.getD ((0:Nat)) st0).st.length),[32]++dec w)) [1,5] (a4 (ai rfl rfl)) (Or.inl rfl) ?_ (by exact (ai (ai rfl (ai (ai rfl rfl) rfl)) (ai rfl (ai rfl (ai rfl (fun _ _=>rfl)))))) (⟨by show ((bK c.sts ((0:Nat))++gB ((0:Nat)))++iH ((c.sts.getD ((0:Nat)) st0).st.take (c.sts.getD ((0:Nat)) st0).st.length)).length≤1000000;rw[et];simp only[aas,ait,al7];omega,by show ([32]++dec w).length≤1000000;rw[aas];show 1+_≤_;omega⟩) ?_
    ·exact (ai (ai rfl rfl) rfl)
    refine dV (ac6) ((true,[],((bK c.sts ((0:Nat))++gB ((0:Nat)))++iH ((c.sts.getD ((0:Nat)) st0).st.take (c.sts.getD ((0:Nat)) st0).st.length))++([32]++dec w),10)) [1,6] (a4 (ai rfl rfl)) (Or.inl rfl) (by exact (ai (ai rfl rfl) (iE (by simp only[zz,reduceCtorEq];rfl)))) (by exact (ai (ai rfl (ai (ai rfl rfl) rfl)) (ai rfl (ai rfl (ai rfl (fun _ _=>rfl)))))) ((by show (((bK c.sts ((0:Nat))++gB ((0:Nat)))++iH ((c.sts.getD ((0:Nat)) st0).st.take (c.sts.getD ((0:Nat)) st0).st.length))++([32]++dec w)).length≤1000000;rw[et];simp only[aas,ait,al7];omega)) ?_
    have eN:(((bK c.sts ((0:Nat))++gB ((0:Nat)))++iH ((c.sts.getD ((0:Nat)) st0).st.take (c.sts.getD ((0:Nat)) st0).st.length))++([32]++dec w))++[10]=bK c.sts ((0:Nat)+1):=by
     show _=bK c.sts ((0:Nat))++((((gB ((0:Nat))++iH (c.sts.getD ((0:Nat)) st0).st)++tH (c.sts.getD ((0:Nat)) st0).wt))++[10])
     rw[et,e0]
     simp only[asz]
    refine ei (((0:Nat))+1) (ai (ai rfl rfl) (ai (ai (ai rfl (ai (ai rfl rfl) (ai (ai rfl rfl) (ai (ai (ai (fun _=>rfl) (aO (by omega))) rfl) (ai (ai (ai (ai rfl rfl) rfl) (ai rfl (ai rfl (ai ?_ ?_)))) trivial))))) rfl) (ai (ai (iL (by omega)) trivial) (iM (by omega)))))
    ·exact congrArg List.length eN
    ·exact lV eN
   ·have e0:tH (c.sts.getD ((0:Nat)) st0).wt=[]:=by unfold tH;rw[if_neg h4]
    refine dV (ac6) ((true,[],(bK c.sts ((0:Nat))++gB ((0:Nat)))++iH ((c.sts.getD ((0:Nat)) st0).st.take (c.sts.getD ((0:Nat)) st0).st.length),10)) [1,5] (a4 (ai rfl rfl)) (Or.inl rfl) (by exact (ai (ai rfl rfl) (iE (by simp only[zz,reduceCtorEq];rfl)))) (by exact (ai (ai rfl (ai (ai rfl rfl) rfl)) (ai rfl (ai rfl (ai rfl (fun _ _=>rfl)))))) ((by show ((bK c.sts ((0:Nat))++gB ((0:Nat)))++iH ((c.sts.getD ((0:Nat)) st0).st.take (c.sts.getD ((0:Nat)) st0).st.length)).length≤1000000;rw[et];simp only[aas,ait,al7];omega)) ?_
    have eN:((bK c.sts ((0:Nat))++gB ((0:Nat)))++iH ((c.sts.getD ((0:Nat)) st0).st.take (c.sts.getD ((0:Nat)) st0).st.length))++[10]=bK c.sts ((0:Nat)+1):=by
     show _=bK c.sts ((0:Nat))++((((gB ((0:Nat))++iH (c.sts.getD ((0:Nat)) st0).st)++tH (c.sts.getD ((0:Nat)) st0).wt))++[10])
     rw[et,e0,ap7]
     simp only[asz]
    refine ei (((0:Nat))+1) (ai (ai rfl rfl) (ai (ai (ai rfl (ai (ai rfl rfl) (ai (ai rfl rfl) (ai (ai (ai (fun _=>rfl) (aO (by omega))) rfl) (ai (ai (ai (ai rfl rfl) rfl) (ai rfl (ai rfl (ai ?_ ?_)))) trivial))))) rfl) (ai (ai (iL (by omega)) trivial) (iM (by omega)))))
    ·exact congrArg List.length eN
    ·exact lV eN
  ·exact absurd hs24.1 (by omega)
 | succ k=>
  refine ah (p:=k+1<c.sts.length) (av (by omega)) (fun h2=>?_) (fun h2=>?_)
  ·refine ai (ai (abq _) (iN (n:=c.sts.length) (by omega))) (ai rfl ?_)
   have hd:=vX (n:=k+1) (by omega)
   have hh:=adL (k:=k+1) (by omega)
   obtain ⟨g1,g2,g3,g4⟩:=agT hc h2
   refine ei _ (ai (wJ) (ei (k+1) (ei [] (ai (a4 (ai (fun _=>Or.inl rfl) (ai nof (Or.inl rfl)))) (ai (by exact rfl) (ai trivial (ai ((by show k+1<100;omega)) ?_)))))))
   refine ai (qj (l:=stepW) (m:=dec (k+1)) rfl rfl (by show 5+_≤_;omega)) (ai (qj (l:=stepW++dec (k+1)) (m:=[58]) (dR _ _) rfl (by rw[aas];show 5+_+1≤_;omega)) ?_)
   refine dV (sQ) ((true,[],bK c.sts (k+1),gB (k+1))) [1,2] (a4 (ai rfl rfl)) (Or.inl rfl) ?_ (by exact (ai (ai rfl (ai (ai rfl rfl) rfl)) (ai rfl (ai rfl (ai rfl (fun _ _=>rfl)))))) (⟨by show (bK c.sts (k+1)).length≤1000000;omega,by show (gB (k+1)).length≤1000000;omega⟩) ?_
   ·exact (ai (ai rfl rfl) rfl)
   refine ei (bF.inv { X:=Nat,up:=fun j=>[(37,.s (iA j))],uo:=fun j=>[⟨1,143,[.s (.own 1 0),.rw 5 1 ((bK c.sts (k+1)++gB (k+1))++iH ((c.sts.getD (k+1) st0).st.take j)).length (adK ((bK c.sts (k+1)++gB (k+1))++iH ((c.sts.getD (k+1) st0).st.take j)))]⟩],inv:=fun j=>j≤(c.sts.getD (k+1) st0).st.length∧(True),meas:=fun j=>(c.sts.getD (k+1) st0).st.length-j,x0:=0 }) ?_
   refine ai (ai (ai (by exact (a4 (ai rfl rfl))) (ai ?_ ?_)) rfl) (ai (ai (ae4 _) ?_) ?_)
   ·exact (ai (ai (fun _=>rfl) (iE (by simp only[zz,reduceCtorEq];rfl))) rfl)
   ·refine (ai (ai (ai (ai rfl rfl) rfl) (ai rfl (ai rfl (ai ?_ ?_)))) trivial)
    ·show (bK c.sts (k+1)++gB (k+1)).length=((bK c.sts (k+1)++gB (k+1))++[]).length
     rw[ap7]
    ·exact lV (by show _=_++[];rw[ap7])
   ·trivial
   intro (j:Nat) ⟨hj,_⟩
   have hT:=ad3 ((c.sts.getD (k+1) st0).st.take j)
   rw[aik] at hT
   refine ah (p:=j<(c.sts.getD (k+1) st0).st.length) (by simp only[zz,reduceCtorEq];omega) (fun h3=>?_) (fun h3=>?_)
   ·refine ai (ai (abq _) (iN (n:=(c.sts.getD (k+1) st0).st.length) (by omega))) (ai rfl ?_)
    have hw:(nN ((c.sts.getD (k+1) st0).st.getD j aR)).length=2:=rfl
    refine ei _ (ai (agH) (ei ((c.sts.getD (k+1) st0).st.getD j aR) (ei [] (ai (a4 (ai (fun _=>Or.inl rfl) (ai nof (Or.inl rfl)))) (ai (by exact (ai (iE (by simp only[zz,reduceCtorEq])) rfl)) (ai trivial (ai (uH g2 h3) ?_)))))))
    refine ai (qj (l:=[32]) (m:=nN ((c.sts.getD (k+1) st0).st.getD j aR)) rfl rfl (by rw[hw];decide)) ?_
    refine dV (sQ) ((true,[],(bK c.sts (k+1)++gB (k+1))++iH ((c.sts.getD (k+1) st0).st.take j),[32]++nN ((c.sts.getD (k+1) st0).st.getD j aR))) [1,5] (a4 (ai rfl rfl)) (Or.inl rfl) ?_ (by exact (ai (ai rfl (ai (ai rfl rfl) rfl)) (ai rfl (ai rfl (ai rfl (fun _ _=>rfl)))))) (⟨by show ((bK c.sts (k+1)++gB (k+1))++iH ((c.sts.getD (k+1) st0).st.take j)).length≤1000000;simp only[aas,ait,al7];omega,by show ([32]++nN ((c.sts.getD (k+1) st0).st.getD j aR)).length≤1000000;rw[aas,hw];decide⟩) ?_
    ·exact (ai (ai rfl rfl) rfl)
    have eN:((bK c.sts (k+1)++gB (k+1))++iH ((c.sts.getD (k+1) st0).st.take j))++([32]++nN ((c.sts.getD (k+1) st0).st.getD j aR))=(bK c.sts (k+1)++gB (k+1))++iH ((c.sts.getD (k+1) st0).st.take (j+1)):=by
     rw[aU aR h3]
     unfold iH
     rw[as7]
     simp
    refine ei (j+1) (ai (ai rfl rfl) (ai (ai (ai rfl (ai (ai rfl rfl) (ai (ai rfl rfl) (ai (ai (ai (fun _=>rfl) (aO (by omega))) rfl) (ai (ai (ai (ai rfl rfl) rfl) (ai rfl (ai rfl (ai ?_ ?_)))) trivial))))) rfl) (ai (ai (iL (by omega)) trivial) (iM (by omega)))))
    ·exact congrArg List.length eN
    ·exact lV eN
   obtain rfl:j=(c.sts.getD (k+1) st0).st.length:=by omega
   have et:(c.sts.getD (k+1) st0).st.take (c.sts.getD (k+1) st0).st.length=(c.sts.getD (k+1) st0).st:=aga
   rw[et] at hT
   refine ah (p:=0<(c.sts.getD (k+1) st0).wt) (av Iff.rfl) (fun h4=>?_) (fun h4=>?_)
   ·obtain ⟨w,hw⟩:∃w:Nat,(c.sts.getD (k+1) st0).wt=(w:Int):=⟨(c.sts.getD (k+1) st0).wt.toNat,by omega⟩
    have hd7:=abC (n:=w) (by omega)
    have e0:tH (c.sts.getD (k+1) st0).wt=[32]++dec w:=by unfold tH;rw[if_pos h4,hw];rfl
    refine ei _ (ai (af7) (ei (w) (ei [] (ai (a4 (ai (fun _=>Or.inl rfl) (ai nof (Or.inr rfl)))) (ai ?_ (ai (by exact trivial) (ai ((by show w≤1000000;omega)) ?_)))))))
    ·exact (iE (by simp only[zz,reduceCtorEq];omega))
    refine ai (qj (l:=[32]) (m:=dec w) rfl rfl (by show 1+_≤_;omega)) ?_
    refine dV (sQ) ((true,[],(bK c.sts (k+1)++gB (k+1))++iH ((c.sts.getD (k+1) st0).st.take (c.sts.getD (k+1) st0).st.length),[32]++dec w)) [1,5] (a4 (ai rfl rfl)) (Or.inl rfl) ?_ (by exact (ai (ai rfl (ai (ai rfl rfl) rfl)) (ai rfl (ai rfl (ai rfl (fun _ _=>rfl)))))) (⟨by show ((bK c.sts (k+1)++gB (k+1))++iH ((c.sts.getD (k+1) st0).st.take (c.sts.getD (k+1) st0).st.length)).length≤1000000;rw[et];simp only[aas,ait,al7];omega,by show ([32]++dec w).length≤1000000;rw[aas];show 1+_≤_;omega⟩) ?_
    ·exact (ai (ai rfl rfl) rfl)
    refine dV (ac6) ((true,[],((bK c.sts (k+1)++gB (k+1))++iH ((c.sts.getD (k+1) st0).st.take (c.sts.getD (k+1) st0).st.length))++([32]++dec w),10)) [1,6] (a4 (ai rfl rfl)) (Or.inl rfl) (by exact (ai (ai rfl rfl) (iE (by simp only[zz,reduceCtorEq];rfl)))) (by exact (ai (ai rfl (ai (ai rfl rfl) rfl)) (ai rfl (ai rfl (ai rfl (fun _ _=>rfl)))))) ((by show (((bK c.sts (k+1)++gB (k+1))++iH ((c.sts.getD (k+1) st0).st.take (c.sts.getD (k+1) st0).st.length))++([32]++dec w)).length≤1000000;rw[et];simp only[aas,ait,al7];omega)) ?_
    have eN:(((bK c.sts (k+1)++gB (k+1))++iH ((c.sts.getD (k+1) st0).st.take (c.sts.getD (k+1) st0).st.length))++([32]++dec w))++[10]=bK c.sts (k+1+1):=by
     show _=bK c.sts (k+1)++((((gB (k+1)++iH (c.sts.getD (k+1) st0).st)++tH (c.sts.getD (k+1) st0).wt))++[10])
     rw[et,e0]
     simp only[asz]
    refine ei ((k+1)+1) (ai (ai rfl rfl) (ai (ai (ai rfl (ai (ai rfl rfl) (ai (ai rfl rfl) (ai (ai (ai (fun _=>rfl) (aO (by omega))) rfl) (ai (ai (ai (ai rfl rfl) rfl) (ai rfl (ai rfl (ai ?_ ?_)))) trivial))))) rfl) (ai (ai (iL (by omega)) trivial) (iM (by omega)))))
    ·exact congrArg List.length eN
    ·exact lV eN
   ·have e0:tH (c.sts.getD (k+1) st0).wt=[]:=by unfold tH;rw[if_neg h4]
    refine dV (ac6) ((true,[],(bK c.sts (k+1)++gB (k+1))++iH ((c.sts.getD (k+1) st0).st.take (c.sts.getD (k+1) st0).st.length),10)) [1,5] (a4 (ai rfl rfl)) (Or.inl rfl) (by exact (ai (ai rfl rfl) (iE (by simp only[zz,reduceCtorEq];rfl)))) (by exact (ai (ai rfl (ai (ai rfl rfl) rfl)) (ai rfl (ai rfl (ai rfl (fun _ _=>rfl)))))) ((by show ((bK c.sts (k+1)++gB (k+1))++iH ((c.sts.getD (k+1) st0).st.take (c.sts.getD (k+1) st0).st.length)).length≤1000000;rw[et];simp only[aas,ait,al7];omega)) ?_
    have eN:((bK c.sts (k+1)++gB (k+1))++iH ((c.sts.getD (k+1) st0).st.take (c.sts.getD (k+1) st0).st.length))++[10]=bK c.sts (k+1+1):=by
     show _=bK c.sts (k+1)++((((gB (k+1)++iH (c.sts.getD (k+1) st0).st)++tH (c.sts.getD (k+1) st0).wt))++[10])
     rw[et,e0,ap7]
     simp only[asz]
    refine ei ((k+1)+1) (ai (ai rfl rfl) (ai (ai (ai rfl (ai (ai rfl rfl) (ai (ai rfl rfl) (ai (ai (ai (fun _=>rfl) (aO (by omega))) rfl) (ai (ai (ai (ai rfl rfl) rfl) (ai rfl (ai rfl (ai ?_ ?_)))) trivial))))) rfl) (ai (ai (iL (by omega)) trivial) (iM (by omega)))))
    ·exact congrArg List.length eN
    ·exact lV eN
  ·have hkn:k+1=c.sts.length:=by omega
   refine ei (bF.inv { X:=Nat,up:=fun i=>[(66,.s (iA i))],uo:=fun i=>[⟨1,143,[.s (.own 1 0),.rw 5 1 (bK c.sts (k+1)++nA (dD c) c.trs i).length (adK (bK c.sts (k+1)++nA (dD c) c.trs i))]⟩],inv:=fun i=>i≤c.trs.length∧(True),meas:=fun i=>c.trs.length-i,x0:=0 }) ?_
   refine ai (ai (ai (by exact (a4 (ai rfl rfl))) (ai ?_ ?_)) rfl) (ai (ai (ae4 _) ?_) ?_)
   ·exact (ai (ai (fun _=>rfl) (iE (by simp only[zz,reduceCtorEq];rfl))) rfl)
   ·refine (ai (ai (ai (ai rfl rfl) rfl) (ai rfl (ai rfl (ai ?_ ?_)))) trivial)
    ·show (bK c.sts (k+1)).length=(bK c.sts (k+1)++[]).length
     rw[ap7]
    ·exact lV (by show _=_++[];rw[ap7])
   ·trivial
   intro (i:Nat) ⟨hi,_⟩
   have hM:=agX hc hi
   refine ah (p:=i<c.trs.length) (av (by omega)) (fun h5=>?_) (fun h5=>?_)
   ·refine ai (ai (abq _) (iN (n:=c.trs.length) (by omega))) (ai rfl ?_)
    obtain ⟨⟨q1,q2⟩,q3,q4,q5⟩:=ah4 hc h5
    obtain ⟨⟨p1,p2⟩,p3,p4⟩:=aiD hc h5
    have x1:=xL (oW hc h5).1.1 (by decide)
    have x2:=xL (oW hc h5).2.1.1 (by decide)
    refine ei (.seq [0,1,2,3,4,5,6,7,8,9]) (ai (by kernel_rfl) ?_)
    refine ei _ (ai (aqr) (ei (c) (ei [] (ai (a4 (ai (fun _=>Or.inl rfl) (ai nof (Or.inl rfl)))) (ai (by exact (ai rfl (ai (ai rfl (fun _ _=>rfl)) (ai (ai rfl (fun _ _=>rfl)) (ai rfl (fun _ _=>rfl)))))) (ai trivial (ai (anm hc) ?_)))))))
    refine ei _ (ai (aj5) (ei (((c.trs.getD i bB).wh,dD c)) (ei [] (ai (a4 (ai (fun _=>Or.inl rfl) (ai nof (Or.inl rfl)))) (ai (by exact (ai (ai (iE (by simp only[zz,reduceCtorEq])) (ai (iE (by simp only[zz,reduceCtorEq])) (ai rfl (fun _ _=>rfl)))) (ai rfl (fun _ _=>rfl)))) (ai trivial (ai (amU hc h40 h5) ?_)))))))
    refine ei (.one 0 (.one 1 (.one 4 (.one 5 (.one 9 (.one 2 (.one 3 (.one 6 (.one 7 (.one 8 (.one 10 (.one 11 (.wr 12 .done))))))))))))) (ai (by kernel_rfl) ?_)
    refine ei _ (ai (acP) (ei ((c.trs.getD i bB).fr) (ei [] (ai (a4 (ai (fun _=>Or.inl rfl) (ai nof (Or.inl rfl)))) (ai (by exact (ai rfl (fun _ _=>rfl))) (ai trivial (ai (⟨x1,by show (c.trs.getD i bB).fr.length≤1000;omega⟩) ?_)))))))
    refine ai (qj (l:=inT (c.trs.getD i bB).fr) (m:=[32,62,32]) rfl rfl (by show _+3≤_;omega)) ?_
    refine ei _ (ai (acP) (ei ((c.trs.getD i bB).to) (ei [] (ai (a4 (ai (fun _=>Or.inl rfl) (ai nof (Or.inl rfl)))) (ai (by exact (ai rfl (fun _ _=>rfl))) (ai trivial (ai (⟨x2,by show (c.trs.getD i bB).to.length≤1000;omega⟩) ?_)))))))
    have hX2:(strOf (inT (c.trs.getD i bB).fr)++strOf [32,62,32])++strOf (inT (c.trs.getD i bB).to)=strOf ((inT (c.trs.getD i bB).fr++[32,62,32])++inT (c.trs.getD i bB).to):=by rw[dR,dR]
    have hX3:((strOf (inT (c.trs.getD i bB).fr)++strOf [32,62,32])++strOf (inT (c.trs.getD i bB).to))++strOf [58,32]=strOf (((inT (c.trs.getD i bB).fr++[32,62,32])++inT (c.trs.getD i bB).to)++[58,32]):=by rw[hX2,dR]
    have hX4:(((strOf (inT (c.trs.getD i bB).fr)++strOf [32,62,32])++strOf (inT (c.trs.getD i bB).to))++strOf [58,32])++strOf (dN (dD c) (c.trs.getD i bB).wh)=strOf ((((inT (c.trs.getD i bB).fr++[32,62,32])++inT (c.trs.getD i bB).to)++[58,32])++dN (dD c) (c.trs.getD i bB).wh):=by rw[hX3,dR]
    have hX5:((((strOf (inT (c.trs.getD i bB).fr)++strOf [32,62,32])++strOf (inT (c.trs.getD i bB).to))++strOf [58,32])++strOf (dN (dD c) (c.trs.getD i bB).wh))++strOf [10]=strOf (lnT (dD c) (c.trs.getD i bB)):=by rw[hX4,dR];rfl
    refine ai (qj (l:=inT (c.trs.getD i bB).fr++[32,62,32]) (m:=inT (c.trs.getD i bB).to) (dR _ _) rfl (by simp only[aas,ait,al7];omega)) ?_
    refine ai (qj (l:=(inT (c.trs.getD i bB).fr++[32,62,32])++inT (c.trs.getD i bB).to) (m:=[58,32]) hX2 rfl (by simp only[aas,ait,al7];omega)) ?_
    refine ai (qj (l:=((inT (c.trs.getD i bB).fr++[32,62,32])++inT (c.trs.getD i bB).to)++[58,32]) (m:=dN (dD c) (c.trs.getD i bB).wh) hX3 rfl (by simp only[aas,ait,al7];omega)) ?_
    refine ai (qj (l:=(((inT (c.trs.getD i bB).fr++[32,62,32])++inT (c.trs.getD i bB).to)++[58,32])++dN (dD c) (c.trs.getD i bB).wh) (m:=[10]) hX4 rfl (by simp only[aas,ait,al7];omega)) ?_
    refine dV (sQ) ((true,[],bK c.sts (k+1)++nA (dD c) c.trs i,lnT (dD c) (c.trs.getD i bB))) [1,3] (a4 (ai rfl rfl)) (Or.inl rfl) ?_ (by exact (ai (ai rfl (ai (ai rfl rfl) rfl)) (ai rfl (ai rfl (ai rfl (fun _ _=>rfl)))))) (⟨by show (bK c.sts (k+1)++nA (dD c) c.trs i).length≤1000000;rw[aas];omega,by show (lnT (dD c) (c.trs.getD i bB)).length≤1000000;omega⟩) ?_
    ·exact (ai (ai rfl rfl) rfl)
    have eN:(bK c.sts (k+1)++nA (dD c) c.trs i)++lnT (dD c) (c.trs.getD i bB)=bK c.sts (k+1)++nA (dD c) c.trs (i+1):=by rw[nA,asz]
    refine ei (i+1) (ai (ai rfl rfl) (ai (ai (ai rfl (ai (ai rfl rfl) (ai (ai rfl rfl) (ai (ai (ai (fun _=>rfl) (aO (by omega))) rfl) (ai (ai (ai (ai rfl rfl) rfl) (ai rfl (ai rfl (ai ?_ ?_)))) trivial))))) rfl) (ai (ai (iL (by omega)) trivial) (iM (by omega)))))
    ·exact congrArg List.length eN
    ·exact lV eN
   ·obtain rfl:i=c.trs.length:=by omega
    have hne:bK c.sts (k+1)++nA (dD c) c.trs c.trs.length≠[]:=fun e=>by
     have:=congrArg List.length e
     rw[aas,bK,aas] at this
     have h7:0<(lnK k (c.sts.getD k st0)).length:=by unfold lnK;rw[aas];exact Nat.succ_pos _
     have:(bK c.sts k).length+(lnK k (c.sts.getD k st0)).length+(nA (dD c) c.trs c.trs.length).length=0:=this
     omega
    refine ak0 (aiS 143 2) rfl rfl rfl rfl (bK c.sts (k+1)++nA (dD c) c.trs c.trs.length) rfl hne (fun j _=>rfl) ?_
    have eT:ajx c=bK c.sts (k+1)++nA (dD c) c.trs c.trs.length:=by unfold ajx;rw[hkn]
    refine ai (ai (fun _=>(by exact (ai trivial trivial))) ?_) trivial
    show aB _ (uX c)
    rw[uX,if_pos hc,hc,eT]
    exact (ai rfl rfl)
def an2:List (Nat×(List Nat→SV))→Nat→List Nat→SV
 | [],_,_=>.any
 | (k,v) :: l,i,ns=>match k.beq i with
  | true=>v ns
  | false=>an2 l i ns
def an5:List (Nat×List Nat)→Nat→List Nat
 | [],_=>[]
 | (k,v) :: l,i=>match k.beq i with
  | true=>v
  | false=>an5 l i
def anR:List (Nat×(List Nat→Ob))→Nat→List Nat→Ob
 | [],_,_=>.cells 0 []
 | (k,v) :: l,i,ns=>match k.beq i with
  | true=>v ns
  | false=>anR l i ns
def hd0:List Nat→Nat
 | []=>0
 | n :: _=>n
def aah (l:List Int):PV:=.seq l.length (bg 1 (l.map iP))
def ag3 (fr to:List Int) (x:Ex):List PV:=[aah fr,aah to,iP x.op,iP x.idx,.seq x.args.length (exF x.args)]
def fkE:List PV:=ag3 [0] [1,2] (oV true)++ag3 [1,2] [0] (oV true)
def fkF (a:Bool):Nat→List PV:=if a=true then jV (bg 5 fkE) 1 0 [aah [1]] else bg 5 fkE
def jo (a:Bool):PV:=.agg [iP 1,.val (.slice none 0 0),.seq 3 (fun _=>[.val (.slice none 0 0),iP 0]),.seq 2 (fkF a)]
def fkX:SV:=.p true (exP (oV true))
def fkI (l:List Int):SV:=.p false (aah l)
def fkT (fr to:List Int):SV:=.p false (.agg (ag3 fr to (oV true)))
def fkS:l5 where
 l:=[0,1,2,3,4,5,6,7,8,9,10,11]
 own:=[9,11]
 u:=an5 [(9,[9]),(10,[9]),(11,[11])]
 f:=an2 [(0,fun _=>.p false (.seq 3 (fun _=>[.val (.slice none 0 0),iP 0]))),(1,fun _=>fkI [0]),(2,fun _=>fkI [1,2]),(3,fun _=>fkX),(4,fun _=>fkT [0] [1,2]),
  (5,fun _=>fkI [1,2]),(6,fun _=>fkI [0]),(7,fun _=>fkX),(8,fun _=>fkT [1,2] [0]),(9,fun ns=>.row (hd0 ns)),
  (10,fun ns=>.agg [.p true (iP 1),.p true (.val (.slice none 0 0)),.p false (.seq 3 (fun _=>[.val (.slice none 0 0),iP 0])),.row (hd0 ns)]),(11,fun ns=>.own (hd0 ns) 0)]
 ob:=anR [(9,fun _=>.row 81 5 2 (bg 5 (ag3 [0] [1,2] (oV true)++ag3 [1,2] [0] (oV true)))),
  (11,fun _=>.cells 26 [.p true (iP 0),.p true (.val (.slice none 0 0)),.p true (.val (.slice none 0 0)),.p true (.val (.slice none 0 0))])]
theorem akd:aK Tryz.prog 58 (iV (fun a:Bool=>[.p false (bP a)]) (fun _=>True) jo):=by
 refine iT [4000006,4000007,4000008,4000011,4000012,4000020] ?_
 refine aX (Tb:=tab) mixed aA Tryz.func58 rfl rfl ?_
 rintro (a:Bool) hpre
 refine ai (ai rfl (ai rfl rfl)) ?_
 refine ei _ (ai (amc) (ei (true) (ei [] (ai (a4 (ai (fun _=>Or.inl rfl) (ai nof (Or.inl rfl)))) (ai (by exact rfl) (ai trivial (ai (trivial) ?_)))))))
 refine ei (.set fkS (.one 12 .done)) (ai (by kernel_rfl) (ai ?_ ?_))
 ·repeat' (first | exact trivial | refine ai ?_ ?_ | exact aog.mk rfl rfl rfl rfl | intro s | decide)
 refine ai trivial (ai (ai trivial (ai ?_ trivial)) (ai (ai trivial (ai ?_ trivial)) trivial))
 ·refine aY (b:=a) rfl (fun h=>?_) (fun h=>?_)
  ·refine ai (ai (by decide) (by decide)) (ai (ai (by decide) (by decide)) ?_)
   refine ai (ai (fun h=>absurd (show false=true from h) (by decide)) ?_) trivial
   show aB _ (jo a)
   rw[show jo a=.agg [iP 1,.val (.slice none 0 0),.seq 3 (fun _=>[.val (.slice none 0 0),iP 0]),.seq 2 (jV (bg 5 fkE) 1 0 [aah [1]])] by unfold jo fkF;rw[if_pos h]]
   exact (ai rfl (ai rfl (ai (ai rfl (fun _ _=>rfl)) (ai rfl (fun _ _=>rfl)))))
  ·refine ai (ai (fun h=>absurd (show false=true from h) (by decide)) ?_) trivial
   show aB _ (jo a)
   rw[show jo a=.agg [iP 1,.val (.slice none 0 0),.seq 3 (fun _=>[.val (.slice none 0 0),iP 0]),.seq 2 (bg 5 fkE)] by unfold jo fkF;rw[if_neg (by rw[h];decide)]]
   exact (ai rfl (ai rfl (ai (ai rfl (fun _ _=>rfl)) (ai rfl (fun _ _=>rfl)))))
 ·refine aY (b:=a) rfl (fun h=>?_) (fun h=>?_)
  ·refine ai (ai (by decide) (by decide)) (ai (ai (by decide) (by decide)) ?_)
   refine ai (ai (fun h=>absurd (show false=true from h) (by decide)) ?_) trivial
   show aB _ (jo a)
   rw[show jo a=.agg [iP 1,.val (.slice none 0 0),.seq 3 (fun _=>[.val (.slice none 0 0),iP 0]),.seq 2 (jV (bg 5 fkE) 1 0 [aah [1]])] by unfold jo fkF;rw[if_pos h]]
   exact (ai rfl (ai rfl (ai (ai rfl (fun _ _=>rfl)) (ai rfl (fun _ _=>rfl)))))
  ·refine ai (ai (fun h=>absurd (show false=true from h) (by decide)) ?_) trivial
   show aB _ (jo a)
   rw[show jo a=.agg [iP 1,.val (.slice none 0 0),.seq 3 (fun _=>[.val (.slice none 0 0),iP 0]),.seq 2 (bg 5 fkE)] by unfold jo fkF;rw[if_neg (by rw[h];decide)]]
   exact (ai rfl (ai rfl (ai (ai rfl (fun _ _=>rfl)) (ai rfl (fun _ _=>rfl)))))
def jM (a:Bool):aW:=⟨1,[],[⟨[],0⟩,⟨[],0⟩,⟨[],0⟩],[⟨[0],[1,2],oV true⟩,⟨if a then [1] else [1,2],[0],oV true⟩]⟩
theorem aoP (a:Bool):gT (jo a) (sU (jM a)):=by
 refine vP (bG (.refl _) (bG (.nil _) (bG (iB fun k hk=>?_) (bG (iB fun k hk=>?_) mY))))
 ·match k,hk with
  | 0,_=>exact aef (.nil _) (.refl _)
  | 1,_=>exact aef (.nil _) (.refl _)
  | 2,_=>exact aef (.nil _) (.refl _)
 ·have one:∀x:Int,gT (aah [x]) (mq [x]):=fun x=>iB fun k hk=>by match k,hk with | 0,_=>exact dw.rfl' _
  have two:∀x y:Int,gT (aah [x,y]) (mq [x,y]):=fun x y=>iB fun k hk=>by match k,hk with | 0,_=>exact dw.rfl' _ | 1,_=>exact dw.rfl' _
  match k,hk with
  | 0,_=>cases a<;>exact bG (one 0) (bG (two 1 2) (dw.rfl' _))
  | 1,_=>
   cases a
   ·exact bG (two 1 2) (bG (one 0) (dw.rfl' _))
   ·exact bG (one 1) (bG (one 0) (dw.rfl' _))
theorem ai9:aK Tryz.prog 58 (iV (fun a:Bool=>[.p false (bP a)]) (fun _=>True) (fun a=>sU (jM a))):=adY akd fun a _=>aoP a
def vrX (n:Int):Ex:=.node 1 n []
def c3:aW:=⟨2,[[115,116,97,114,116]],[⟨[],0⟩,⟨[(0,true)],0⟩,⟨[(1,true)],0⟩,⟨[],150⟩,⟨[(0,false),(1,false)],0⟩],
 [⟨[0],[1],vrX 4⟩,⟨[1],[2],vrX 1⟩,⟨[2],[3],vrX 3⟩,⟨[3],[4],vrX 8⟩,⟨[4],[0],.node 3 0 [vrX 0,vrX 2]⟩]⟩
def aml:List UInt8:=[115,116,101,112,32,48,58,10,115,116,101,112,32,49,58,32,65,43,10,115,116,101,112,32,50,58,32,66,43,10,115,116,101,112,32,51,58,32,49,53,48,10,115,116,101,112,32,52,58,32,65,45,32,66,45,10,48,32,62,32,49,58,32,115,116,97,114,116,10,49,32,62,32,50,58,32,97,49,10,50,32,62,32,51,58,32,98,49,10,51,32,62,32,52,58,32,121,51,10,52,32,62,32,48,58,32,97,48,32,38,32,98,48,10]
theorem aqv:ofC three=c3:=by kernel_rfl
theorem ark:pK three=0:=by decide +kernel
theorem apN:bO c3=0:=by decide +kernel
theorem ao6:ajx c3=aml:=by decide +kernel
theorem apS:jH (gX c3)=[[false,false,false,false,true],[false,false,false,true,false],[false,false,true,false,false],[false,true,false,false,false],[true,false,false,false,false]]:=by decide +kernel
theorem aqb:jH (gX (jM false))=[[false,true,true],[true,false,false]]:=by decide +kernel
theorem ex3:l9 c3=0:=by decide +kernel
theorem asc:l9 (jM false)=0:=by decide +kernel
theorem ar2:l9 (jM true)=0:=by decide +kernel
theorem aqp:ql (jM true)=([0,1,0],true):=by decide +kernel
theorem anJ:jf c3∧∀t∈c3.trs,t.wh.size≤120:=by
 refine ⟨⟨fun s hs=>?_,fun t ht=>?_⟩,fun t ht=>?_⟩
 ·have:∀s∈c3.sts,s.st.length≤2:=by decide
  have:=this s hs;omega
 ·have:∀t∈c3.trs,t.fr.length≤2∧t.to.length≤2∧t.wh.size≤10:=by decide +kernel
  have:=this t ht
  exact ⟨by omega,by omega,by omega⟩
 ·have:∀t∈c3.trs,t.wh.size≤10:=by decide +kernel
  have:=this t ht;omega
theorem ar7:∀t∈c3.trs,abZ t.wh:=by
 intro t ht
 simp only[c3,ah5,List.mem_nil_iff,or_false] at ht
 rcases ht with rfl | rfl | rfl | rfl | rfl
 ·exact .inl rfl
 ·exact .inl rfl
 ·exact .inl rfl
 ·exact .inl rfl
 ·refine .inr ⟨rfl,fun y hy=>?_⟩
  simp only[ah5,List.mem_nil_iff,or_false,Ex.args] at hy
  rcases hy with rfl | rfl<;>rfl
theorem okF (a:Bool):jf (jM a)∧anQ (jM a):=by
 have h1:∀a,∀s∈(jM a).sts,s.st.length≤2:=by decide
 have h2:∀a,∀t∈(jM a).trs,t.fr.length≤2∧t.to.length≤2∧t.wh.size≤10:=by decide +kernel
 refine ⟨⟨fun s hs=>?_,fun t ht=>?_⟩,?_⟩
 ·have:=h1 a s hs;omega
 ·have:=h2 a t ht;exact ⟨by omega,by omega,by omega⟩
 ·cases a<;>exact ⟨by decide,by decide⟩
def mF:List (List Bool):=[[false,true,true],[true,false,false]]
section
variable {z : Int} (hz : z = 0)
include hz
theorem ap1:aK Tryz.prog 18 (iV (fun _:Unit=>[yj three]) (fun _=>True) (fun _=>.tup [sU c3,iP z])):=
 iw yu three trivial (by show PV.tup [sU (ofC three),iP (pK three)]=_;rw[hz,aqv,ark])
theorem aqO:aK Tryz.prog 24 (fnG (fun _:Unit=>[kU c3]) (fun _=>True) (fun _=>.tup [sP aml,iP z])):=by
 have h:aK Tryz.prog 24 (fnG (fun _:Unit=>[kU c3]) (fun _=>True) (fun _=>uX c3)):=⟨adi.1,fun _ _ E vs w hg hh hA=>adi.2 c3 ⟨anJ.1,fun _ t ht=>⟨anJ.2 t ht,ar7 t ht⟩⟩ E vs w hg hh hA⟩
 have e:uX c3=.tup [sP aml,iP z]:=by unfold uX;rw[if_pos apN,apN,ao6,hz]
 rw[e] at h;exact h
theorem aqC:aK Tryz.prog 29 (iV (fun _:Unit=>[kU c3]) (fun _=>True) (fun _=>.tup [bbP [[false,false,false,false,true],[false,false,false,true,false],[false,false,true,false,false],[false,true,false,false,false],[true,false,false,false,false]],iP z])):=
 iw vG c3 anJ.1 (by show nX c3=_;unfold nX;rw[hz,apS,ex3])
theorem aqR:aK Tryz.prog 29 (iV (fun _:Unit=>[kU (jM false)]) (fun _=>True) (fun _=>.tup [bbP mF,iP z])):=
 iw vG (jM false) (okF false).1 (by show nX (jM false)=_;unfold nX;rw[hz,aqb,asc];rfl)
theorem aqG:aK Tryz.prog 13 (iV (fun _:Unit=>[kU (jM true)]) (fun _=>True) (fun _=>.tup [bP false,mq [0,1,0],iP z])):=
 iw aiR (jM true) (okF true).1 (by show tZ (jM true)=_;unfold tZ;rw[if_pos ar2,aqp,hz];rfl)
end
def rwM:PV:=.seq 2 (bg 1 [.seq 3 (bg 1 [bP false,bP true,bP true]),.seq 3 (bg 1 [bP true,bP false,bP false])])
theorem aqx:gT rwM (bbP mF):=iB fun k hk=>by
 match k,hk with
 | 0,_=>exact ahg (iB fun k hk=>by match k,hk with | 0,_=>exact dw.rfl' _ | 1,_=>exact dw.rfl' _ | 2,_=>exact dw.rfl' _)
 | 1,_=>exact ahg (iB fun k hk=>by match k,hk with | 0,_=>exact dw.rfl' _ | 1,_=>exact dw.rfl' _ | 2,_=>exact dw.rfl' _)
theorem smM:adk mF:=⟨by decide,fun m hm=>by
 have:∀m∈mF,m.length≤3:=by decide
 have:=this m hm
 omega⟩
theorem anz:aK Tryz.prog 33 (bQ (fun _:Unit=>[bbA mF,.p false rwM]) (fun _=>True) (fun _=>bP true)):=
 amR (vM ajL (mF,mF) smM (by show bP (decide (mF=mF))=_;rw[decide_eq_true rfl];rfl)) fun _ _=>⟨.inl rfl,.inr ⟨_,_,rfl,rfl,aqx⟩,trivial⟩
theorem aqT:aK Tryz.prog 59 (bQ (fun _:Unit=>[isA [0,1,0],isA [0,1,0]]) (fun _=>True) (fun _=>bP true)):=
 vM apu ([0,1,0],[0,1,0]) (by decide) rfl
def arG:Spec:=fnG (fun _:Unit=>[]) (fun _=>True) (fun _=>bP true)
theorem rX:aK Tryz.prog 12 arG:=by
 refine iT [4000061,4000062,4000063,4000072] ?_
 refine aX (Tb:=tab) mixed aA Tryz.func12 rfl rfl ?_
 rintro ⟨⟩ hpre
 refine ai (ai rfl (ai rfl rfl)) ?_
 obtain ⟨z,hz⟩:∃z:Int,z=0:=⟨0,rfl⟩
 refine ei _ (ai (amA) (ei (()) (ei [] (ai (a4 (ai (fun _=>Or.inl rfl) (ai nof (Or.inl rfl)))) (ai (by exact trivial) (ai trivial (ai (trivial) ?_)))))))
 refine ei _ (ai ((ap1 hz)) (ei (()) (ei [] (ai (a4 (ai (fun _=>Or.inl rfl) (ai nof (Or.inl rfl)))) (ai (by exact (ai rfl (ai rfl (fun _ _=>rfl)))) (ai trivial (ai (trivial) ?_)))))))
 refine ei _ (ai ((aqO hz)) (ei (()) (ei [] (ai (a4 (ai (fun _=>Or.inl rfl) (ai nof (Or.inr rfl)))) (ai (by exact (ai rfl (ai (ai rfl (fun _ _=>rfl)) (ai (ai rfl (fun _ _=>rfl)) (ai rfl (fun _ _=>rfl)))))) (ai trivial (ai (trivial) ?_)))))))
 refine ei _ (ai ((aqC hz)) (ei (()) (ei [] (ai (a4 (ai (fun _=>Or.inl rfl) (ai nof (Or.inl rfl)))) (ai (by exact (ai rfl (ai (ai rfl (fun _ _=>rfl)) (ai (ai rfl (fun _ _=>rfl)) (ai rfl (fun _ _=>rfl)))))) (ai trivial (ai (trivial) ?_)))))))
 refine ei _ (ai (ai9) (ei (false) (ei [] (ai (a4 (ai (fun _=>Or.inl rfl) (ai nof (Or.inl rfl)))) (ai (by exact rfl) (ai trivial (ai (trivial) ?_)))))))
 refine ei _ (ai (aiy) (ei (jM false) (ei [] (ai (a4 (ai (fun _=>Or.inl rfl) (ai nof (Or.inl rfl)))) (ai (by exact (ai rfl (ai (ai rfl (fun _ _=>rfl)) (ai (ai rfl (fun _ _=>rfl)) (ai rfl (fun _ _=>rfl)))))) (ai trivial (ai ((okF false).2) ?_)))))))
 refine ei _ (ai ((aqR hz)) (ei (()) (ei [] (ai (a4 (ai (fun _=>Or.inl rfl) (ai nof (Or.inl rfl)))) (ai (by exact (ai rfl (ai (ai rfl (fun _ _=>rfl)) (ai (ai rfl (fun _ _=>rfl)) (ai rfl (fun _ _=>rfl)))))) (ai trivial (ai (trivial) ?_)))))))
 refine ei _ (ai (ai9) (ei (true) (ei [] (ai (a4 (ai (fun _=>Or.inl rfl) (ai nof (Or.inl rfl)))) (ai (by exact rfl) (ai trivial (ai (trivial) ?_)))))))
 refine ei _ (ai (aiy) (ei (jM true) (ei [] (ai (a4 (ai (fun _=>Or.inl rfl) (ai nof (Or.inl rfl)))) (ai (by exact (ai rfl (ai (ai rfl (fun _ _=>rfl)) (ai (ai rfl (fun _ _=>rfl)) (ai rfl (fun _ _=>rfl)))))) (ai trivial (ai ((okF true).2) ?_)))))))
 refine ei _ (ai ((aqG hz)) (ei (()) (ei [] (ai (a4 (ai (fun _=>Or.inl rfl) (ai nof (Or.inl rfl)))) (ai (by exact (ai rfl (ai (ai rfl (fun _ _=>rfl)) (ai (ai rfl (fun _ _=>rfl)) (ai rfl (fun _ _=>rfl)))))) (ai trivial (ai (trivial) ?_)))))))
 refine aY (b:=true) (by simp only[hz,Int.add_zero,agJ];rfl) (fun _=>?_) (fun h=>absurd h (by decide))
 refine ei _ (ai (anz) (ei (()) (ei [] (ai (a4 (ai (fun _=>Or.inl rfl) (ai nof (Or.inl rfl)))) (ai ?_ (ai trivial (ai ?_ ?_)))))))
 ·exact (ai (ai rfl (fun _ _=>rfl)) (ai rfl (fun _ _=>rfl)))
 ·trivial
 refine ei _ (ai (aqT) (ei (()) (ei [] (ai (a4 (ai (fun _=>Or.inl rfl) (ai nof (Or.inl rfl)))) (ai ?_ (ai trivial (ai ?_ ?_)))))))
 ·refine (ai (ai rfl (fun _ _=>rfl)) (ai rfl ?_))
  (intro k hk;have hk:k<3:=hk;match k,hk with | 0,_=>rfl | 1,_=>rfl | 2,_=>rfl)
 ·trivial
 refine ai (ai (fun _=>trivial) ?_) trivial
 exact rfl
theorem ag5 {c:aW} (h:¬l9 c=0):jh c=[]:=by
 unfold l9 at h
 unfold jh
 split
 ·rename_i h1
  rw[if_pos h1] at h
  cases e:pF c with
  | none=>rfl
  | some l=>rw[e] at h;exact absurd rfl h
 ·rfl
theorem alT {c:aW}:adk (jH (gX c)):=by
 refine ⟨?_,fun m hm=>?_⟩
 ·rw[ahr]
  unfold gX
  rw[ajh]
  by_cases h:l9 c=0
  ·have:=(tq h).2.1;omega
  ·have e:jh c=[]:=ag5 h
   rw[e];exact ae4 _
 ·have hm:=(qX (gX c)).mem_iff.1 hm
  unfold gX at hm
  obtain ⟨y,hy,rfl⟩:=aq4.1 hm
  by_cases h:l9 c=0
  ·have h1:=((tq h).1 y hy).1
   obtain ⟨hc,_⟩:=aac h
   have:=(iO hc).2.2.1
   omega
  ·rw[ag5 h] at hy;cases hy
theorem amg {l:List (List Bool)} {m:List Bool}:abL l m=true↔m∈l:=by
 unfold abL
 rw[arN]
 constructor
 ·rintro ⟨x,hx,h⟩;rw[←of_decide_eq_true h];exact hx
 ·exact fun h=>⟨m,h,decide_eq_true rfl⟩
theorem apq {c:aW} {m:List Bool}:m∈jH (gX c)↔∃y∈jh c,y.1=m:=by
 rw[(qX (gX c)).mem_iff]
 unfold gX
 rw[aq4]
theorem aaB {s:fQ} (h:dY s=0):∀x∈s.sts,dH x=0∧∀y∈x.st,0≤y.1∧y.1<s.act:=by
 unfold dY at h
 split at h
 ·cases h
 split at h
 ·cases h
 split at h
 ·cases h
 split at h
 ·rename_i h4;exact absurd h h4
 rename_i h4
 intro x hx
 obtain ⟨k,hk,rfl⟩:=an4 hx
 have:=kQ (an3.1 h4) k hk
 rw[show s.sts.getD k st0=s.sts[k] by rw[aa7,abb hk];rfl] at this
 exact xW this
def abR (l:List Sk):Prop:=l.Pairwise fun a b=>a.1<b.1
theorem afR {l:List Sk} (h:∀k,0<k→k<l.length→(l.getD (k-1) aR).1<(l.getD k aR).1):abR l:=by
 unfold abR
 rw[asE]
 intro i j hi hj hij
 have key:∀j,j<l.length→∀i,i<j→(l.getD i aR).1<(l.getD j aR).1:=by
  intro j
  induction j with
  | zero=>intro _ i h;exact absurd h (ai8 _)
  | succ j ih=>
   intro hj i hi
   have h1:=h (j+1) (by omega) hj
   rw[show j+1-1=j from rfl] at h1
   by_cases e:i=j
   ·rw[e];exact h1
   ·have:=ih (by omega) i (by omega);omega
 have:=key j hj i hij
 rw[aa7,aa7,abb hi,abb hj] at this
 exact this
theorem aok {x:Stp} (h:dH x=0):abR x.st:=by
 unfold dH at h
 split at h
 ·cases h
 split at h
 ·cases h
 split at h
 ·rename_i h1;exact absurd h h1
 rename_i h1
 have h2:=kQ (an3.1 h1)
 refine afR fun k h0 hk=>?_
 have h3:=h2 k hk
 unfold lS at h3
 split at h3
 ·cases h3
 split at h3
 ·cases h3
 split at h3
 ·cases h3
 rename_i h4 h5
 have e1:¬(x.st.getD k aR).1=(x.st.getD (k-1) aR).1:=fun e=>h4 ⟨h0,e⟩
 have e2:¬(x.st.getD k aR).1<(x.st.getD (k-1) aR).1:=fun e=>h5 ⟨h0,e⟩
 omega
theorem aqM {act:Int} {l:List Sk} {w:Int} (ha:abR l) (hb:∀y∈l,0≤y.1∧y.1<act) (hw:0≤w∧w≤1000000):iQ act ⟨l,w⟩=0:=by
 have e:dK (nJ act l) l.length=0:=fq fun k hk=>by
  unfold nJ
  have h1:=hb _ (acH (bH aR hk))
  rw[if_neg (by omega),if_neg]
  rintro ⟨h0,h2⟩
  have h3:=asE.1 ha (k-1) k (by omega) hk (by omega)
  rw[aa7,aa7,abb hk,abb (show k-1<l.length by omega)] at h2
  simp only[Option.getD_some] at h2
  omega
 unfold iQ
 rw[if_neg (fun h=>h e),if_neg (by show ¬(w<0∨1000000<w);omega)]
theorem zh {j N:Int} (h0:0≤j) (h1:j<N) (h2:N≤256):eH (je j) N=0:=by
 unfold eH
 rw[if_neg (by omega),if_pos ⟨by show (Ex.node 1 j []).size≤256;rw[Ex.size,sizes];omega,by show (Ex.node 1 j []).deep≤16;rw[Ex.deep,jB];omega⟩]
 refine qx fun z hz=>?_
 have hz:z=(1,je j):=by
  have hz:z∈cZ 1 (Ex.node 1 j []):=hz
  rw[lT] at hz
  have hz:z=(1,Ex.node 1 j []):=by simpa [iq,dI] using hz
  exact hz
 rw[hz]
 show aV (.node 1 j []) N=0
 unfold aV
 rw[if_neg (by show ¬((1:Int)<0∨(5:Int)≤1);omega),if_neg (by show ¬(0<nE 1∨aaY 1<0);decide),if_neg]
 show ¬(j<0∨pX 1 N<j)
 unfold pX
 rw[if_neg (by decide),if_pos rfl];omega
theorem aeB:∀(l:List Sk) (z:Nat×Ex),z∈dI 2 (l.map fun y=>je (eP y))→∃y∈l,z.2=je (eP y)
 | [],z,h=>by simp[dI] at h
 | y :: l,z,h=>by
  rw[ak3,dI] at h
  rcases ahi.1 h with h | h
  ·have h:z∈cZ 2 (Ex.node 1 (eP y) []):=h
   rw[lT] at h
   have h:z=(2,Ex.node 1 (eP y) []):=by simpa [iq,dI] using h
   exact ⟨y,by simp,by rw[h];rfl⟩
  ·obtain ⟨w,h1,h2⟩:=aeB l z h
   exact ⟨w,by simp[h1],h2⟩
theorem ale {act:Int} {l:List Sk} {N:Int} (h0:0<l.length) (h6:l.length≤6) (hl:∀y∈l,0≤y.1∧y.1<act) (h1:2*act≤N) (h2:N≤256):eH (zx l) N=0:=by
 have hlim:∀y∈l,0≤eP y∧eP y<N:=fun y hy=>by
  have:=hl y hy
  unfold eP
  split<;>omega
 match l,h0,h6,hlim with
 | [y],_,_,hlim=>exact zh (hlim y (by simp)).1 (hlim y (by simp)).2 h2
 | a :: b :: l,_,h6,hlim=>
  show eH (.node 3 0 ((a :: b :: l).map fun y=>je (eP y))) N=0
  have g1:=aaj (a :: b :: l)
  have g2:=zm (a :: b :: l)
  have g3:((a :: b :: l).map fun y=>je (eP y)).length=l.length+2:=by simp
  have g6:l.length+2≤6:=h6
  unfold eH
  have hy:=hlim a (by simp)
  rw[if_neg (by omega),if_pos ⟨by rw[Ex.size,g1];show l.length+2+1≤256;omega,by rw[Ex.deep];omega⟩]
  refine qx fun z hz=>?_
  rw[lT] at hz
  rcases ah5.1 hz with e | hz
  ·rw[e]
   show aV (.node 3 0 _) N=0
   unfold aV
   rw[if_neg (by show ¬((3:Int)<0∨(5:Int)≤3);omega),if_neg,if_neg]
   ·show ¬((0:Int)<0∨pX 3 N<0)
    unfold pX
    rw[if_neg (by decide),if_neg (by decide)];omega
   ·show ¬(((a :: b :: l).map fun y=>je (eP y)).length<nE 3∨aaY 3<((a :: b :: l).map fun y=>je (eP y)).length)
    rw[g3]
    show ¬(l.length+2<2∨256<l.length+2);omega
  ·have hz:z∈dI 2 ((a :: b :: l).map fun y=>je (eP y)):=by
    unfold iq at hz
    rwa [if_pos (by decide)] at hz
   obtain ⟨y,hy,e⟩:=aeB _ _ hz
   have g:=hlim y hy
   rw[e]
   show aV (.node 1 (eP y) []) N=0
   unfold aV
   rw[if_neg (by show ¬((1:Int)<0∨(5:Int)≤1);omega),if_neg (by show ¬(0<nE 1∨aaY 1<0);decide),if_neg]
   show ¬(eP y<0∨pX 1 N<eP y)
   unfold pX
   rw[if_neg (by decide),if_pos rfl];omega
def okV (act:Int) (m:Nat) (q:SX):Prop:=(abR q.1.st∧(∀y∈q.1.st,0≤y.1∧y.1<act)∧0≤q.1.wt∧q.1.wt≤1000000)∧∀N:Int,2*act+1+(m:Int)≤N→N≤256→eH q.2 N=0
theorem wN {act:Int} {m n:Nat} {q:SX} (h:okV act m q) (hn:m≤n):okV act n q:=⟨h.1,fun N h1 h2=>h.2 N (by omega) h2⟩
theorem anf (act:Int) (p:List SX) (x:Stp):p.length<(kG act p x).length∧(kG act p x).length≤p.length+2:=by
 unfold kG
 split<;>simp
theorem aqa {s:fQ} (ha:1≤s.act) (h:∀x∈s.sts,dH x=0∧∀y∈x.st,0≤y.1∧y.1<s.act):∀q∈fu s,okV s.act (fu s).length q:=by
 have key:∀(l:List Stp) (p:List SX),(∀x∈l,dH x=0∧∀y∈x.st,0≤y.1∧y.1<s.act)→(∀q∈p,okV s.act p.length q)→∀q∈l.foldl (kG s.act) p,okV s.act (l.foldl (kG s.act) p).length q:=by
  intro l
  induction l with
  | nil=>intro p _ h;exact h
  | cons x l ih=>
   intro p hx hp
   rw[asG]
   refine ih _ (fun y hy=>hx y (by simp[hy])) fun q hq=>?_
   obtain ⟨h1,h2⟩:=hx x (by simp)
   obtain ⟨⟨g1,g2⟩,g3,g4,g5⟩:=jI h1
   have g6:=aok h1
   have g7:=anf s.act p x
   have e1:okV s.act p.length (⟨x.st,0⟩,zx x.st):=⟨⟨g6,h2,by show (0:Int)≤0∧(0:Int)≤1000000;omega⟩,fun N hN h256=>ale g1 g2 h2 (by omega) h256⟩
   unfold kG at hq
   split at hq
   ·rename_i hw
    have e2:(kG s.act p x).length=p.length+2:=by unfold kG;rw[if_pos hw];simp
    rcases ahi.1 hq with hq | hq
    ·rcases ahi.1 hq with hq | hq
     ·exact wN (hp q hq) (by omega)
     ·simp only[agb] at hq;subst hq;exact wN e1 (by omega)
    ·simp only[agb] at hq;subst hq
     refine ⟨⟨List.Pairwise.nil,(fun y hy=>by cases hy),g4,g5⟩,fun N hN h256=>?_⟩
     rw[e2] at hN
     exact zh (by omega) (by omega) h256
   ·rcases ahi.1 hq with hq | hq
    ·exact wN (hp q hq) (by omega)
    ·simp only[agb] at hq;subst hq;exact wN e1 (by omega)
 refine key s.sts [(⟨[],0⟩,je (2*s.act))] h fun q hq=>?_
 simp only[agb] at hq;subst hq
 refine ⟨⟨List.Pairwise.nil,(fun y hy=>by cases hy),by show (0:Int)≤0∧(0:Int)≤1000000;omega⟩,fun N hN h256=>?_⟩
 exact zh (by omega) (by have hN:2*s.act+1+((1:Nat):Int)≤N:=hN;omega) h256
theorem anx (s:fQ):0<(fu s).length∧(fu s).length≤2*s.sts.length+1:=by
 have h:=ab4 s s.sts.length (afM _)
 rw[xP,ajh] at h
 exact ⟨h.2,h.1⟩
structure Ring (act:Int) (p:List SX):Prop where
 a1:1≤act
 a6:act≤6
 n0:0<p.length
 n24:p.length≤24
 ok:∀q∈p,okV act p.length q
theorem amh {s:fQ} (h:dY s=0) (h8:s.sts.length≤8):pK s=0∧ofC s=dZ s.act (fu s)∧Ring s.act (fu s):=by
 obtain ⟨⟨a1,a6⟩,_,_⟩:=seq_ok h
 have hl:=anx s
 have h0:pK s=0:=by
  unfold pK
  rw[if_neg (fun e=>e h),if_neg (by rw[xP,ajh];omega)]
 exact ⟨h0,if_pos h0,a1,a6,hl.1,by omega,aqa a1 (aaB h)⟩
section
variable {act : Int} {p : List SX}
theorem xC (act:Int) (p:List SX):(dZ act p).sts.length=p.length∧(dZ act p).trs.length=p.length:=by
 refine ⟨ajh _,?_⟩
 show ((List.range p.length).map (sN p)).length=_
 rw[ajh,ath]
theorem afi (act:Int) (p:List SX) (k:Nat) (hk:k<p.length):(dZ act p).sts.getD k st0=(p.getD k uO).1:=by
 show (p.map (·.1)).getD k st0=_
 rw[aa7,aa7,ais,abb hk];rfl
theorem afk (act:Int) (p:List SX) (k:Nat) (hk:k<p.length):(dZ act p).trs.getD k bB=sN p k:=by
 show ((List.range p.length).map (sN p)).getD k bB=_
 rw[aa7,ais,asR hk];rfl
theorem aiO {n:Nat} {x:Int} (h0:0≤x) (h:x<(n:Int)):kI n [x]=0:=by
 unfold kI
 rw[if_neg (by simp)]
 refine fq fun k hk=>?_
 have hk:k<1:=hk
 obtain rfl:k=0:=by omega
 unfold uM
 split
 ·rename_i h1
  have h1:x<0∨(n:Int)≤x:=h1
  omega
 ·split
  ·rename_i h2;exact absurd h2.1 (atA 0)
  ·rfl
theorem alr {k n:Nat} (h:0<n):0≤toN k n∧toN k n<(n:Int):=by
 unfold toN
 have:=Nat.mod_lt (k+1) h
 omega
theorem agn (R:Ring act p):bO (dZ act p)=0:=by
 obtain ⟨e1,e2⟩:=xC act p
 have a1:=R.a1;have a6:=R.a6;have n0:=R.n0;have n24:=R.n24
 have hv:qy (dZ act p)=2*act+1+(p.length:Int):=by
  unfold qy
  rw[e1]
  show 2*act+((1:Nat):Int)+(p.length:Int)=_
  omega
 unfold bO
 rw[if_neg (by show ¬(act<1∨6<act);omega),if_neg (by show ¬¬gu [afy]=0;exact fun h=>h (by decide)),e1,e2,if_neg (by omega),if_neg (by omega)]
 have h1:dK (fun k=>iQ (dZ act p).act ((dZ act p).sts.getD k st0)) p.length=0:=fq fun k hk=>by
  show iQ act ((dZ act p).sts.getD k st0)=0
  rw[afi act p k hk]
  have:=(R.ok _ (acH (bH uO hk))).1
  exact aqM this.1 this.2.1 this.2.2
 rw[if_neg (fun h=>h h1)]
 refine fq fun k hk=>?_
 show lN (dZ act p) ((dZ act p).trs.getD k bB)=0
 rw[afk act p k hk]
 unfold lN
 rw[e1,if_neg (fun h=>h (aiO (abq _) (by show (k:Int)<_;omega))),if_neg (fun h=>h (aiO (alr n0).1 (alr n0).2)),hv]
 exact (R.ok _ (acH (bH uO hk))).2 _ (aty _) (by omega)
def fV (n k:Nat):List Bool:=(List.replicate n false).set k true
theorem abz (n k:Nat):(fV n k).length=n:=by unfold fV;rw[asK,arP]
theorem sD {n k:Nat} (hk:k<n) (j:Nat):(fV n k).getD j false=decide (j=k):=by
 unfold fV
 rw[aa7,asN]
 by_cases e:j=k
 ·subst e;rw[if_pos rfl,if_pos (by rw[arP];exact hk)];simp
 ·rw[if_neg (fun h=>e h.symm),asu,decide_eq_false e]
  split<;>rfl
theorem afL {n k:Nat} (hk:k<n) (j:Nat):iU (fV n k) (j:Int)=decide (j=k):=by unfold iU;rw[aob];exact sD hk j
theorem anE {n j k:Nat} (hj:j<n) (hk:k<n) (h:fV n j=fV n k):j=k:=by
 have h1:=sD hj j
 rw[h,sD hk] at h1
 simpa using h1
theorem abP {k j:Nat} (hk:k<p.length) (hj:j<p.length):allM (fV p.length k) (ou (dZ act p) j).fr=decide (j=k):=by
 unfold ou
 rw[afk act p j hj]
 show ([(j:Int)]).all (iU (fV p.length k))=_
 rw[List.all_cons,List.all_nil,Bool.and_true,afL hk]
theorem aeS {k:Nat} (hk:k<p.length):kP (fV p.length k) (ou (dZ act p) k)=fV p.length ((k+1) % p.length):=by
 unfold ou
 rw[afk act p k hk]
 show (((List.replicate p.length false).set k true).set (k:Int).toNat false).set (toN k p.length).toNat true=_
 rw[aob,List.set_set,List.set_replicate_self]
 unfold toN fV
 rw[aob]
def rT (n k:Nat):Mk:=(fV n k,(List.range k).map fun j:Nat=>(j:Int))
def iF (n m:Nat):List Mk:=(List.range m).map (rT n)
theorem qH (n m:Nat):(iF n m).length=m:=by unfold iF;rw[ajh,ath]
theorem anl (n:Nat) {m k:Nat} (h:k<m):(iF n m).getD k au=rT n k:=by
 unfold iF
 rw[aa7,ais,asR h];rfl
theorem ajo (n m:Nat):iF n (m+1)=iF n m++[rT n m]:=by unfold iF;rw[List.range_succ,arI];rfl
theorem qZ {n m:Nat} {y:Mk}:y∈iF n m↔∃k,k<m∧y=rT n k:=by
 unfold iF
 rw[aq4]
 constructor
 ·rintro ⟨k,hk,rfl⟩;exact ⟨k,as2.1 hk,rfl⟩
 ·rintro ⟨k,hk,rfl⟩;exact ⟨k,as2.2 hk,rfl⟩
theorem acC {n m k:Nat} (hm:m≤n) (hk:k<n):ny (iF n m) (fV n k)=decide (k<m):=by
 rw[arJ,ani,decide_eq_true_iff]
 constructor
 ·rintro ⟨y,hy,e⟩
  obtain ⟨j,hj,rfl⟩:=qZ.1 hy
  rw[←anE (show j<n by omega) hk e];exact hj
 ·exact fun h=>⟨_,qZ.2 ⟨k,h,rfl⟩,rfl⟩
theorem aeI {a:Nat} (ha:a<p.length):∀k,k≤p.length→dX (dZ act p) (iF p.length (a+1)) a k=if k≤a then iF p.length (a+1) else if a+1<p.length then iF p.length (a+2) else iF p.length (a+1)
 | 0,_=>by rw[if_pos (ae4 _)];rfl
 | k+1,hk=>by
  have ih:=aeI ha k (by omega)
  show jw (dZ act p) (dX (dZ act p) (iF p.length (a+1)) a k) a k=_
  obtain ⟨t,ht⟩:=qm (dZ act p) (iF p.length (a+1)) a k
  have hg:(dX (dZ act p) (iF p.length (a+1)) a k).getD a au=rT p.length a:=by
   rw[ht,anA (by rw[qH];omega),anl _ (by omega)]
  unfold jw adds aC
  rw[hg]
  show (if (allM (fV p.length a) (ou (dZ act p) k).fr&&!ny _ (kP (fV p.length a) (ou (dZ act p) k)))=true then _ else _)=_
  rw[abP ha (by omega)]
  by_cases e:k=a
  ·subst e
   have hR:∀A B C:List Mk,(if k+1≤k then A else if k+1<p.length then B else C)=if k+1<p.length then B else C:=fun A B C=>if_neg (by omega)
   rw[decide_eq_true rfl,arL,aeS ha,ih,if_pos (afM k),hR]
   by_cases h:k+1<p.length
   ·rw[asw h,acC (by omega) h,decide_eq_false (by omega),if_pos (by decide),if_pos h,ajo p.length (k+1)]
    congr 1
    show [(kP (fV p.length k) (ou (dZ act p) k),((List.range k).map fun j:Nat=>(j:Int))++[(k:Int)])]=[rT p.length (k+1)]
    rw[aeS ha,asw h]
    unfold rT
    rw[List.range_succ,arI];rfl
   ·have h2:k+1=p.length:=by omega
    rw[h2,Nat.mod_self,acC (afM _) (by omega),decide_eq_true (show 0<p.length by omega),if_neg (by decide),if_neg (by omega)]
  ·rw[decide_eq_false e,aqd,if_neg (by decide),ih]
   by_cases h:k≤a
   ·rw[if_pos h,if_pos (show k+1≤a by omega)]
   ·rw[if_neg h,if_neg (show ¬k+1≤a by omega)]
theorem ah6 (n24:p.length≤24):∀(d f a:Nat),a+d=p.length→0<d→d≤f→oN (dZ act p) f (iF p.length (a+1)) a=some (iF p.length p.length)
 | 0,_,_,_,h,_=>absurd h (atA 0)
 | d+1,0,_,_,_,h=>absurd h (by omega)
 | d+1,f+1,a,had,_,hf=>by
  have ha:a<p.length:=by omega
  have hr:=aeI (act:=act) ha p.length (afM _)
  rw[if_neg (by omega)] at hr
  have e2:=(xC act p).2
  rw[afE (by rw[qH];omega) (by rw[e2,hr];split<;>rw[qH]<;>omega),e2,hr]
  by_cases h:a+1<p.length
  ·rw[if_pos h]
   exact ah6 n24 d f (a+1) (by omega) (by omega) (by omega)
  ·have h2:a+1=p.length:=by omega
   rw[if_neg h,h2]
   exact ahs (by rw[qH];exact afM _)
theorem mO (R:Ring act p):l9 (dZ act p)=0∧jh (dZ act p)=iF p.length p.length:=by
 have hc:=agn R
 have n0:=R.n0
 have hE:pF (dZ act p)=some (iF p.length p.length):=by
  unfold pF
  have e:mk1 (dZ act p)=iF p.length (0+1):=by
   unfold mk1
   rw[(xC act p).1];rfl
  rw[e]
  exact ah6 R.n24 p.length 16385 0 (by omega) n0 (by have:=R.n24;omega)
 constructor
 ·unfold l9;rw[if_pos hc,hE]
 ·unfold jh;rw[if_pos hc,hE]
theorem amV (R:Ring act p):(jH (gX (dZ act p))).length=p.length:=by
 rw[ahr]
 unfold gX
 rw[(mO R).2,ajh,qH]
theorem amr (R:Ring act p) {k:Nat} (hk:k<p.length):abL (jH (gX (dZ act p))) (fV p.length k)=true:=by
 refine amg.2 (apq.2 ⟨rT p.length k,?_,rfl⟩)
 rw[(mO R).2]
 exact qZ.2 ⟨k,hk,rfl⟩
theorem aej {c:aW} {y:Mk} {s:Bst} (h:∀k,k<c.trs.length→rA c y k=false):∀n,n≤c.trs.length→bZ c y s n=s
 | 0,_=>rfl
 | n+1,hn=>by
  show iW c y (bZ c y s n) n=s
  rw[aej h n (by omega)]
  unfold iW
  rw[h n (by omega),if_neg (by decide)]
theorem afa {c:aW}:∀(l:List Mk) (s:Bst),(∀y∈l,∀k,k<c.trs.length→rA c y k=false)→rE c l s=s
 | [],_,_=>rfl
 | y :: l,s,h=>by
  rw[rE,aej (h y (by simp)) _ (afM _)]
  split
  ·rfl
  ·exact afa l s fun z hz=>h z (by simp[hz])
theorem akA (R:Ring act p):ql (dZ act p)=([],false):=by
 refine afa _ _ fun y hy k hk=>?_
 rw[(mO R).2] at hy
 obtain ⟨a,ha,rfl⟩:=qZ.1 hy
 rw[(xC act p).2] at hk
 unfold rA
 rw[show (rT p.length a).1=fV p.length a from rfl,abP ha hk]
 by_cases e:k=a
 ·subst e
  rw[decide_eq_true rfl,arL]
  unfold wU
  rw[afk act p k hk]
  show ([toN k p.length]).any (lZ (fV p.length k) (sN p k))=false
  rw[asP,atu,asY]
  unfold lZ
  show (iU (fV p.length k) (((k+1) % p.length:Nat):Int)&&!ajj [(k:Int)] (((k+1) % p.length:Nat):Int))=false
  rw[afL hk]
  by_cases e:(k+1) % p.length=k
  ·rw[e];simp[ajj]
  ·rw[decide_eq_false e,aqd]
 ·rw[decide_eq_false e,aqd]
theorem aeZ {p:Nat→Bool}:∀{n:Nat},(∀k,k<n→p k=false)→nD p n=[]
 | 0,_=>rfl
 | n+1,h=>by rw[nD,h n (by omega),if_neg (by decide)];exact aeZ fun k hk=>h k (by omega)
theorem akv (R:Ring act p):ac5 (dZ act p)=[]:=by
 unfold ac5
 rw[if_pos (mO R).1]
 refine aeZ fun k hk=>?_
 rw[(xC act p).2] at hk
 unfold pY
 rw[(mO R).2,Bool.not_eq_false']
 refine arN.2 ⟨_,qZ.2 ⟨k,hk,rfl⟩,?_⟩
 show allM (fV p.length k) (ou (dZ act p) k).fr=true
 rw[abP hk hk,decide_eq_true rfl]
theorem anI {L:List Sk} {i:Int} (h:∀z∈L,z.1≠i) (b:Bool):jN L (i,b)=false:=by
 unfold jN
 rw[aqt]
 intro z hz
 unfold uZ
 have:((i==z.1):Bool)=false:=beq_eq_false_iff_ne.2 fun e=>h z hz e.symm
 rw[this];simp
theorem abE {L:List Sk} {p:Sk→Bool} (h:∀z∈L,p z=false):L.filter p=[]:=by
 rw[List.filter_eq_nil_iff]
 intro z hz;rw[h z hz];decide
theorem agI {i:Int}:∀{L:List Sk},abR L→L.filter (fun y=>decide (y.1<i+1))=(L.filter (fun y=>decide (y.1<i))++if jN L (i,false) then [(i,false)] else [])++if jN L (i,true) then [(i,true)] else []
 | [],_=>by simp[jN]
 | y :: L,h=>by
  have h':=as9.1 h
  have ih:=agI (i:=i) h'.2
  rw[List.filter_cons,List.filter_cons]
  by_cases e:y.1<i
  ·have e1:∀b,jN (y :: L) (i,b)=jN L (i,b):=fun b=>by
    unfold jN
    rw[asP]
    have:uZ (i,b) y=false:=by
     unfold uZ
     have:((i==y.1):Bool)=false:=beq_eq_false_iff_ne.2 fun e2=>by omega
     show ((i==y.1)&&_)=false
     rw[this];rfl
    rw[this,asx]
   rw[if_pos (decide_eq_true (by omega)),if_pos (decide_eq_true e),ih,e1,e1];rfl
  ·have hL:∀z∈L,i<z.1:=fun z hz=>by have:=h'.1 z hz;omega
   have n1:L.filter (fun y=>decide (y.1<i+1))=[]:=abE fun z hz=>decide_eq_false (by have:=hL z hz;omega)
   have n2:L.filter (fun y=>decide (y.1<i))=[]:=abE fun z hz=>decide_eq_false (by have:=hL z hz;omega)
   have n3:∀b,jN L (i,b)=false:=anI fun z hz=>by have:=hL z hz;omega
   have e1:∀b,jN (y :: L) (i,b)=uZ (i,b) y:=fun b=>by
    have:=n3 b
    unfold jN at this ⊢
    rw[asP,this,asY]
   have f1:¬(decide (y.1<i)=true):=by rw[decide_eq_false e];decide
   rw[n1,n2,if_neg f1,e1,e1]
   obtain ⟨q,b⟩:=y
   by_cases e2:q=i
   ·subst e2
    have f2:decide ((q,b).1<q+1)=true:=decide_eq_true (by show q<q+1;omega)
    rw[if_pos f2]
    cases b<;>simp[uZ]
   ·have f2:¬(decide ((q,b).1<i+1)=true):=by
     rw[decide_eq_false (by have e:¬q<i:=e;show ¬q<i+1;omega)];decide
    rw[if_neg f2]
    have:((i==q):Bool)=false:=beq_eq_false_iff_ne.2 fun e=>e2 e.symm
    simp[uZ,this]
theorem anj {q:Nat→Bool} {n k:Nat} (hk:k<n) (h:∀j,j<n→j≠k→q j=false):abD q n=q k:=by
 cases hq:q k with
 | true=>exact xA hk hq
 | false=>
  refine aaT fun j hj=>?_
  by_cases e:j=k
  ·rw[e];exact hq
  ·exact h j hj e
theorem ama {k:Nat} (hk:k<p.length) (x:Sk):onE (dZ act p) (fV p.length k) x=jN (p.getD k uO).1.st x:=by
 unfold onE
 rw[(xC act p).1,anj hk]
 ·unfold onK
  rw[sD hk,decide_eq_true rfl,arL,afi act p k hk]
 ·intro j hj hjk
  unfold onK
  rw[sD hk,decide_eq_false hjk,aqd]
theorem af8 {k:Nat} (hk:k<p.length) (ha:abR (p.getD k uO).1.st) (h0:∀y∈(p.getD k uO).1.st,0≤y.1):∀n,mh (dZ act p) (fV p.length k) n=(p.getD k uO).1.st.filter (fun y=>decide (y.1<(n:Int)))
 | 0=>by
  rw[abE fun z hz=>decide_eq_false (by have:=h0 z hz;omega)];rfl
 | n+1=>by
  rw[mh,af8 hk ha h0 n,ama hk,ama hk,show ((n+1:Nat):Int)=(n:Int)+1 by omega,agI ha]
theorem alO (R:Ring act p) {k:Nat} (hk:k<p.length):lD (dZ act p) (fV p.length k)=0∧mh (dZ act p) (fV p.length k) (dZ act p).act.toNat=((dZ act p).sts.getD k st0).st:=by
 have hc:=agn R
 constructor
 ·unfold lD
  rw[if_neg (fun h=>h hc),if_neg (by rw[abz,(xC act p).1];exact fun h=>h rfl)]
 ·have h:=(R.ok _ (acH (bH uO hk))).1
  rw[afi act p k hk,af8 hk h.1 (fun y hy=>(h.2.1 y hy).1)]
  refine List.filter_eq_self.2 fun y hy=>decide_eq_true ?_
  have:=h.2.1 y hy
  have a1:=R.a1
  show y.1<((act.toNat:Nat):Int)
  omega
end
def fA (l:List Stp):Int:=(l.map (·.wt)).foldr (·+·) 0
theorem wX:∀(a b:List Stp),fA (a++b)=fA a+fA b
 | [],b=>by simp[fA]
 | x :: a,b=>by
  have:=wX a b
  unfold fA at this ⊢
  simp only[atm,ak3,List.foldr_cons]
  rw[this];omega
theorem ab5 (x:Stp):fA [x]=x.wt:=by simp[fA]
theorem uf (a b:List Stp):bE (a++b)=bE a++bE b:=by unfold bE;rw[as7]
theorem tC (x:Stp):bE [x]=x.st:=by simp[bE]
theorem amq {s:fQ} (h:∀x∈s.sts,dH x=0):bE ((fu s).map (·.1))=bE s.sts∧fA ((fu s).map (·.1))=fA s.sts:=by
 have key:∀(l:List Stp) (p:List SX),(∀x∈l,dH x=0)→bE ((l.foldl (kG s.act) p).map (·.1))=bE (p.map (·.1))++bE l∧fA ((l.foldl (kG s.act) p).map (·.1))=fA (p.map (·.1))+fA l:=by
  intro l
  induction l with
  | nil=>intro p _;refine ⟨?_,?_⟩<;>simp[bE,fA]
  | cons x l ih=>
   intro p hx
   have h0:=(jI (hx x (by simp))).2.2.1
   obtain ⟨h1,h2⟩:=ih (kG s.act p x) fun y hy=>hx y (by simp[hy])
   have e:bE ((kG s.act p x).map (·.1))=bE (p.map (·.1))++x.st∧fA ((kG s.act p x).map (·.1))=fA (p.map (·.1))+x.wt:=by
    unfold kG
    split
    ·simp only[arI,ak3,asI,uf,wX,tC,ab5]
     exact ⟨by simp,by omega⟩
    ·simp only[arI,ak3,asI,uf,wX,tC,ab5]
     exact ⟨trivial,by omega⟩
   rw[asG,h1,h2,e.1,e.2]
   have f1:bE (x :: l)=x.st++bE l:=by simp[bE]
   have f2:fA (x :: l)=x.wt+fA l:=by simp[fA]
   rw[f1,f2]
   exact ⟨by rw[asz],by omega⟩
 have:=key s.sts [(⟨[],0⟩,je (2*s.act))] h
 refine ⟨this.1.trans ?_,this.2.trans ?_⟩
 ·simp[bE]
 ·simp[fA]
theorem adE:∀{l:List Stp},(∀x∈l,0≤x.wt∧x.wt≤1000000)→0≤fA l∧fA l≤1000000*(l.length:Int)
 | [],_=>by simp[fA]
 | x :: l,h=>by
  have h1:=h x (by simp)
  have h2:=adE (l:=l) fun y hy=>h y (by simp[hy])
  have f2:fA (x :: l)=x.wt+fA l:=by simp[fA]
  rw[f2,ait];omega
theorem aeE {l:List Stp} {k:Nat} (h:k<l.length):fA (l.take (k+1))=fA (l.take k)+(l.getD k st0).wt:=by rw[aU st0 h,wX,ab5]
def ar4:Spec:=fnG (fun s:fQ=>[yj s]) (fun _=>True) (fun _=>bP true)
theorem ao1:aK Tryz.prog 45 amm:=by
 refine aX (Tb:=tab) mixed aA Tryz.func45 rfl rfl ?_
 rintro (a:List Bool×List Bool) hpre
 refine ai (ai rfl (ai rfl rfl)) ?_
 refine ei _ (ai (aph) (ei ((a.1,a.2)) (ei [] (ai (a4 (ai (fun _=>Or.inl rfl) (ai nof (Or.inl rfl)))) (ai (by exact (ai (ai rfl (fun _ _=>rfl)) (ai rfl (fun _ _=>rfl)))) (ai trivial (ai (hpre) ?_)))))))
 refine ai (ai (fun _=>trivial) ?_) trivial
 exact rfl
theorem ajE {c:aW} (h:alB c):jf c:=⟨h.2.2.1,fun t ht=>⟨(h.2.2.2 t ht).1,(h.2.2.2 t ht).2.1,by have:=(wK.1 (h.2.2.2 t ht).2.2).1;omega⟩⟩
theorem afW {n k:Nat} (hk:k<n) (j:Nat):jV (fun _=>[bP false]) k 0 [bP true] j=[bP ((fV n k).getD j false)]:=by
 rw[sD hk]
 unfold jV
 by_cases e:j=k
 ·rw[if_pos e,decide_eq_true e];rfl
 ·rw[if_neg e,decide_eq_false e]
theorem amG {n k:Nat} (hk:k<n) {m:Nat} (hm:m=n):PV.seq m (jV (fun _=>[bP false]) k 0 [bP true])=kW (fV n k):=by
 subst hm
 unfold kW
 rw[abz,funext (afW hk)]
set_option maxHeartbeats 16000000 in
theorem ajm:aK Tryz.prog 8 ar4:=by
 refine iT [3000124] ?_
 refine aX (Tb:=tab) mixed aA Tryz.func8 rfl rfl ?_
 rintro (s:fQ) hpre
 refine ai (ai rfl (ai rfl rfl)) ?_
 refine ei _ (ai (amL) (ei (s) (ei [] (ai (a4 (ai (fun _=>Or.inl rfl) (ai nof (Or.inl rfl)))) (ai (by exact (ai rfl (ai rfl (fun _ _=>rfl)))) (ai trivial (ai (trivial) ?_)))))))
 refine aY (b:=!lG s) rfl (fun h=>?_) (fun h=>?_)
 ·refine ei _ (ai (rX) (ei (()) (ei [] (ai (a4 (ai (fun _=>Or.inl rfl) (ai nof (Or.inr rfl)))) (ai (by exact trivial) (ai trivial (ai (trivial) ?_)))))))
  refine ai (ai (fun _=>trivial) ?_) trivial
  exact rfl
 have h:lG s=true:=by simpa using h
 refine ah (p:=8<s.sts.length) (av (by omega)) (fun h8=>?_) (fun h8=>?_)
 ·refine ei _ (ai (rX) (ei (()) (ei [] (ai (a4 (ai (fun _=>Or.inl rfl) (ai nof (Or.inr rfl)))) (ai (by exact trivial) (ai trivial (ai (trivial) ?_)))))))
  refine ai (ai (fun _=>trivial) ?_) trivial
  exact rfl
 refine ei _ (ai (aoO) (ei (s) (ei [] (ai (a4 (ai (fun _=>Or.inl rfl) (ai nof (Or.inl rfl)))) (ai (by exact (ai rfl (ai rfl (fun _ _=>rfl)))) (ai trivial (ai (trivial) ?_)))))))
 refine bI (p:=dY s=0) (dh (by omega)) (fun hc=>?_) (fun hc=>?_)
 ·refine ei _ (ai (rX) (ei (()) (ei [] (ai (a4 (ai (fun _=>Or.inl rfl) (ai nof (Or.inr rfl)))) (ai (by exact trivial) (ai trivial (ai (trivial) ?_)))))))
  refine ai (ai (fun _=>trivial) ?_) trivial
  exact rfl
 obtain ⟨hN,hC,R⟩:=amh hc (by omega)
 obtain ⟨z,hz⟩:∃z:Int,z=0:=⟨0,rfl⟩
 have hlight:=alm s
 rw[hC] at hlight
 have ho:=ajE hlight
 have hn:=(xC s.act (fu s)).1
 have htn:=(xC s.act (fu s)).2
 have h24:=R.n24
 have hst:∀k,k<(fu s).length→0≤((dZ s.act (fu s)).sts.getD k st0).wt∧((dZ s.act (fu s)).sts.getD k st0).wt≤1000000:=fun k hk=>by
  rw[afi s.act (fu s) k hk]
  exact (R.ok _ (acH (bH uO hk))).1.2.2
 have hsum:=amq (s:=s) fun x hx=>(aaB hc x hx).1
 have hsts:(dZ s.act (fu s)).sts=(fu s).map (·.1):=rfl
 rw[←hsts] at hsum
 have hst6:∀x∈(dZ s.act (fu s)).sts,x.st.length≤6:=fun x hx=>by
  rw[hsts] at hx
  obtain ⟨q,hq,rfl⟩:=aq4.1 hx
  exact (alD (s:=s) (fun x hx=>(jI (aaB hc x hx).1).1.2) q hq).1
 have hwt:∀x∈s.sts,0≤x.wt∧x.wt≤1000000:=fun x hx=>(jI (aaB hc x hx).1).2.2
 have hA:=fun k hk=>alO R (k:=k) hk
 have hH:=fun k hk=>amr R (k:=k) hk
 have hlen:=amV R
 have hsml:=alT (c:=dZ s.act (fu s))
 refine ei _ (ai ((iw yu s trivial (r:=.tup [sU (dZ s.act (fu s)),iP z]) (by show ofP s=_;unfold ofP;rw[hN,hC,hz]))) (ei (()) (ei [] (ai (a4 (ai (fun _=>Or.inl rfl) (ai nof (Or.inl rfl)))) (ai (by exact (ai rfl (ai rfl (fun _ _=>rfl)))) (ai trivial (ai (trivial) ?_)))))))
 refine ei _ (ai ((iw vG (dZ s.act (fu s)) ho (r:=.tup [bbP (jH (gX (dZ s.act (fu s)))),iP z]) (by show nX _=_;unfold nX;rw[(mO R).1,hz]))) (ei (()) (ei [] (ai (a4 (ai (fun _=>Or.inl rfl) (ai nof (Or.inl rfl)))) (ai (by exact (ai rfl (ai (ai rfl (fun _ _=>rfl)) (ai (ai rfl (fun _ _=>rfl)) (ai rfl (fun _ _=>rfl)))))) (ai trivial (ai (trivial) ?_)))))))
 refine ei _ (ai ((iw aiR (dZ s.act (fu s)) ho (r:=.tup [bP true,mq [],iP z]) (by show tZ _=_;unfold tZ;rw[if_pos (mO R).1,akA R,hz];rfl))) (ei (()) (ei [] (ai (a4 (ai (fun _=>Or.inl rfl) (ai nof (Or.inl rfl)))) (ai (by exact (ai rfl (ai (ai rfl (fun _ _=>rfl)) (ai (ai rfl (fun _ _=>rfl)) (ai rfl (fun _ _=>rfl)))))) (ai trivial (ai (trivial) ?_)))))))
 refine ei _ (ai ((iw aoX (dZ s.act (fu s)) ho (r:=.tup [mq [],iP z]) (by show uI _=_;unfold uI;rw[akv R,(mO R).1,hz]))) (ei (()) (ei [] (ai (a4 (ai (fun _=>Or.inl rfl) (ai nof (Or.inl rfl)))) (ai (by exact (ai rfl (ai (ai rfl (fun _ _=>rfl)) (ai (ai rfl (fun _ _=>rfl)) (ai rfl (fun _ _=>rfl)))))) (ai trivial (ai (trivial) ?_)))))))
 generalize jH (gX (dZ s.act (fu s)))=l at *
 clear R hC hsts hlight
 generalize dZ s.act (fu s)=c at *
 generalize (fu s).length=n at *
 refine aY (b:=false) (by simp only[hz,Int.add_zero,agJ];rfl) (fun h=>absurd h (by decide)) (fun _=>?_)
 refine aY (b:=false) (by show ((((l.length:Nat):Int)) != ((c.sts.length:Nat):Int))=false;rw[hlen,hn];simp) (fun h=>absurd h (by decide)) (fun _=>?_)
 refine aY (b:=false) (by show ((((c.trs.length:Nat):Int)) != ((c.sts.length:Nat):Int))=false;rw[htn,hn];simp) (fun h=>absurd h (by decide)) (fun _=>?_)
 have hwl:∀k,k≤n→(bE (c.sts.take k)).length≤200:=fun k hk=>by
  have:=aad (l:=c.sts.take k) (n:=6) fun x hx=>hst6 x (as5 hx)
  rw[aik] at this;omega
 have hsl:∀k,k≤n→0≤fA (c.sts.take k)∧fA (c.sts.take k)≤24000000:=fun k hk=>by
  have:=adE (l:=c.sts.take k) fun x hx=>by
   obtain ⟨j,hj,rfl⟩:=an4 (as5 hx)
   have:=hst j (by omega)
   rwa [aa7,abb hj] at this
  rw[aik] at this;omega
 have hsl2:∀k,0≤fA (s.sts.take k)∧fA (s.sts.take k)≤8000000:=fun k=>by
  have:=adE (l:=s.sts.take k) fun x hx=>hwt x (as5 hx)
  rw[aik] at this;omega
 refine ei (bF.inv { X:=Nat,up:=fun k=>[(95,.s (iA k)),(12,skR (bE (c.sts.take k))),(13,.s (iA (fA (c.sts.take k))))],uo:=fun k=>[],inv:=fun k=>k≤c.sts.length∧(True),meas:=fun k=>c.sts.length-k,x0:=0 }) ?_
 refine ai (ai (ai (by exact (a4 (ai rfl rfl))) (ai ?_ ?_)) rfl) (ai (ai (ae4 _) ?_) ?_)
 ·exact (ai (ai (ai (fun _=>rfl) (iE (by simp only[zz,reduceCtorEq];rfl))) rfl) (ai rfl (ai (ai (fun _=>rfl) (iE (by simp only[zz,reduceCtorEq];rfl))) rfl)))
 ·exact trivial
 ·trivial
 intro (k:Nat) ⟨hk,_⟩
 refine ah (p:=k<c.sts.length) (av (by omega)) (fun h1=>?_) (fun h1=>?_)
 ·refine ai (ai (abq _) (iN (n:=c.sts.length) (by omega))) (ai rfl ?_)
  have hkn:k<n:=by omega
  obtain ⟨a1,a2⟩:=hA k hkn
  have hH:=hH k hkn
  have hw6:=hst6 _ (acH (bH st0 h1))
  have hnt:((c.sts.length:Int)).toNat=n:=by rw[aob];exact hn
  refine ai (ai (abq _) (ai (aty _) (ai (by show (c.sts.length:Int)≤_;omega) (by show 1*((c.sts.length:Int)).toNat≤_;omega)))) ?_
  refine ai (ai (abq _) (by show (k:Int)<((((c.sts.length:Int)).toNat:Nat):Int);omega)) ?_
  refine ai (ai (by show ((k:Nat):Int).toNat<((c.sts.length:Int)).toNat;omega) (by decide)) ?_
  refine ei _ (ai ((vM ang (c,fV n k) ho (r:=.tup [nZ (c.sts.getD k st0).st,iP z]) (by show uP c (fV n k)=_;unfold uP;rw[if_pos a1,a1,a2,hz]))) (ei (()) (ei [] (ai (ai rfl (ai rfl (ai rfl (ai rfl (ai (fun _=>Or.inl rfl) (ai (fun _=>ai rfl rfl) (Or.inl rfl))))))) (ai ?_ (ai (by exact trivial) (ai (trivial) ?_)))))))
  ·refine (ai (ai rfl (ai (ai rfl (fun _ _=>rfl)) (ai (ai rfl (fun _ _=>rfl)) (ai rfl (fun _ _=>rfl))))) (ai ?_ ?_))
   ·show ((c.sts.length:Int)).toNat=(fV n k).length
    rw[abz];exact hnt
   ·exact fun j _=>afW hkn j
  refine aY (b:=false) (by simp only[hz,Int.add_zero,agJ];rfl) (fun h=>absurd h (by decide)) (fun _=>?_)
  refine ei _ (ai (aiw) (ei (((c.sts.getD k st0).st,(c.sts.getD k st0).st)) (ei [] (ai (a4 (ai (fun _=>Or.inl rfl) (ai nof (Or.inl rfl)))) (ai (by exact (ai (ai rfl (fun _ _=>rfl)) (ai rfl (fun _ _=>rfl)))) (ai trivial (ai ((by show (c.sts.getD k st0).st.length≤1000000;omega)) ?_)))))))
  refine aY (b:=false) (by show (!decide ((c.sts.getD k st0).st=(c.sts.getD k st0).st))=false;simp) (fun h=>absurd h (by decide)) (fun _=>?_)
  refine ei _ (ai ((aoC ao1)) (ei ((l,fV n k)) (ei [] (ai (a4 (ai (fun _=>Or.inl rfl) (ai nof (Or.inl rfl)))) (ai ?_ (ai (by exact trivial) (ai (hsml) ?_)))))))
  ·refine (ai (ai rfl (fun _ _=>rfl)) (ai rfl ?_))
   exact congrArg (fun x=>[PV.pt [x] 0]) (amG hkn hnt)
  refine aY (b:=false) (by show (!abL l (fV n k))=false;rw[hH];rfl) (fun h=>absurd h (by decide)) (fun _=>?_)
  have hw1:=hwl k (by omega)
  refine ai (mxL (n:=(bE (c.sts.take k)).length+(c.sts.getD k st0).st.length) (by omega) (by decide)) (ai (fun _ _=>rfl) ?_)
  have e:bE (c.sts.take (k+1))=bE (c.sts.take k)++(c.sts.getD k st0).st:=by rw[aU st0 h1,uf,tC]
  have e2:=aeE h1
  have e3:=hsl (k+1) (by omega)
  refine ei (k+1) (ai (ai rfl rfl) (ai (ai (ai rfl (ai (ai rfl rfl) (ai (ai rfl rfl) (ai (ai (ai (ai (fun _=>rfl) (aO (by omega))) rfl) (ai (ai rfl (ai rfl (ai ?_ ?_))) (ai (ai (fun _=>rfl) ?_) rfl))) trivial)))) rfl) (ai (ai (iL (by omega)) trivial) (iM (by omega)))))
  ·rw[e,aas];rfl
  ·rw[e];exact alg
  ·rw[e2]
   show IntKind.i64.wrap (fA (c.sts.take k)+(c.sts.getD k st0).wt)=_
   exact wrI (by omega) (by omega)
 obtain rfl:k=c.sts.length:=by omega
 rw[aga]
 refine ei (bF.inv { X:=Nat,up:=fun k=>[(140,.s (iA k)),(14,.s (iA (fA (s.sts.take k))))],uo:=fun k=>[],inv:=fun k=>k≤s.sts.length∧(True),meas:=fun k=>s.sts.length-k,x0:=0 }) ?_
 refine ai (ai (ai (by exact (a4 (ai rfl rfl))) (ai ?_ ?_)) rfl) (ai (ai (ae4 _) ?_) ?_)
 ·exact (ai (ai (ai (fun _=>rfl) (iE (by simp only[zz,reduceCtorEq];rfl))) rfl) (ai (ai (fun _=>rfl) (iE (by simp only[zz,reduceCtorEq];rfl))) rfl))
 ·exact trivial
 ·trivial
 intro (k:Nat) ⟨hk,_⟩
 refine ah (p:=k<s.sts.length) (av (by omega)) (fun h1=>?_) (fun h1=>?_)
 ·refine ai (ai (abq _) (iN (n:=s.sts.length) (by omega))) (ai rfl ?_)
  have e2:=aeE h1
  have e3:=hsl2 (k+1)
  refine ei (k+1) (ai (ai rfl rfl) (ai (ai (ai rfl (ai (ai rfl rfl) (ai (ai rfl rfl) (ai (ai (ai (ai (fun _=>rfl) (aO (by omega))) rfl) (ai (ai (fun _=>rfl) ?_) rfl)) trivial)))) rfl) (ai (ai (iL (by omega)) trivial) (iM (by omega)))))
  rw[e2]
  show IntKind.i64.wrap (fA (s.sts.take k)+(s.sts.getD k st0).wt)=_
  exact wrI (by omega) (by omega)
 obtain rfl:k=s.sts.length:=by omega
 rw[aga]
 refine ei _ (ai (ake) (ei (s) (ei [] (ai (a4 (ai (fun _=>Or.inl rfl) (ai nof (Or.inl rfl)))) (ai (by exact (ai rfl (ai rfl (fun _ _=>rfl)))) (ai trivial (ai (h) ?_)))))))
 have hwn:=hwl n (afM _)
 rw[←hn,aga] at hwn
 refine ei _ (ai (aiw) (ei ((bE c.sts,bE s.sts)) (ei [] (ai (ai rfl (ai rfl (ai rfl (ai rfl (ai (fun _=>Or.inl rfl) (ai (fun _=>ai rfl rfl) (Or.inl rfl))))))) (ai ?_ (ai (by exact trivial) (ai ((by show (bE c.sts).length≤1000000;omega)) ?_)))))))
 ·exact (ai (ai rfl (fun _ _=>rfl)) (ai rfl (fun _ _=>rfl)))
 refine aY (b:=true) (by exact decide_eq_true hsum.1) (fun _=>?_) (fun h=>absurd h (by decide))
 refine aY (b:=true) (by show (fA c.sts==fA s.sts)=true;rw[hsum.2];exact beq_self_eq_true _) (fun _=>?_) (fun h=>absurd h (by decide))
 refine ei _ (ai (rX) (ei (()) (ei [] (ai (a4 (ai (fun _=>Or.inl rfl) (ai nof (Or.inr rfl)))) (ai (by exact trivial) (ai trivial (ai (trivial) ?_)))))))
 refine ai (ai (fun _=>trivial) ?_) trivial
 exact rfl
end Go.Sx.Pe
namespace Go.Sx.Pe
open Go Go.Proofs Go.Sx.Pn Go.ChangeShapes Go.WideShapes Go.ChangeAt Go.RowKit Go.Deep Go.Lib
theorem akS {H:Type} {enc:TypeId×Value→H} {P:Program} {f:Func} {s:ChangeSpec} {S:List TypeId} (hS:Closed P S) {tb:TypeId} (hb:P.underlying tb=some .bool) (hres:f.resultTypes=#[tb])
  {W W':World} {args:Array Value} {ds:List (DataW H)} {before:List MemPlace} (hW:DataW.Whole enc P f.params.toList s.vars false W args.toList ds [] before) (hv:s.vars=[])
  (hA:DataW.TrodAll enc P W 0 (fun _=>true) true f.params.toList args.toList ds before) (hts:∀t∈f.params.toList,t∈S) (hfn:s.fn H (ds++[])={ results:=[.lit (.bool true)],args:=ds,vars:=[] }) (hg:Below W.heap.size W W') :
  s.post enc P f false true false false W args (.bool true) W':=by
 have hlt:=hW.lt
 have hold:∀p∈before,(fun b=>decide (b<W.heap.size)) p.block=true:=fun p hp=>by simpa using hlt p hp
 have hargs:∀sp:Nat→Bool,(∀p∈before,sp p.block=true)→DataW.TrodAll enc P W' 0 sp true f.params.toList args.toList ds before:=fun sp hsp=>z8 hS hg.block hts hA hsp
 have hrt:(Value.bool true).resultList f.resultTypes.size=[.bool true]:=by rw[hres];rfl
 have hr:∀(b:Nat) (sp:Nat→Bool) (hd:Bool),DataW.TrodAll enc P W' b sp hd f.resultTypes.toList ((Value.bool true).resultList f.resultTypes.size) [.lit (.bool true)] []:=fun b sp hd=>by
  rw[hrt,hres];exact trodAll_cons_mk (shut_bool hb true) trodAll_mk0
 refine ⟨ds,[],before,[],before,[],hW,by rw[hfn];exact hr _ _ _,by rw[hfn];exact hargs _ hold,by rw[hfn,hv];rfl,World.keptBut_mono (fun p hp=>⟨hp,.inr (.inl hp)⟩) (hg.frame (·∈before)),fun h=>by cases h⟩
theorem apc:ownKnob Tryz.prog.godebug=none:=by kernel_rfl
theorem aoy {d1 d2 d4 d5:DataW Unit} {n1 n2 n4 n5:String} {W:World} (h:laidMet Tryz.prog [(n1,d1),(n2,d2),("internal/strconv.uint64pow10",Go.Proofs.YteenedbiifampaaGreatDoor.Rows.laid_internal_strconv_uint64pow10),(n4,d4),(n5,d5)] W):∀p∈glP,fJ W p.1=some p.2:=by
 have h3:TabIs Tryz.prog W "internal/strconv.uint64pow10" .u64 Lib.pow10Tab:=
  tabIs_of_head (rest:=[(n4,d4),(n5,d5)]) (show Tryz.prog.globalNamed "internal/strconv.uint64pow10"=some 0 by kernel_rfl) (show (Tryz.prog.globals[0]?).map (·.type)=some 275 by kernel_rfl) Tryz.underlying275 Tryz.underlying252 (by kernel_rfl) (by kernel_rfl) (laidMet.tail (laidMet.tail h))
 intro p hp
 rw[agb.1 hp]
 have h4:World.var? Tryz.prog W "internal/strconv.uint64pow10"=some p10:=h3
 unfold World.var? at h4
 rw[show Tryz.prog.globalNamed "internal/strconv.uint64pow10"=some 0 by kernel_rfl] at h4
 exact h4
def ahn (vs:List Value):Obj→Obj
 | .cells _ t frozen=>.cells vs.toArray t frozen
 | o=>o
def u8s (l:List Nat):List Value:=l.map fun n:Nat=>Value.int .u8 (n:Int)
noncomputable def zw (os:Os):World:=
 { World.holding Tryz.prog os ⟨#[],#[],[]⟩ with heap:=((((((World.holding Tryz.prog os ⟨#[],#[],[]⟩).heap.modify 2 (ahn (u8s Lib.deBruijn32tab))).modify 3 (ahn (u8s Lib.deBruijn64tab))).modify 0 (ahn p10.toList)).modify 5 (ahn (u8s ([128,191,160,191,128,159,144,191,128,143]++List.replicate 22 0)))).modify 4 (ahn (u8s Go.Pinned.utf8FirstZ))) }
theorem aoW {E:Env} {v:Value} {d d':PV} (h:aI E v (.p false d)) (e:gT d d'):aI E v (.p false d'):=by
 cases h with | p _ _ _ hp=>exact .p _ _ _ (qU e hp)
theorem rM {P:Program} {t:TypeId} {fs:Array Field} {n:Nat} {l:List PV} {ts:List TypeId} (hu:P.underlying t=some (.struct fs)) (hts:fs.toList.map (·.type)=ts) (h:Shape P n t l) :
  ∃(n':Nat) (ls:List (List PV)),n=n'+1∧l=ls.flatten∧agh P n' ts ls:=by
 cases n with
 | zero=>exact h.elim
 | succ n=>
  unfold Shape at h;rw[hu] at h
  obtain ⟨ls,rfl,h1,h2⟩:=h
  refine ⟨n,ls,rfl,rfl,aeu ts ls (by rw[h1,←hts];simp) fun i t x ht hx=>?_⟩
  subst hts
  simp only[ais,aeD,asC] at ht
  obtain ⟨f,hf,rfl⟩:=ht
  exact h2 i f x hf hx
theorem afw {P:Program} {t e:TypeId} {n:Nat} {l:List PV} (hu:P.underlying t=some (.slice e)) (h:Shape P n t l):∃(n' m:Nat) (f:Nat→List PV),n=n'+1∧l=[.seq m f]∧∀j,j<m→Shape P n' e (f j):=by
 cases n with
 | zero=>exact h.elim
 | succ n=>unfold Shape at h;rw[hu] at h;obtain ⟨m,f,h1,h2,h3⟩:=h;exact ⟨n,m,f,rfl,h2,h3⟩
theorem alu {α:Type} (d:α) {g:α→List PV} {m:Nat} {f:Nat→List PV} (h:∀j,j<m→∃x,dw (f j) (g x)):∃L:List α,L.length=m∧∀j,j<m→dw (f j) (g (L.getD j d)):=by
 have h1:∀j,∃x:α,j<m→dw (f j) (g x):=fun j=>by
  by_cases hj:j<m
  ·obtain ⟨x,hx⟩:=h j hj;exact ⟨x,fun _=>hx⟩
  ·exact ⟨d,fun h=>absurd h hj⟩
 obtain ⟨c,hc⟩:=Classical.axiomOfChoice h1
 refine ⟨(List.range m).map c,by simp,fun j hj=>?_⟩
 have:((List.range m).map c).getD j d=c j:=by simp[aa7,hj]
 rw[this];exact hc j hj
theorem acY {α:Type} (d:α) {g:α→List PV} {P:Program} {t e:TypeId} {n:Nat} {l:List PV} (hu:P.underlying t=some (.slice e)) (he:∀k x,k<n→Shape P k e x→∃y,dw x (g y)) (h:Shape P n t l):∃L:List α,dw l [.seq L.length (fun j=>g (L.getD j d))]:=by
 obtain ⟨n',m,f,rfl,rfl,hf⟩:=afw hu h
 obtain ⟨L,rfl,hL⟩:=alu d fun j hj=>he n' (f j) (Nat.lt_succ_self _) (hf j hj)
 exact ⟨L,ahg (iB hL)⟩
theorem aiF:∀{a b c d:List PV},dw a b→dw c d→dw (a++c) (b++d)
 | [],[],_,_,_,h=>h
 | x :: a,y :: b,c,d,h,k=>bG (h.2 0 x y rfl rfl) (aiF ⟨by simpa using h.1,fun j s s' hs hs'=>h.2 (j+1) s s' hs hs'⟩ k)
 | [],_ :: _,_,_,h,_=>by have:=h.1;simp at this
 | _ :: _,[],_,_,h,_=>by have:=h.1;simp at this
theorem aav {a b a' b':List PV} (h1:dw a a') (h2:dw b b'):dw [a,b].flatten (a'++b'):=by
 have:[a,b].flatten=a++b:=by simp
 rw[this];exact aiF h1 h2
theorem ag6 {n:Nat} {l:List PV} (h:Shape Tryz.prog n 3 l):∃m:Int,dw l [iP m]:=by
 obtain ⟨m,_,rfl⟩:=alR Tryz.underlying3 h
 exact ⟨m,dw.rfl' _⟩
theorem ao8 {n:Nat} {l:List PV} (h:Shape Tryz.prog n 4 l):∃b:Bool,dw l [bP b]:=by
 obtain ⟨m,rfl⟩:=ajq Tryz.underlying4 h
 exact ⟨m,dw.rfl' _⟩
theorem aq9 {n:Nat} {l:List PV} (h:Shape Tryz.prog n 94 l):∃x:Sk,dw l (vY x):=by
 obtain ⟨n',ls,rfl,rfl,h2⟩:=rM (ts:=[3,4]) Tryz.underlying94 (by decide) h
 match ls,h2 with
 | [a,b],⟨ha,hb,_⟩=>
  obtain ⟨x,hx⟩:=ag6 ha
  obtain ⟨y,hy⟩:=ao8 hb
  exact ⟨(x,y),aav hx hy⟩
theorem aqn {n:Nat} {l:List PV} (h:Shape Tryz.prog n 87 l):∃L:List Sk,dw l [nZ L]:=acY aR (g:=vY) Tryz.underlying87 (fun _ _ _ h=>aq9 h) h
theorem apF {n:Nat} {l:List PV} (h:Shape Tryz.prog n 95 l):∃x:Stp,dw l (stK x):=by
 obtain ⟨n',ls,rfl,rfl,h2⟩:=rM (ts:=[87,3]) Tryz.underlying95 (by decide) h
 match ls,h2 with
 | [a,b],⟨ha,hb,_⟩=>
  obtain ⟨x,hx⟩:=aqn ha
  obtain ⟨y,hy⟩:=ag6 hb
  exact ⟨⟨x,y⟩,aav hx hy⟩
theorem anc {n:Nat} {l:List PV} (h:Shape Tryz.prog n 41 l):∃L:List Stp,dw l [akr L]:=acY st0 (g:=stK) Tryz.underlying41 (fun _ _ _ h=>apF h) h
def acR:List TypeId:=[3,4,9,29,72,22,94,87,95,41,43,108,23,79,77,81,24,26]
theorem xY:Closed Tryz.prog acR:=by
 intro t ht
 simp only[acR,ah5,List.mem_nil_iff,or_false] at ht
 rcases ht with rfl | rfl | rfl | rfl | rfl | rfl | rfl | rfl | rfl | rfl | rfl | rfl | rfl | rfl | rfl | rfl | rfl | rfl<;>kernel_rfl
section
variable {w : World} {r : Reach} {b : Nat} {v : Value} {n : Nat} {l : List PV}
theorem apJ (hv:Value.okWide Tryz.prog w r b 43 v) (hs:Shape Tryz.prog n 43 l) (hr:Rel (fJ w) v.cells.toList l):∃s:fQ,aI (E0 w) v (yj s):=by
 obtain ⟨cs,hc⟩:=al2 Tryz.underlying43 hv
 have hS:=aqf hc hr
 obtain ⟨n',ls,rfl,rfl,h2⟩:=rM (ts:=[3,41]) Tryz.underlying43 (by decide) hs
 match ls,h2 with
 | [a,b],⟨ha,hb,_⟩=>
  obtain ⟨x,hx⟩:=ag6 ha
  obtain ⟨y,hy⟩:=anc hb
  exact ⟨⟨x,y⟩,aoW hS (vP (aav hx hy))⟩
end
end Go.Sx.Pe
namespace Go.Proofs.YteenedbiifampaaGreatDoor.chartCycles
open Go.ChangeShapes Go.WideShapes Go.ChangeAt Go.RowKit Go.Joins Go.Deep Go.Sx Go.Sx.Pn Go.Sx.Pe
set_option maxRecDepth 100000 in
theorem contract (H:Type) (enc:TypeId×Value→H) (W:World) (base:Nat) (args:Array Value) (ds gs:List (DataW H)) (before:List MemPlace)
  (hval:∀(j:Nat) t v,Tryz.f8.params[j]?=some t→args[j]?=some v→Value.okWide Tryz.prog W .any base t v)
  (hW:DataW.Whole enc Tryz.prog Tryz.f8.params.toList Rows.chartCyclesSpec.vars false W args.toList ds gs before) (hL:laidMetH Tryz.prog Rows.chartCyclesRow.laid W) :
  Calls Tryz.prog 8 args W fun e W'=>∃v,e=.returned v∧Rows.chartCyclesSpec.post enc Tryz.prog Tryz.f8 false true false false W args v W':=by
 have hW':=hW
 obtain ⟨p,q,hA0,hV,rfl,hfz,hnd⟩:=hW
 obtain ⟨rfl,rfl⟩:=trodVars_none hV
 have hA:DataW.TrodAll enc Tryz.prog W 0 (fun _=>true) true Tryz.f8.params.toList args.toList ds p:=hA0
 have hA1:=hA
 rw[Tryz.params8] at hA hval
 clear hA0
 obtain ⟨v0,vs0,d0,ds0,p0,q0,hargs0,rfl,rfl,⟨fu0,h0⟩,r0⟩:=trodAll_cons hA
 obtain ⟨rfl,rfl,rfl⟩:=trodAll_nil r0
 obtain rfl:args=#[v0]:=by cases args;simp_all
 obtain ⟨l0,s0,e0⟩:=agL xY fu0 43 _ _ (by decide) h0
 obtain ⟨a0,S0⟩:=apJ (hval 0 _ v0 rfl rfl) s0 e0
 simp only[ap7] at hW' hA1
 refine (ahB ajm a0 trivial W (aoy hL) _ (akq (vs:=[v0]) (ai S0 trivial))).mono fun e W' ⟨he,hg⟩=>?_
 subst he
 exact ⟨_,rfl,akS xY Tryz.underlying4 (by kernel_rfl) hW' rfl hA1 (by rw[Tryz.params8];decide) rfl hg⟩
theorem laid_met (os:Os):laidMet Tryz.prog Rows.chartCyclesRow.laid ((zw os).forCall (fun _ _=>0) ⟨#[],#[.agg #[.int .i64 0,.slice none 0 0]],[]⟩).memory:=
 laidMet_of_run' 8 (by kernel_rfl) (by kernel_rfl)
theorem reads (os:Os) {H:Type} (enc:TypeId×Value→H):∃places,DataW.whole enc Tryz.prog ((zw os).forCall (fun _ _=>0) ⟨#[],#[.agg #[.int .i64 0,.slice none 0 0]],[]⟩).memory Tryz.f8.params.toList Rows.chartCyclesSpec.vars false (Array.toList (α:=Value) #[.agg #[.int .i64 0,.slice none 0 0]]) 8=some ([.agg [.lit (.int .i64 0),.nil]],[],places):=
 ⟨[],by kernel_rfl⟩
set_option maxRecDepth 100000 in
theorem lifted (os:Os) (started:os.Started) (H:Type) (enc:TypeId×Value→H) (F:Stop.Interp) :
  ReturnsInHanded {} Tryz.checked os 8 .any ((OpenSpec.ofChange Rows.chartCyclesSpec).preRow enc Tryz.prog Tryz.f8 Rows.chartCyclesRow.domain false Rows.chartCyclesRow.laid) (((OpenSpec.ofChange Rows.chartCyclesSpec).at F).post enc Tryz.prog Tryz.f8 false true false false):=by
 obtain ⟨places,hx⟩:=reads os enc
 refine returnsInHanded_of_row (C:=Tryz.checked) (s:=OpenSpec.ofChange Rows.chartCyclesSpec) apc started (by kernel_rfl) Tryz.func8
  (witness_row_at (enc:=enc) (C:=Tryz.checked) false (zw os) #[.agg #[.int .i64 0,.slice none 0 0]] rfl (by kernel_rfl) (by kernel_rfl) (by kernel_rfl)
   (OpenSpec.preRow_of_cond 8 hx (by kernel_rfl) (fun k hk=>by cases hk) (by kernel_rfl) (laid_met os))) ?_
 intro W base args ds gs before hval hW _ _ _ hL _ _
 exact contract H enc W base args ds gs before hval hW hL
theorem facts:joinedFacts Tryz.pinned.checked.prog 8 Tryz.f8 (OpenSpec.ofChange Rows.chartCyclesSpec).bare Rows.chartCyclesRow=true:=by kernel_rfl
theorem named:Tryz.pinned.checked.prog.funcNamed Rows.chartCyclesRow.func=some 8:=by kernel_rfl
theorem inst:Tryz.f8.isInstance Tryz.pinned.checked.prog Rows.chartCyclesRow.origin Rows.chartCyclesRow.targs:=of_decide_eq_true (by kernel_rfl)
theorem wrap:Tryz.f8.isWrapper Tryz.pinned.checked.prog Rows.chartCyclesRow.wrapper Rows.chartCyclesRow.mainSum:=by unfold Func.isWrapper;first | (rw[if_pos (by decide +kernel)];kernel_rfl) | (rw[if_neg (by decide +kernel)];exact ⟨rfl,rfl⟩)
theorem said:Rows.ChartCyclesSaid:=
 OpenClaim.holds_of_cond 8 Tryz.f8 rfl rfl rfl rfl rfl rfl rfl ⟨rfl,rfl,rfl,rfl,rfl⟩ rfl rfl rfl rfl rfl named Tryz.func8 facts inst wrap
  (fun os started H enc _ F=>by rw[OpenClaim.pre_eq_preRow];exact lifted os started H enc F)
theorem plain (f:FuncId) (fn:Func) (hf:Tryz.pinned.checked.prog.funcNamed "pneumatic/pneumaticlaw35.ChartCycles"=some f) (hfn:Tryz.pinned.checked.prog.funcs[f]?=some fn) :
  false=Tryz.pinned.checked.prog.looks []∧∀(j:Nat) t,fn.params[j]?=some t→Tryz.pinned.checked.prog.wantsStandIn t=false:=by
 obtain rfl:f=8:=Option.some.inj ((show Tryz.prog.funcNamed "pneumatic/pneumaticlaw35.ChartCycles"=some 8 by kernel_rfl).symm.trans hf) |>.symm
 obtain rfl:fn=Tryz.f8:=(Option.some.inj (Tryz.func8.symm.trans hfn)).symm
 refine ⟨by kernel_rfl,fun j t ht=>?_⟩
 rw[Tryz.params8] at ht
 have hm:∀t∈#[43],Tryz.prog.wantsStandIn t=false:=by decide +kernel
 exact hm t (asV ht)
theorem card:Rows.ChartCyclesCardSaid:=
 Claim7.holds_tied_plain_at .later [] _ _ _ _ said (fun _ h=>by cases h) (by kernel_rfl) (fun _ h=>by cases h) chartCycles_row_tie rfl ⟨rfl,rfl⟩ (by kernel_rfl) rfl plain (by kernel_rfl)
end Go.Proofs.YteenedbiifampaaGreatDoor.chartCycles
